/-
  What the claim stands on, part 7: Ry24 Brd Brs.
-/
import Derived.Test.YtdiflmikikiedaaGreatWef
import Derived.ProofKit
import Derived.Deep.Slices
import Derived.Laws.StructEq
namespace Go.Proofs.YtdiflmikikiedaaGreat
set_option linter.all false
open Go.Proofs.Tryz
open Go.RowKit
theorem RY:∀ args w,(callFunc 12 args).run prog w=.ok (.enter 12 args) w:=enters func12 rfl (by kernel_rfl)
theorem ahv:∀ args w,(callFunc 13 args).run prog w=.ok (.enter 13 args) w:=enters func13 rfl (by kernel_rfl)
theorem ajb:∀ args w,(callFunc 31 args).run prog w=.ok (.enter 31 args) w:=enters func31 rfl (by kernel_rfl)
theorem ajc:∀ args w,(callFunc 32 args).run prog w=.ok (.enter 32 args) w:=enters func32 rfl (by kernel_rfl)
set_option maxHeartbeats 4000000 in
theorem apX (G:GH) (w0:World) (hG:Hold G w0) (D:jM) (d:jA) (hR:oD G D d) (hs:Fy 536870912 d) (id row:Int) :
  Calls prog 8 #[D.val,vi id,vi row] w0 (bH w0 G fun u G'=>u=.bool true):=by
 have hz:=hs.fl;have hts:=Wv d.flow id;obtain ⟨T,hT⟩:∃ T,T=wP d.flow id:=⟨_,rfl⟩;have hrl:=D6 T.rows;rw [← hT] at hts
 have hml:4294967297≤maxLen:=by decide
 refine eN [(0,_),(1,_),(2,_)] func8 rfl ntmps8 rfl rfl hG ?_;intro a H;refine bZ (fun _ K1=>?_);refine dZ (cs:=[_,_,_,_,_,_,_,_,_,_,_]) H wn rfl rfl rfl ?_;clear H;intro b3 a w hb3 H;refine kH H (ak K1 rfl (SQ fun _ K2=>SQ fun _ K3=>?_));clear H K1;intro a H;obtain ⟨Ga,hma,hb',H⟩:=H.eH;have hgd:=fun j v hj=>vw hb' 0 D.cells rfl j v hj;replace hR:=hR.mono hma;refine mP ?_;refine s_call RY H wn rfl (Vi _ _ H.ro) rfl ?_;clear H;rintro v16 nL a w rfl lH H;replace hR:=hR.mono lH;replace hgd:=fun j v hj=>aJ lH (hgd j v hj);refine kH H (Rn rfl (Rm rfl (Sp 18 rfl ?_ ?_))) <;> clear H
 ·intro h18 a H
  try have tL:=dT h18
  refine kH H (aP h18 rfl (aP h18 rfl (Pt h18 rfl (Kn K3 (Ct rfl rfl (SR fun _ K4=>?_))))));clear H K3;intro a H;refine s_call RY H wn rfl (Vi _ _ H.ro) rfl ?_;clear H;rintro v24 Bu a w rfl yK H;replace hR:=hR.mono yK;replace hgd:=fun j v hj=>aJ yK (hgd j v hj);refine kH H (ak K4 rfl ?_);clear H K4;intro a H;refine lr H results8 rfl ?_
  first
   | exact H.rt rfl
   | exact H.rt (by simp_all)
 intro h18 a H
 try have tL:=dF h18
 refine bB ko (cs:=D.cells) H (wg H rfl rfl h18) rfl rfl (fun j v hj=>H.hp.aI (hgd j v hj)) rfl ?_;clear H;intro a H;refine jv arT [_,_] H (wg H rfl rfl h18) rfl rfl rfl rfl ?_;clear H;intro a H;refine s_call ahv H (wg H rfl rfl h18) rfl (arF _ _ H.ro D d hR hs.z [] [] _ _ ⟨av.iL rfl (by decide),av.iL rfl (by decide),by decide,by decide⟩) rfl ?_;clear H;rintro v21 Nk a w ⟨b21,rfl,alg⟩ yJ H;replace hR:=hR.mono yJ;replace hgd:=fun j v hj=>aJ yJ (hgd j v hj);refine kH H (YN h18 rfl (Pf h18 rfl (Kn K3 (Cd rfl ?_ ?_)))) <;> clear H K3
 ·intro h23 a H
  try have vJ:=dT h23
  refine bZ (fun _ K5=>?_);refine s_call RY H wn rfl (Vi _ _ H.ro) rfl ?_;clear H;rintro v24 Bu a w rfl yK H;replace hR:=hR.mono yK;replace hgd:=fun j v hj=>aJ yK (hgd j v hj);refine kH H (ak K5 rfl ?_);clear H K5;intro a H;refine lr H results8 rfl ?_
  first
   | exact H.rt rfl
   | exact H.rt (by simp_all)
 intro h23 a H
 try have vJ:=dF h23
 refine fZ ?_;refine K2 _ _ ?_;clear K2;refine bZ (fun _ K6=>?_);refine bB ko (cs:=D.cells) H wn rfl rfl (fun j v hj=>H.hp.aI (hgd j v hj)) rfl ?_;clear H;intro a H;refine kH H (Rm rfl ?_);clear H;intro a H;refine s_call ajb H wn rfl (apL _ _ H.ro D d hR (by omega) id) rfl ?_;clear H;rintro v28 J9 a w ⟨x28,rfl,Dt⟩ EH H;rw [← hT] at Dt;obtain ⟨vA,vc,rfl,-,-,-⟩:=Dt.slice;rw [aZ,aZ] at *;replace hR:=hR.mono EH;replace hgd:=fun j v hj=>aJ EH (hgd j v hj);refine kH H (Rm rfl ?_);clear H;intro a H;(iterate 2 refine lS H wn rfl rfl rfl ?_;clear H;intro a H);refine kH H (Ra rfl (ak K6 rfl (SR fun _ K7=>?_)));clear H K6;intro a H;refine bB ko (cs:=D.cells) H wn rfl rfl (fun j v hj=>H.hp.aI (hgd j v hj)) rfl ?_;clear H;intro a H;refine kH H (Rm rfl (Rm rfl ?_));clear H;intro a H;refine s_call ajc H wn rfl (apK _ _ H.ro D d hR (by omega) id row) rfl ?_;clear H;rintro v35 QG a w ⟨x35,rfl,EO⟩ Jm H;rw [← hT] at EO H;obtain ⟨wA,wc,rfl,-,-,-⟩:=EO.slice;rw [aZ] at *;replace hR:=hR.mono Jm;replace Dt:=Dt.mono Jm;replace hgd:=fun j v hj=>aJ Jm (hgd j v hj);refine kH H (Rm rfl ?_);clear H;intro a H;(iterate 2 refine lS H wn rfl rfl rfl ?_;clear H;intro a H);refine kH H (Ra rfl (ak K7 rfl (SR fun _ K8=>?_)));clear H K7;intro a H;refine bB ko (cs:=D.cells) H wn rfl rfl (fun j v hj=>H.hp.aI (hgd j v hj)) rfl ?_;clear H;intro a H;refine kH H (Rm rfl ?_);clear H;intro a H;refine s_call Sj H wn rfl (RS _ _ H.ro D d.flow id hR.fl (by omega) (fun a ha=>Nat.le_trans (Qm ha) (by omega))) rfl ?_;clear H;rintro v41 zZ a w ⟨atx,rfl,abk⟩ nS H;rw [show (qR d.flow id).getD J5=T from hT.symm] at abk;obtain ⟨pA,pn,pc,dA,dn,dc,yA,yn,yc,fA,fn,fc,rA,rn,rc,rfl,hh,-,EP⟩:=abk.item;obtain ⟨rA',rc',e,hc1,hc2,hg⟩:=EP.slice
 injection e with e1 e2 e3
 rw [aZ] at e2 hc1;subst e1 e2 e3;replace Dt:=Dt.mono nS;replace EO:=EO.mono nS;refine kH H (Rm rfl ?_);clear H;intro a H;(iterate 2 refine lS H wn rfl rfl rfl ?_;clear H;intro a H);refine dB dL H wn rfl ?_;clear H;intro b11 a w BX H;refine aY dL 0 (vs:=[_,_,_,_,_,_,_,_,_,_,_]) _ H wn rfl rfl rfl rfl rfl rfl rfl rfl ?_;clear H;intro w H;dsimp only [List.set,setRow] at H;refine kH H (ak K8 rfl (SQ fun _ K9=>SQ fun _ aW=>?_));clear H K8;intro a H;obtain ⟨Gb,hmb,BX,H⟩:=H.eH;have hgt:aI Gb b11 (0+10)=some (.slice rA T.rows.length rc):=vw BX 0 [vi T.kind,vi T.code,vi T.id,.string T.text,.slice pA pn pc,vi T.head.marks.ins,vi T.head.marks.move,.slice dA dn dc,.slice yA yn yc,.slice fA fn fc,.slice rA T.rows.length rc] rfl 10 _ rfl;replace Dt:=Dt.mono hmb;replace EO:=EO.mono hmb;refine kP H (SC (Rm rfl (Rn rfl (Kn aW (Cd rfl ?_ ?_))))) <;> clear H aW
 ·intro h45 a H
  try have p45:=dT h45
  have hno:qR d.flow id=none:=by simp_all
  have hTr:T.rows=[]:=by rw [hT];unfold wP;rw [hno];rfl
  have Gq:Ac T row=[]:=Ad (by rw [hTr];simp only [List.length_nil];omega);rw [hTr,Gq,hno] at H;dsimp only [List.length_nil,Option.isSome_none] at H;refine kP H (SR fun _ bO=>Rm rfl (Rl xU rfl (Rm rfl (Rl xU rfl (Rd rfl (Rc rfl (Rm rfl (Sp 52 rfl ?_ ?_)))))))) <;> clear H
  ·intro lG a H
   try have p52:=dT lG
   refine kH H (YM lG rfl (YC lG rfl (Pt lG rfl (Rm rfl (Sp 56 rfl ?_ ?_))))) <;> clear H
   ·intro EA a H
    try have p56:=dT EA
    refine kH H (YM EA rfl (YC EA rfl (Pt EA rfl (ak bO rfl ?_))));clear H bO;intro a H;refine lr H results8 rfl ?_
    first
     | exact H.rt rfl
     | exact H.rt (by simp_all)
   intro EA a H
   try have p56:=dF EA
   refine kH H (aP EA rfl (Pf EA rfl (ak bO rfl ?_)));clear H bO;intro a H;refine lr H results8 rfl ?_
   first
    | exact H.rt rfl
    | exact H.rt (by simp_all)
  intro lG a H
  try have p52:=dF lG
  refine kH H (aP lG rfl (Pf lG rfl (Rm rfl (aP rfl rfl (Pf rfl rfl (ak bO rfl ?_))))));clear H bO;intro a H;refine lr H results8 rfl ?_
  first
   | exact H.rt rfl
   | exact H.rt (by simp_all)
 intro h45 a H
 try have p45:=dF h45
 have hsome:(qR d.flow id).isSome=true:=by simp_all
 rw [au hsome,au hsome] at H;refine kP H (Kc K9 (SQ fun _ bW=>SR fun _ cB=>Rm rfl (Rc rfl (Rm rfl (Sp 62 rfl ?_ ?_))))) <;> clear H K9
 ·intro yG a H
  try have p62:=dT yG
  refine kH H (bD yG rfl (bD yG rfl (Pt yG rfl (Kz cB (Ct rfl rfl (SR fun _ dw=>ak dw rfl ?_))))));clear H cB dw;intro a H;refine lr H results8 rfl ?_
  first
   | exact H.rt rfl
   | exact H.rt (by simp_all)
 intro yG a H
 try have p62:=dF yG
 refine kH H (YM yG rfl (YL xU yG rfl (YF oL yG rfl (YR oV yG rfl hgt (YL kT yG rfl (YC yG rfl (Pf yG rfl (Kz cB (Cd rfl ?_ ?_))))))))) <;> clear H cB
 ·intro sH a H
  try have p69:=dT sH
  first|omega|(exfalso;simp_all;done)
 intro sH a H
 try have p69:=dF sH
 refine kP H (Kc bW (SQ fun _ dR=>SR fun _ dW=>ak dW rfl (SB ?_)));clear H bW dW;intro a H;skip;refine fH (ι:=Nat × GH) (Tc:=[(2,_),(7,_),(9,_),(10,_),(11,_)]) (Lc:=[]) (fun gh=>[(13,vi gh.1)]) (fun gh=>[]) (fun gh=>gh.2) (fun gh=>gh.1≤T.rows.length∧(∀ b o,Gb b=some o→gh.2 b=some o)) (fun gh=>T.rows.length - gh.1) ((0,Gb)) (by exact (H).sub ⟨rfl,rfl,rfl,rfl,rfl,rfl,aC⟩) ?_ ?_
 ·exact ⟨gY _,fun _ _ h=>h⟩
 clear H;rintro ⟨k,g⟩ a w hI H;dsimp only at hI H;obtain ⟨hk,hgm⟩:=hI;dsimp only [lca,bq] at H;refine kP H (SQ fun _ dU=>SR fun _ eG=>Rm rfl (Rm rfl (Rl xU rfl (Rc rfl (Kz eG (Cd rfl ?_ ?_)))))) <;> clear H eG
 ·intro Gg a H
  try have p73:=dT Gg
  have hk2:k < T.rows.length:=by omega
  have Hn:=H;obtain ⟨b1,o1,rfl,h1⟩:=X8 (Dt.mono hgm) (show k < (T.rows.map uK).length by rw [aZ];omega);rw [List.getElem_map] at h1;obtain ⟨b2,o2,cs2,rfl,OE,hrow,hrep⟩:=hg k T.rows[k].dat (by simp [hk2]);obtain ⟨a1,a2,a3,a4,a5,a6,a7,a8,a9,Eo,IJ,Kw,rfl,-⟩:=hrep.row;have Z4:∀ b o,zZ b=some o→g b=some o:=fun b o h=>hgm b o (hmb b o h);replace hrow:=fun j u hj=>aJ Z4 (hrow j u hj);replace hrep:=hrep.mono Z4;have hgt2:=aJ hgm hgt;have H:=Hn;clear Hn;refine kP H (Kc dU (SQ fun _ gu=>SB (SQ fun _ fC=>?_)));clear H dU;intro a H;refine dI hmx [[],[],[0,1],[0,1,2],[],[4],[],[4,5,6],(ra 4 4),(ra 4 5),(ra 0 10)] [] (by kernel_rfl) [_,_,_,_,_,_,_,_,.agg #[.slice a1 a2 a3,vi T.rows[k].head.marks.ins,vi T.rows[k].head.marks.move,.slice a4 a5 a6,.slice a7 a8 a9,.slice Eo IJ Kw],.bool (uK T.rows[k]),.bool (uK T.rows[k] != uK T.rows[k])] H (aF (Z0 rfl (Rm rfl)) (Z0 rfl (Rm rfl)) (Z2 0 76 1 77 rfl (Ri xU pV rfl rfl)) (X1 2 78 rfl fun hG=>Rg pV rfl (aJ hG h1)) (aF (Z0 rfl (Rf oL rfl)) (X1 4 80 rfl fun hG=>Rg oV rfl (aJ hG hgt2)) (Z0 rfl (Rm rfl)) (Z2 5 81 6 82 rfl (Ri kT iW rfl rfl)) (bM ?_ (bM ?_ (bM ?_ dz))))) ?_
  ·refine eP 7 83 rfl rfl fun _ a w G1 hG HT H fin=>?_;refine bB iW (cs:=[.slice a1 a2 a3,vi T.rows[k].head.marks.ins,vi T.rows[k].head.marks.move,.slice a4 a5 a6,.slice a7 a8 a9,.slice Eo IJ Kw]) H wn rfl rfl (fun j v hj=>H.hp.aI (aJ hG (hrow j v hj))) rfl ?_;clear H;intro a H;exact fin H iJ rfl
  ·refine eP 8 84 rfl rfl fun _ a w G1 hG HT H fin=>?_;refine s_call ajd H wn rfl (arB _ _ H.ro T.rows[k] _ (hrep.mono hG)) rfl ?_;clear H;rintro v85 G85 a w rfl akQ H;exact fin H akQ (rfl)
  ·refine dK 3 79 9 85 rfl rfl fun _ a w G1 hG HT H fin=>?_;refine adf adO H wn rfl rfl rfl ?_;clear H;intro a H;exact fin H iJ rfl
  clear H;intro a w G Gn H hv;have H:=H.aM (hv 10 86 rfl rfl) rfl;clear hv;refine aD ⟨rfl,?_⟩;refine fC _ _ ?_;clear fC;refine jC H rfl ?_ ?_
  ·intro Tq
   simp at Tq
  intro Tq
  try have p86:=dF Tq
  refine kP H (Kc gu (SC (Rm rfl (Rd rfl (Ra rfl ?_)))));clear H gu;intro a H;refine aD ?_;refine dM ((k+1,_)) (by exact (H).sub ⟨rfl,rfl,rfl,rfl,rfl,rfl,aC⟩) ?_
  (try dsimp only);exact ⟨by omega,fun b o h=>Gn b o (hgm b o h)⟩
 intro Gg a H
 try have p73:=dF Gg
 refine eu ?_;refine dR _ _ ?_;clear dR;refine kP H (SQ fun _ gH=>SR fun _ iC=>Rm rfl (Rc rfl (Rm rfl (Sp 89 rfl ?_ ?_)))) <;> clear H
 ·intro vC a H
  try have VJ:=dT vC
  refine kH H (bD vC rfl (aP vC rfl (Pt vC rfl (Kz iC (Ct rfl rfl (SQ fun _ jT=>?_))))));clear H iC;intro a H;have Gq:Ac T row=[]:=Ad (by omega);rw [Gq,au (by omega)] at H;dsimp only [List.length_nil] at H;refine kP H (SC (Rm rfl (Rl xU rfl (Rc rfl (Rm rfl (Sp 99 rfl ?_ ?_)))))) <;> clear H
  ·intro pK a H
   try have VK:=dT pK
   refine kH H (YM pK rfl (YC pK rfl (Pt pK rfl (bC jT rfl ?_))));clear H jT;intro a H;refine lr H results8 rfl ?_
   first
    | exact H.rt rfl
    | exact H.rt (by simp_all)
  intro pK a H
  simp [Gq] at pK
 intro vC a H
 try have VJ:=dF vC
 refine kH H (YM vC rfl (YF oL vC rfl (YR oV vC rfl (aJ hgm hgt) (YL kT vC rfl (YC vC rfl (Pf vC rfl (Kz iC (Cd rfl ?_ ?_)))))))) <;> clear H iC
 ·intro Tw a H
  try have p95:=dT Tw
  refine bN (fun _ jN=>?_);have Gq:Ac T row=[]:=Ad (by omega);rw [Gq,au (by omega)] at H;dsimp only [List.length_nil] at H;refine kP H (SC (Rm rfl (Rl xU rfl (Rc rfl (Rm rfl (Sp 99 rfl ?_ ?_)))))) <;> clear H
  ·intro pK a H
   try have VK:=dT pK
   refine kH H (YM pK rfl (YC pK rfl (Pt pK rfl (bC jN rfl ?_))));clear H jN;intro a H;refine lr H results8 rfl ?_
   first
    | exact H.rt rfl
    | exact H.rt (by simp_all)
  intro pK a H
  simp [Gq] at pK
 intro Tw a H
 try have p95:=dF Tw
 obtain ⟨q,rfl⟩:∃ q:Nat,row=q:=⟨row.toNat,by omega⟩
 have hq:q < T.rows.length:=by omega
 have Hn:=H;obtain ⟨b2,o2,uA,un,uc,eA,en,ec,zA,zn,zc,cA,cn,cc,rfl,hrow2,Ch,hcl⟩:=HZ hq hg;obtain ⟨Yd,cc',e,hd1,hd2,hgc⟩:=hcl.slice
 injection e with e1 e2 e3
 rw [aZ] at e2 hd1;subst e1 e2 e3;have H:=Hn;clear Hn;rw [KE hq] at EO H;rw [ah (by omega),aZ] at H;have hr5:=aJ hgm (aJ hmb (hrow2 5 _ rfl));have U7:=Na hq;have aaj:=Fv T.rows[q].cells;refine kP H (Kc gH (SR fun _ jO=>Rf oL rfl (Rg oV rfl (aJ hgm hgt) (Rm rfl ?_))));clear H gH;intro a H;refine vN kT iW q H wn rfl rfl rfl (by omega) rfl ?_;clear H;intro a H;refine kH H (Rf uh rfl (Rg uP rfl hr5 (ak jO rfl (SQ fun _ kU=>SR fun _ lC=>Rm rfl (Rc rfl (Rm rfl (Sp 111 rfl ?_ ?_))))))) <;> clear H jO
 ·intro zy a H
  try have aoP:=dT zy
  refine kH H (bD zy rfl (aP zy rfl (Pt zy rfl (Kz lC (Ct rfl rfl (SR fun _ jP=>ak jP rfl ?_))))));clear H lC jP;intro a H;refine lr H results8 rfl ?_
  first
   | exact H.rt rfl
   | exact H.rt (by simp_all)
 intro zy a H
 try have aoP:=dF zy
 refine kH H (YM zy rfl (YL xU zy rfl (YM zy rfl (YL lu zy rfl (YC zy rfl (Pf zy rfl (Kz lC (Cd rfl ?_ ?_)))))))) <;> clear H lC
 ·intro F7 a H
  try have VF:=dT F7
  first|omega|(exfalso;simp_all;done)
 intro F7 a H
 try have VF:=dF F7
 refine kP H (Kc kU (SQ fun _ nM=>SR fun _ nZ=>ak nZ rfl (SB ?_)));clear H kU nZ;intro a H;skip;refine fH (ι:=Nat × GH) (Tc:=[(9,_),(14,_)]) (Lc:=[]) (fun gh=>[(15,vi gh.1)]) (fun gh=>[]) (fun gh=>gh.2) (fun gh=>gh.1≤T.rows[q].cells.length∧(∀ b o,g b=some o→gh.2 b=some o)) (fun gh=>T.rows[q].cells.length - gh.1) ((0,g)) (by exact (H).sub ⟨rfl,rfl,rfl,aC⟩) ?_ ?_
 ·exact ⟨gY _,fun _ _ h=>h⟩
 clear H;rintro ⟨m,g3⟩ a w hI H;dsimp only at hI H;obtain ⟨hm,tH⟩:=hI;dsimp only [lca,bq] at H;refine kP H (SQ fun _ oF=>SR fun _ oZ=>Rm rfl (Rm rfl (Rl xU rfl (Rc rfl (Kz oZ (Cd rfl ?_ ?_)))))) <;> clear H oZ
 ·intro Tf a H
  try have aoT:=dT Tf
  have hm2:m < T.rows[q].cells.length:=by omega
  have Hn:=H;have akB:∀ b o,zZ b=some o→g3 b=some o:=fun b o h=>tH b o (hgm b o (hmb b o h));obtain ⟨b4,o4,rfl,h4⟩:=X8 ((EO.mono hgm).mono tH) (show m < (T.rows[q].cells.map fun c=>qz c.head).length by rw [aZ];omega);rw [List.getElem_map] at h4;obtain ⟨b3,o3,x1,x2,x3,x4,x5,x6,x7,x8,x9,gA,gn,gc,rfl,hrow3,hch,hcf⟩:=CY hm2 hgc;have hx5:=hch.bJ.len;rw [aZ] at hx5;subst hx5;have fE:=aJ akB (hrow3 4 _ rfl);have H:=Hn;clear Hn;refine kP H (Kc oF (SQ fun _ oG=>SB (SQ fun _ pq=>?_)));clear H oF;intro a H;refine dI hmx [[],[],[0,1],[0,1,2],[],[],[4,5],[4,5,6],(ra 4 4),(ra 4 5),(ra 4 6),(ra 4 7),(ra 4 8),(ra 0 13)] [] (by kernel_rfl) [_,_,_,_,_,_,_,_,_,_,_,_,.bool (qz T.rows[q].cells[m].head),.bool (qz T.rows[q].cells[m].head != qz T.rows[q].cells[m].head)] H (aF (Z0 rfl (Rm rfl)) (Z0 rfl (Rm rfl)) (Z2 0 124 1 125 rfl (Ri xU pV rfl rfl)) (X1 2 126 rfl fun hG=>Rg pV rfl (aJ hG h4)) (aF (Z0 rfl (Rm rfl)) (Z0 rfl (Rm rfl)) (Z2 4 128 5 129 rfl (Ri lu iQ rfl rfl)) (Z1 6 130 rfl (Rf C8 rfl)) (aF (Z1 7 131 rfl (Rf mD rfl)) (Z1 8 132 rfl (Rf qj rfl)) (X1 9 133 rfl fun hG=>Rg qy rfl (aJ hG fE)) (Z1 10 134 rfl (Rl lU rfl)) (bM ?_ (bM ?_ dz))))) ?_
  ·refine eP 11 135 rfl rfl fun _ a w G1 hG HT H fin=>?_;refine kH H (Rc rfl ?_);clear H;intro a H;exact fin H iJ (dO (decide_eq_decide.2 (by omega)))
  ·refine dK 3 127 12 136 rfl rfl fun _ a w G1 hG HT H fin=>?_;refine adf adO H wn rfl rfl rfl ?_;clear H;intro a H;exact fin H iJ rfl
  clear H;intro a w G Je H hv;have H:=H.aM (hv 13 137 rfl rfl) rfl;clear hv;refine aD ⟨rfl,?_⟩;refine pq _ _ ?_;clear pq;refine jC H rfl ?_ ?_
  ·intro Ti
   simp at Ti
  intro Ti
  try have auE:=dF Ti
  refine kP H (Kc oG (SC (Rm rfl (Rd rfl (Ra rfl ?_)))));clear H oG;intro a H;refine aD ?_;refine dM ((m+1,_)) (by exact (H).sub ⟨rfl,rfl,rfl,aC⟩) ?_
  (try dsimp only);exact ⟨by omega,fun b o h=>Je b o (tH b o h)⟩
 intro Tf a H
 try have aoT:=dF Tf
 refine eu ?_;refine nM _ _ ?_;clear nM;refine kP H (SR fun _ rU=>ak rU rfl ?_);clear H rU;intro a H;refine lr H results8 rfl ?_
 first
  | exact H.rt rfl
  | exact H.rt (by simp_all)
section
open Go.ChangeShapes Go.RowKit Go.Deep
abbrev rC (W:World):GH:=fun k=>W.heap[k]?
theorem aks {W:World} {b o:Nat} {v:aj} (h:W.cell? ⟨b,o,none⟩=some v):aI (rC W) b o=some v:=by
 unfold World.cell? at h
 unfold aI rC
 split at h
 ·rename_i c e f hh
  simp only at hh
  rw [hh];simpa using h
 cases h
theorem abD {α:Type} {p:Nat→α→Prop}:∀ n:Nat,(∀ i,i < n→∃ x,p i x)→∃ l:List α,l.length=n∧∀ i x,l[i]?=some x→p i x
 | 0,_=>⟨[],rfl,fun i x h=>by simp at h⟩
 | n+1,h=>by
  obtain ⟨l,hl,hp⟩:=abD n (fun i hi=>h i (by omega));obtain ⟨x,hx⟩:=h n (by omega);refine ⟨l++[x],by simp [hl],fun i y hy=>?_⟩
  by_cases hi:i < l.length
  ·exact hp i y (by rwa [zo hi] at hy)
  rw [sW (by omega)] at hy
  have hin:i - l.length=0:=by
   have:=(jH.1 hy).1
   simp at this;omega
  rw [hin] at hy
  simp only [BJ,oI] at hy
  subst hy;rw [show i=n by omega];exact hx
theorem afk {H:Type} (d:DataW H):1≤Rows.uptoBulk d:=by
 cases d <;> (try simp only [Rows.uptoBulk]) <;> (try omega)
 rename_i x;cases x <;> simp only [Rows.uptoBulk] <;> omega
theorem Yc {H ρ:Type} {dat:ρ→List Dat}:∀ (rs:List ρ) (D:Nat→DataW H),(∀ i r,rs[i]?=some r→bT (dat r)+1≤8*Rows.uptoBulk (D i))→dV (rs.map dat)≤8*Rows.uptoBulkAll ((List.range rs.length).map D)
 | [],D,_=>gY _
 | r :: rs,D,h=>by
  have h0:=h 0 r rfl;have hp:=afk (D 0);have ih:=Yc rs (fun i=>D (i+1)) (fun i r hr=>h (i+1) r (by simpa using hr));rw [kW,List.range_succ_eq_map]
  simp only [fO,List.map_map,dV,Rows.uptoBulkAll]
  have e:(List.map (D ∘ Nat.succ) (List.range rs.length))=(List.map (fun i=>D (i+1)) (List.range rs.length)):=rfl;rw [e];omega
theorem Yb {H:Type} {D:Nat→DataW H}:∀ {n i:Nat},i < n→Rows.uptoBulk (D i)≤Rows.uptoBulkAll ((List.range n).map D)
 | 0,i,h=>absurd h (by omega)
 | n+1,i,h=>by
  have key:∀ (l m:List (DataW H)),Rows.uptoBulkAll (l++m)=Rows.uptoBulkAll l+Rows.uptoBulkAll m:=by
   intro l m
   induction l with
   | nil=>simp [Rows.uptoBulkAll]
   | cons x l ih=>simp only [lD,Rows.uptoBulkAll,ih];omega
  rw [List.range_succ,kY,key]
  by_cases hi:i < n
  ·have:=Yb (D:=D) hi;omega
  have:i=n:=by omega
  subst this
  simp only [fO,sZ,Rows.uptoBulkAll];omega
section
variable {H:Type} {enc:TypeId × aj→H} {P:Program} {W:World} {base:Nat} {spare:Nat→Bool} {held:Bool}
theorem wO {ρ:Type} {dat:ρ→List Dat} {t e:TypeId} {sz:Nat} (hsz:0 < sz) {fuel:Nat} {cs:List aj} {x:DataW H × List MemPlace} (ht:P.underlying t=some (.slice e)) (hc:P.cellsOf e=sz) (h:DataW.trod enc P W base spare held fuel t cs=some x)
  (row:∀ n cs' D Pl,DataW.trod enc P W base spare held n e cs'=some (D,Pl)→Rows.uptoBulk D < Rows.uptoBulk x.1→∃ r:ρ,aR (rC W) (dat r) cs'∧bT (dat r)+1≤8*Rows.uptoBulk D) :
  ∃ (rs:List ρ) (v:aj),cs=[v]∧av (rC W) (.sl sz (rs.map dat)) v∧dV (rs.map dat)+8≤8*Rows.uptoBulk x.1:=by
 rcases open_slice ht h with ⟨rfl,rfl⟩|⟨a,len,cap,m,n,D,Pl,rfl,hb,hl,hm,hmm,rfl,hx⟩
 ·exact ⟨[],_,rfl,av.iL rfl (by decide),by simp [dV,Rows.uptoBulk]⟩
 obtain ⟨rs,hrl,hrs⟩:=abD (p:=fun i (r:ρ)=>∃ cs',W.cells? base (a.add (i*sz)) sz=some cs'∧aR (rC W) (dat r) cs'∧bT (dat r)+1≤8*Rows.uptoBulk (D i)) len (fun i hi=>by
  have him:i < m:=by rw [hmm];split <;> omega
  obtain ⟨cs',h1,h2⟩:=hx i him;rw [hc] at h1;have hb1:=Yb (D:=D) hi;obtain ⟨r,hr1,hr2⟩:=row n cs' (D i) (Pl i) h2 (by simp only [Rows.uptoBulk];omega)
  exact ⟨r,cs',h1,hr1,hr2⟩)
 refine ⟨rs,_,rfl,?_,?_⟩
 ·simp only [av,aZ]
  refine ⟨some a,cap,by rw [hrl],by omega,hm,fun hne=>?_⟩;obtain ⟨b,off,spot⟩:=a
  have hlen:0 < rs.length:=by cases rs with|nil=>simp at hne|cons _ _=>simp
  obtain ⟨cs0,h1,-,-⟩:=hrs 0 rs[0] (eD hlen);obtain ⟨-,hl0,hg0⟩:=World.cells?_some h1
  have hspot:spot=none:=by
   have h3:=hg0 0 hsz;rw [eD (by omega)] at h3
   simpa [Addr.add] using World.cell?_spot h3
  subst hspot;refine ⟨b,off,rfl,nu.mk fun k r hk=>?_⟩;rw [pE] at hk;obtain ⟨y,hy,rfl⟩:=qg.1 hk;obtain ⟨cs',h2,h3,-⟩:=hrs k y hy;obtain ⟨-,hl1,hg1⟩:=World.cells?_some h2;refine ⟨cs',hl1,fun j u hj=>aks ?_,h3⟩
  have hj2:j < sz:=by rw [← hl1];exact (jH.1 hj).1
  have:=hg1 j hj2;rw [add_add,Go.WideShapes.add_plain] at this;rw [show off+k*sz+j=off+(k*sz+j) by omega,this];exact hj
 have:=Yc rs D (fun i r hr=>(hrs i r hr).choose_spec.2.2);rw [hrl] at this
 simp only [Rows.uptoBulk];omega
end
structure tQ (P:Program) (t:TypeId) (sz:Nat) (fs:List (TypeId × Nat × Nat)):Prop where
 und:P.underlying t=some (.struct (P.fieldsOf t))
 cells:P.cellsOf t=sz
 Le:(P.fieldsOf t).toList.map (fun f=>(f.type,f.offset,P.cellsOf f.type))=fs
theorem vK {P:Program} {H:Type} {enc:TypeId × aj→H} {W:World} {base:Nat} {spare:Nat→Bool} {held:Bool} {t:TypeId} {sz fuel:Nat} {fs:List (TypeId × Nat × Nat)} {cs:List aj} {x:DataW H × List MemPlace} (hs:tQ P t sz fs) (h:DataW.trod enc P W base spare held fuel t cs=some x) :
  ∃ (xs:List (DataW H × List MemPlace)) (n:Nat),x.1=.agg (xs.map (·.1))∧cs.length=sz∧xs.length=fs.length∧∀ (i:Nat) (ti:TypeId) (off k:Nat),fs[i]?=some (ti,off,k)→DataW.trod enc P W base spare held n ti ((cs.drop off).take k)=xs[i]?:=by
 obtain ⟨xs,n,-,rfl,hl,hxl,hf⟩:=DataW.trod_struct hs.und h;refine ⟨xs,n,rfl,by rw [hl,hs.cells],by rw [hxl,← hs.Le];simp,fun i ti off k hi=>?_⟩;rw [← hs.Le,pE] at hi;obtain ⟨f,hf1,hf2⟩:=qg.1 hi
 simp only [iF] at hf2
 obtain ⟨rfl,rfl,rfl⟩:=hf2;exact hf i f (by simpa using hf1)
section
variable {H:Type} {enc:TypeId × aj→H} {W:World} {base:Nat} {spare:Nat→Bool} {held:Bool}
theorem aru:tQ prog 187 2 [(3,0,1),(3,1,1)]:=⟨by kernel_rfl,by kernel_rfl,by kernel_rfl⟩
theorem acE {n:Nat} {cs:List aj} {D:DataW H} {Pl:List MemPlace} (h:DataW.trod enc prog W base spare held n 187 cs=some (D,Pl)):∃ r:aO,aR (rC W) r.dat cs∧bT r.dat+1≤8*Rows.uptoBulk D:=by
 obtain ⟨xs,m,hx,hl,hxl,hf⟩:=vK aru h
 match cs,hl,xs,hxl with
 | [c0,c1],_,[y0,y1],_ =>
  have h0:=hf 0 _ _ _ rfl;have h1:=hf 1 _ _ _ rfl;obtain ⟨k0,e0,d0,-⟩:=DataW.trod_int underlying3 h0;obtain ⟨k1,e1,d1,-⟩:=DataW.trod_int underlying3 h1
  simp at e0 e1
  subst e0 e1
  simp only at hx
  refine ⟨⟨k0,k1⟩,?_,?_⟩
  ·simp [aR,aO.dat,av,Value.oneCell']
  rw [hx];simp [d0,d1,aO.dat,bT,mJ,Rows.uptoBulk,Rows.uptoBulkAll]
theorem ark:tQ prog 159 2 [(3,0,1),(3,1,1)]:=⟨by kernel_rfl,by kernel_rfl,by kernel_rfl⟩
theorem apt {n:Nat} {cs:List aj} {D:DataW H} {Pl:List MemPlace} (h:DataW.trod enc prog W base spare held n 159 cs=some (D,Pl)):∃ r:gq,aR (rC W) r.dat cs∧bT r.dat+1≤8*Rows.uptoBulk D:=by
 obtain ⟨xs,m,hx,hl,hxl,hf⟩:=vK ark h
 match cs,hl,xs,hxl with
 | [c0,c1],_,[y0,y1],_ =>
  have h0:=hf 0 _ _ _ rfl;have h1:=hf 1 _ _ _ rfl;obtain ⟨k0,e0,d0,-⟩:=DataW.trod_int underlying3 h0;obtain ⟨k1,e1,d1,-⟩:=DataW.trod_int underlying3 h1
  simp at e0 e1
  subst e0 e1
  simp only at hx
  refine ⟨⟨k0,k1⟩,?_,?_⟩
  ·simp [aR,gq.dat,av,Value.oneCell']
  rw [hx];simp [d0,d1,gq.dat,bT,mJ,Rows.uptoBulk,Rows.uptoBulkAll]
theorem aro:tQ prog 161 4 [(3,0,1),(3,1,1),(3,2,1),(4,3,1)]:=⟨by kernel_rfl,by kernel_rfl,by kernel_rfl⟩
theorem apw {n:Nat} {cs:List aj} {D:DataW H} {Pl:List MemPlace} (h:DataW.trod enc prog W base spare held n 161 cs=some (D,Pl)):∃ r:cO,aR (rC W) r.dat cs∧bT r.dat+1≤8*Rows.uptoBulk D:=by
 obtain ⟨xs,m,hx,hl,hxl,hf⟩:=vK aro h
 match cs,hl,xs,hxl with
 | [c0,c1,c2,c3],_,[y0,y1,y2,y3],_ =>
  have h0:=hf 0 _ _ _ rfl;have h1:=hf 1 _ _ _ rfl;have h2:=hf 2 _ _ _ rfl;have h3:=hf 3 _ _ _ rfl;obtain ⟨k0,e0,d0,-⟩:=DataW.trod_int underlying3 h0;obtain ⟨k1,e1,d1,-⟩:=DataW.trod_int underlying3 h1;obtain ⟨k2,e2,d2,-⟩:=DataW.trod_int underlying3 h2;obtain ⟨k3,e3,d3⟩:=DataW.trod_bool underlying4 h3
  simp at e0 e1 e2 e3
  subst e0 e1 e2 e3
  simp only at hx
  refine ⟨⟨k0,k1,k2,k3⟩,?_,?_⟩
  ·simp [aR,cO.dat,av,Value.oneCell']
  rw [hx];simp [d0,d1,d2,d3,cO.dat,bT,mJ,Rows.uptoBulk,Rows.uptoBulkAll]
theorem ars:tQ prog 27 4 [(3,0,1),(3,1,1),(24,2,1),(25,3,1)]:=⟨by kernel_rfl,by kernel_rfl,by kernel_rfl⟩
theorem arl:tQ prog 29 5 [(23,0,1),(27,1,4)]:=⟨by kernel_rfl,by kernel_rfl,by kernel_rfl⟩
theorem Yk:prog.cellsOf 187=2:=by kernel_rfl
theorem afy:prog.cellsOf 159=2:=by kernel_rfl
theorem afz:prog.cellsOf 161=4:=by kernel_rfl
theorem PV {n:Nat} {cs:List aj} {x:DataW H × List MemPlace} (h:DataW.trod enc prog W base spare held n 29 cs=some x):∃ (r:dQ) (p d l:aj),cs=[p,vi r.marks.ins,vi r.marks.move,d,l]∧jc (rC W) r p d l∧mh r+15≤8*Rows.uptoBulk x.1:=by
 obtain ⟨xs,m,hx,hl,hxl,hf⟩:=vK arl h
 match cs,hl,xs,hxl with
 | [c0,c1,c2,c3,c4],_,[y0,y1],_ =>
  have h0:=hf 0 _ _ _ rfl;have h1:=hf 1 _ _ _ rfl;obtain ⟨ps,pv,e0,rp,sp⟩:=wO (dat:=aO.dat) (sz:=2) (by omega) underlying23 Yk h0 (fun n cs' D Pl hh _=>acE hh);obtain ⟨zs,m2,hz,hzl,hzx,Mq⟩:=vK ars h1
  match zs,hzx with
  | [z0,z1,z2,z3],_ =>
   have g0:=Mq 0 _ _ _ rfl;have g1:=Mq 1 _ _ _ rfl;have g2:=Mq 2 _ _ _ rfl;have g3:=Mq 3 _ _ _ rfl;obtain ⟨k0,e1,d0,-⟩:=DataW.trod_int underlying3 g0;obtain ⟨k1,e2,d1,-⟩:=DataW.trod_int underlying3 g1;obtain ⟨ds,dv,e3,rd,sd⟩:=wO (dat:=gq.dat) (sz:=2) (by omega) underlying24 afy g2 (fun n cs' D Pl hh _=>apt hh);obtain ⟨ls,lv,e4,rl,sl⟩:=wO (dat:=cO.dat) (sz:=4) (by omega) underlying25 afz g3 (fun n cs' D Pl hh _=>apw hh)
   simp at e0 e1 e2 e3 e4
   subst e0 e1 e2 e3 e4;refine ⟨⟨ps,⟨k0,k1,ds,ls⟩⟩,_,_,_,rfl,⟨rp,rd,rl⟩,?_⟩;have hzh:=Fw ⟨ps,⟨k0,k1,ds,ls⟩⟩
   simp only at hzh
   rw [hx]
   simp only [fO,sZ,Rows.uptoBulk,Rows.uptoBulkAll,hz,d0,d1]
   omega
theorem arn:tQ prog 68 11 [(3,0,1),(3,1,1),(3,2,1),(9,3,1),(29,4,5),(22,9,1),(66,10,1)]:=⟨by kernel_rfl,by kernel_rfl,by kernel_rfl⟩
theorem arv:tQ prog 74 6 [(29,0,5),(72,5,1)]:=⟨by kernel_rfl,by kernel_rfl,by kernel_rfl⟩
theorem ari:tQ prog 76 7 [(3,0,1),(29,1,5),(22,6,1)]:=⟨by kernel_rfl,by kernel_rfl,by kernel_rfl⟩
theorem Rx:prog.cellsOf 68=11:=by kernel_rfl
theorem afC:prog.cellsOf 74=6:=by kernel_rfl
theorem afw:prog.cellsOf 76=7:=by kernel_rfl
theorem acD:∀ (N:Nat) (n:Nat) (cs:List aj) (D:DataW H) (Pl:List MemPlace),DataW.trod enc prog W base spare held n 68 cs=some (D,Pl)→Rows.uptoBulk D < N→∃ r:ay,aR (rC W) r.dat cs∧bT r.dat+1≤8*Rows.uptoBulk D
 | 0,_,_,_,_,_,hN=>absurd hN (by omega)
 | N+1,n,cs,D,Pl,h,hN=>by
  have ih:=acD N;obtain ⟨xs,m,hx,hl,hxl,hf⟩:=vK arn h
  match cs,hl,xs,hxl with
  | [c0,c1,c2,c3,c4,c5,c6,c7,c8,c9,c10],_,[y0,y1,y2,y3,y4,y5,y6],_ =>
   have h0:=hf 0 _ _ _ rfl;have h1:=hf 1 _ _ _ rfl;have h2:=hf 2 _ _ _ rfl;have h3:=hf 3 _ _ _ rfl;have h4:=hf 4 _ _ _ rfl;have h5:=hf 5 _ _ _ rfl;have h6:=hf 6 _ _ _ rfl
   simp only at hx
   have hD:Rows.uptoBulk D=Rows.uptoBulk y0.1+(Rows.uptoBulk y1.1+(Rows.uptoBulk y2.1+(Rows.uptoBulk y3.1+(Rows.uptoBulk y4.1+(Rows.uptoBulk y5.1+(Rows.uptoBulk y6.1+0))))))+1:=by
    rw [hx];simp only [fO,sZ,Rows.uptoBulk,Rows.uptoBulkAll]
   obtain ⟨k0,e0,d0,-⟩:=DataW.trod_int underlying3 h0;obtain ⟨k1,e1,d1,-⟩:=DataW.trod_int underlying3 h1;obtain ⟨k2,e2,d2,-⟩:=DataW.trod_int underlying3 h2;obtain ⟨s,e3,d3,-⟩:=DataW.trod_string underlying9 h3;obtain ⟨hd,p,d,l,e4,rh,sh⟩:=PV h4;obtain ⟨fl,fv,e5,rf,sf⟩:=wO (dat:=ay.dat) (sz:=11) (by omega) underlying22 Rx h5 (fun n cs' D' cZ hh hlt=>ih n cs' D' cZ hh (by omega))
   obtain ⟨rs,rv,e6,rr,sr⟩:=wO (dat:=aS.dat) (sz:=6) (by omega) underlying66 afC h6 (fun n cs' D' cZ hh hlt=>by
    obtain ⟨xs,m,hx,hl,hxl,hf⟩:=vK arv hh
    match cs',hl,xs,hxl with
    | [a0,a1,a2,a3,a4,a5],_,[w0,w1],_ =>
     have g0:=hf 0 _ _ _ rfl;have g1:=hf 1 _ _ _ rfl
     simp only at hx
     have hD':Rows.uptoBulk D'=Rows.uptoBulk w0.1+(Rows.uptoBulk w1.1+0)+1:=by
      rw [hx];simp only [fO,sZ,Rows.uptoBulk,Rows.uptoBulkAll]
     obtain ⟨hd2,p2,d2',l2,q0,rh2,sh2⟩:=PV g0
     obtain ⟨cl,cv,q1,rc,sc⟩:=wO (dat:=aT.dat) (sz:=7) (by omega) underlying72 afw g1 (fun n cs'' D'' atp Un hlt2=>by
      obtain ⟨xs,m,hx2,hl2,anj,hf2⟩:=vK ari Un
      match cs'',hl2,xs,anj with
      | [b0,b1,b2,b3,b4,b5,b6],_,[v0,v1,v2],_ =>
       have u0:=hf2 0 _ _ _ rfl;have u1:=hf2 1 _ _ _ rfl;have u2:=hf2 2 _ _ _ rfl
       simp only at hx2
       have atz:Rows.uptoBulk D''=Rows.uptoBulk v0.1+(Rows.uptoBulk v1.1+(Rows.uptoBulk v2.1+0))+1:=by
        rw [hx2];simp only [fO,sZ,Rows.uptoBulk,Rows.uptoBulkAll]
       obtain ⟨j0,t0,z0,-⟩:=DataW.trod_int underlying3 u0;obtain ⟨hd3,p3,d3',l3,t1,rh3,sh3⟩:=PV u1;obtain ⟨SL,fv3,t2,rf3,sf3⟩:=wO (dat:=ay.dat) (sz:=11) (by omega) underlying22 Rx u2 (fun n cs3 D3 Pl3 hh3 hlt3=>ih n cs3 D3 Pl3 hh3 (by omega))
       simp at t0 t1 t2
       obtain ⟨rfl,rfl,rfl,rfl,rfl⟩:=t1;subst t0 t2;have hz:=Bt (aT.mk j0 hd3 SL)
       simp only [aT.head,aT.flow] at hz
       have bz:Rows.uptoBulk v0.1=1:=by rw [z0];rfl
       exact ⟨aT.mk j0 hd3 SL,aR.MB (x:=aT.mk j0 hd3 SL) rh3 rf3,by simp only [bV] at hz;omega⟩)
     simp at q0 q1
     obtain ⟨rfl,rfl,rfl,rfl,rfl⟩:=q0;subst q1;have hz:=zW (aS.mk hd2 cl)
     simp only [aS.head,aS.cells] at hz
     exact ⟨aS.mk hd2 cl,aR.Pp (x:=aS.mk hd2 cl) rh2 rc,by simp only [iR] at hz;omega⟩)
   simp at e0 e1 e2 e3 e4 e5 e6
   obtain ⟨rfl,rfl,rfl,rfl,rfl⟩:=e4;subst e0 e1 e2 e3 e5 e6;have hz:=tN (ay.mk k0 k1 k2 s hd fl rs)
   simp only [ay.text,ay.head,ay.flow,ay.rows] at hz
   have b0:Rows.uptoBulk y0.1=1:=by rw [d0];rfl
   have b1:Rows.uptoBulk y1.1=1:=by rw [d1];rfl
   have b2:Rows.uptoBulk y2.1=1:=by rw [d2];rfl
   have b3:Rows.uptoBulk y3.1=s.size+1:=by rw [d3];show s.data.toList.length+1=s.data.size+1;rw [uU]
   exact ⟨ay.mk k0 k1 k2 s hd fl rs,aR.mkItem (x:=ay.mk k0 k1 k2 s hd fl rs) rh rf rr,by simp only [bV,gD] at hz;omega⟩
theorem apv {n:Nat} {cs:List aj} {x:DataW H × List MemPlace} (h:DataW.trod enc prog W base spare held n 22 cs=some x):∃ (l:List ay) (v:aj),cs=[v]∧av (rC W) (.sl 11 (l.map ay.dat)) v∧bV l+8≤8*Rows.uptoBulk x.1 :=
 wO (dat:=ay.dat) (sz:=11) (by omega) underlying22 Rx h (fun n cs' D' cZ hh _=>acD _ n cs' D' cZ hh (Nat.lt_succ_self _))
end
end
section
open Go.ChangeShapes Go.RowKit Go.Deep
theorem DV {ρ:Type} {dat:ρ→List Dat}:∀ {l:List ρ} {x:ρ},x∈l→bT (dat x)+1≤dV (l.map dat)
 | y :: l,x,h=>by
  rw [fO,dV]
  rcases kL.1 h with rfl|h
  ·omega
  have:=DV (dat:=dat) h;omega
section
variable {H:Type} {enc:TypeId × aj→H} {W:World} {base:Nat} {spare:Nat→Bool} {held:Bool}
theorem arz:tQ prog 192 6 [(3,0,1),(3,1,1),(9,2,1),(3,3,1),(3,4,1),(23,5,1)]:=⟨by kernel_rfl,by kernel_rfl,by kernel_rfl⟩
theorem afE:prog.cellsOf 192=6:=by kernel_rfl
theorem apB {n:Nat} {cs:List aj} {D:DataW H} {Pl:List MemPlace} (h:DataW.trod enc prog W base spare held n 192 cs=some (D,Pl)):∃ r:cu,aR (rC W) r.dat cs∧bT r.dat+1≤8*Rows.uptoBulk D:=by
 obtain ⟨xs,m,hx,hl,hxl,hf⟩:=vK arz h
 match cs,hl,xs,hxl with
 | [c0,c1,c2,c3,c4,c5],_,[y0,y1,y2,y3,y4,y5],_ =>
  have h0:=hf 0 _ _ _ rfl;have h1:=hf 1 _ _ _ rfl;have h2:=hf 2 _ _ _ rfl;have h3:=hf 3 _ _ _ rfl;have h4:=hf 4 _ _ _ rfl;have h5:=hf 5 _ _ _ rfl
  simp only at hx
  have hD:Rows.uptoBulk D=Rows.uptoBulk y0.1+(Rows.uptoBulk y1.1+(Rows.uptoBulk y2.1+(Rows.uptoBulk y3.1+(Rows.uptoBulk y4.1+(Rows.uptoBulk y5.1+0)))))+1:=by rw [hx];simp only [fO,sZ,Rows.uptoBulk,Rows.uptoBulkAll]
  obtain ⟨k0,e0,d0,-⟩:=DataW.trod_int underlying3 h0;obtain ⟨k1,e1,d1,-⟩:=DataW.trod_int underlying3 h1;obtain ⟨k2,e2,d2,-⟩:=DataW.trod_string underlying9 h2;obtain ⟨k3,e3,d3,-⟩:=DataW.trod_int underlying3 h3;obtain ⟨k4,e4,d4,-⟩:=DataW.trod_int underlying3 h4;obtain ⟨k5,q5,e5,r5,d5⟩:=wO (dat:=aO.dat) (sz:=2) (by omega) underlying23 Yk h5 (fun n cs' D Pl hh _=>acE hh)
  simp at e0 e1 e2 e3 e4 e5
  subst e0 e1 e2 e3 e4 e5
  have b0:Rows.uptoBulk y0.1=1:=by rw [d0];rfl
  have b1:Rows.uptoBulk y1.1=1:=by rw [d1];rfl
  have b2:Rows.uptoBulk y2.1=k2.size+1:=by rw [d2];show k2.data.toList.length+1=k2.data.size+1;rw [uU]
  have b3:Rows.uptoBulk y3.1=1:=by rw [d3];rfl
  have b4:Rows.uptoBulk y4.1=1:=by rw [d4];rfl
  refine ⟨⟨k0,k1,k2,k3,k4,k5⟩,?_,?_⟩
  ·exact ⟨_,_,rfl,(by simp [av,Value.oneCell']),⟨_,_,rfl,(by simp [av,Value.oneCell']),⟨_,_,rfl,(by simp [av,Value.oneCell']),⟨_,_,rfl,(by simp [av,Value.oneCell']),⟨_,_,rfl,(by simp [av,Value.oneCell']),⟨_,_,rfl,r5,rfl⟩⟩⟩⟩⟩⟩
  simp only [cu.dat,bT,mJ];omega
theorem arq:tQ prog 96 4 [(3,0,1),(3,1,1),(9,2,1),(3,3,1)]:=⟨by kernel_rfl,by kernel_rfl,by kernel_rfl⟩
theorem afB:prog.cellsOf 96=4:=by kernel_rfl
theorem apx {n:Nat} {cs:List aj} {D:DataW H} {Pl:List MemPlace} (h:DataW.trod enc prog W base spare held n 96 cs=some (D,Pl)):∃ r:pz,aR (rC W) r.dat cs∧bT r.dat+1≤8*Rows.uptoBulk D:=by
 obtain ⟨xs,m,hx,hl,hxl,hf⟩:=vK arq h
 match cs,hl,xs,hxl with
 | [c0,c1,c2,c3],_,[y0,y1,y2,y3],_ =>
  have h0:=hf 0 _ _ _ rfl;have h1:=hf 1 _ _ _ rfl;have h2:=hf 2 _ _ _ rfl;have h3:=hf 3 _ _ _ rfl
  simp only at hx
  have hD:Rows.uptoBulk D=Rows.uptoBulk y0.1+(Rows.uptoBulk y1.1+(Rows.uptoBulk y2.1+(Rows.uptoBulk y3.1+0)))+1:=by rw [hx];simp only [fO,sZ,Rows.uptoBulk,Rows.uptoBulkAll]
  obtain ⟨k0,e0,d0,-⟩:=DataW.trod_int underlying3 h0;obtain ⟨k1,e1,d1,-⟩:=DataW.trod_int underlying3 h1;obtain ⟨k2,e2,d2,-⟩:=DataW.trod_string underlying9 h2;obtain ⟨k3,e3,d3,-⟩:=DataW.trod_int underlying3 h3
  simp at e0 e1 e2 e3
  subst e0 e1 e2 e3
  have b0:Rows.uptoBulk y0.1=1:=by rw [d0];rfl
  have b1:Rows.uptoBulk y1.1=1:=by rw [d1];rfl
  have b2:Rows.uptoBulk y2.1=k2.size+1:=by rw [d2];show k2.data.toList.length+1=k2.data.size+1;rw [uU]
  have b3:Rows.uptoBulk y3.1=1:=by rw [d3];rfl
  refine ⟨⟨k0,k1,k2,k3⟩,?_,?_⟩
  ·exact ⟨_,_,rfl,(by simp [av,Value.oneCell']),⟨_,_,rfl,(by simp [av,Value.oneCell']),⟨_,_,rfl,(by simp [av,Value.oneCell']),⟨_,_,rfl,(by simp [av,Value.oneCell']),rfl⟩⟩⟩⟩
  simp only [pz.dat,bT,mJ];omega
theorem arp:tQ prog 93 2 [(3,0,1),(91,1,1)]:=⟨by kernel_rfl,by kernel_rfl,by kernel_rfl⟩
theorem afA:prog.cellsOf 93=2:=by kernel_rfl
theorem apy {n:Nat} {cs:List aj} {D:DataW H} {Pl:List MemPlace} (h:DataW.trod enc prog W base spare held n 93 cs=some (D,Pl)):∃ r:fK,aR (rC W) r.dat cs∧bT r.dat+1≤8*Rows.uptoBulk D:=by
 obtain ⟨xs,m,hx,hl,hxl,hf⟩:=vK arp h
 match cs,hl,xs,hxl with
 | [c0,c1],_,[y0,y1],_ =>
  have h0:=hf 0 _ _ _ rfl;have h1:=hf 1 _ _ _ rfl
  simp only at hx
  have hD:Rows.uptoBulk D=Rows.uptoBulk y0.1+(Rows.uptoBulk y1.1+0)+1:=by rw [hx];simp only [fO,sZ,Rows.uptoBulk,Rows.uptoBulkAll]
  obtain ⟨k0,e0,d0,-⟩:=DataW.trod_int underlying3 h0;obtain ⟨k1,q1,e1,r1,d1⟩:=wO (dat:=pz.dat) (sz:=4) (by omega) underlying91 afB h1 (fun n cs' D Pl hh _=>apx hh)
  simp at e0 e1
  subst e0 e1
  have b0:Rows.uptoBulk y0.1=1:=by rw [d0];rfl
  refine ⟨⟨k0,k1⟩,?_,?_⟩
  ·exact ⟨_,_,rfl,(by simp [av,Value.oneCell']),⟨_,_,rfl,r1,rfl⟩⟩
  simp only [fK.dat,bT,mJ];omega
theorem arj:tQ prog 107 6 [(3,0,1),(3,1,1),(9,2,1),(3,3,1),(9,4,1),(4,5,1)]:=⟨by kernel_rfl,by kernel_rfl,by kernel_rfl⟩
theorem afx:prog.cellsOf 107=6:=by kernel_rfl
theorem aps {n:Nat} {cs:List aj} {D:DataW H} {Pl:List MemPlace} (h:DataW.trod enc prog W base spare held n 107 cs=some (D,Pl)):∃ r:iT,aR (rC W) r.dat cs∧bT r.dat+1≤8*Rows.uptoBulk D:=by
 obtain ⟨xs,m,hx,hl,hxl,hf⟩:=vK arj h
 match cs,hl,xs,hxl with
 | [c0,c1,c2,c3,c4,c5],_,[y0,y1,y2,y3,y4,y5],_ =>
  have h0:=hf 0 _ _ _ rfl;have h1:=hf 1 _ _ _ rfl;have h2:=hf 2 _ _ _ rfl;have h3:=hf 3 _ _ _ rfl;have h4:=hf 4 _ _ _ rfl;have h5:=hf 5 _ _ _ rfl
  simp only at hx
  have hD:Rows.uptoBulk D=Rows.uptoBulk y0.1+(Rows.uptoBulk y1.1+(Rows.uptoBulk y2.1+(Rows.uptoBulk y3.1+(Rows.uptoBulk y4.1+(Rows.uptoBulk y5.1+0)))))+1:=by rw [hx];simp only [fO,sZ,Rows.uptoBulk,Rows.uptoBulkAll]
  obtain ⟨k0,e0,d0,-⟩:=DataW.trod_int underlying3 h0;obtain ⟨k1,e1,d1,-⟩:=DataW.trod_int underlying3 h1;obtain ⟨k2,e2,d2,-⟩:=DataW.trod_string underlying9 h2;obtain ⟨k3,e3,d3,-⟩:=DataW.trod_int underlying3 h3;obtain ⟨k4,e4,d4,-⟩:=DataW.trod_string underlying9 h4;obtain ⟨k5,e5,d5⟩:=DataW.trod_bool underlying4 h5
  simp at e0 e1 e2 e3 e4 e5
  subst e0 e1 e2 e3 e4 e5
  have b0:Rows.uptoBulk y0.1=1:=by rw [d0];rfl
  have b1:Rows.uptoBulk y1.1=1:=by rw [d1];rfl
  have b2:Rows.uptoBulk y2.1=k2.size+1:=by rw [d2];show k2.data.toList.length+1=k2.data.size+1;rw [uU]
  have b3:Rows.uptoBulk y3.1=1:=by rw [d3];rfl
  have b4:Rows.uptoBulk y4.1=k4.size+1:=by rw [d4];show k4.data.toList.length+1=k4.data.size+1;rw [uU]
  have b5:Rows.uptoBulk y5.1=1:=by rw [d5];rfl
  refine ⟨⟨k0,k1,k2,k3,k4,k5⟩,?_,?_⟩
  ·exact ⟨_,_,rfl,(by simp [av,Value.oneCell']),⟨_,_,rfl,(by simp [av,Value.oneCell']),⟨_,_,rfl,(by simp [av,Value.oneCell']),⟨_,_,rfl,(by simp [av,Value.oneCell']),⟨_,_,rfl,(by simp [av,Value.oneCell']),⟨_,_,rfl,(by simp [av,Value.oneCell']),rfl⟩⟩⟩⟩⟩⟩
  simp only [iT.dat,bT,mJ];omega
theorem arA:tQ prog 110 2 [(9,0,1),(9,1,1)]:=⟨by kernel_rfl,by kernel_rfl,by kernel_rfl⟩
theorem afG:prog.cellsOf 110=2:=by kernel_rfl
theorem apC {n:Nat} {cs:List aj} {D:DataW H} {Pl:List MemPlace} (h:DataW.trod enc prog W base spare held n 110 cs=some (D,Pl)):∃ r:mq,aR (rC W) r.dat cs∧bT r.dat+1≤8*Rows.uptoBulk D:=by
 obtain ⟨xs,m,hx,hl,hxl,hf⟩:=vK arA h
 match cs,hl,xs,hxl with
 | [c0,c1],_,[y0,y1],_ =>
  have h0:=hf 0 _ _ _ rfl;have h1:=hf 1 _ _ _ rfl
  simp only at hx
  have hD:Rows.uptoBulk D=Rows.uptoBulk y0.1+(Rows.uptoBulk y1.1+0)+1:=by rw [hx];simp only [fO,sZ,Rows.uptoBulk,Rows.uptoBulkAll]
  obtain ⟨k0,e0,d0,-⟩:=DataW.trod_string underlying9 h0;obtain ⟨k1,e1,d1,-⟩:=DataW.trod_string underlying9 h1
  simp at e0 e1
  subst e0 e1
  have b0:Rows.uptoBulk y0.1=k0.size+1:=by rw [d0];show k0.data.toList.length+1=k0.data.size+1;rw [uU]
  have b1:Rows.uptoBulk y1.1=k1.size+1:=by rw [d1];show k1.data.toList.length+1=k1.data.size+1;rw [uU]
  refine ⟨⟨k0,k1⟩,?_,?_⟩
  ·exact ⟨_,_,rfl,(by simp [av,Value.oneCell']),⟨_,_,rfl,(by simp [av,Value.oneCell']),rfl⟩⟩
  simp only [mq.dat,bT,mJ];omega
theorem arw:tQ prog 102 3 [(3,0,1),(9,1,1),(3,2,1)]:=⟨by kernel_rfl,by kernel_rfl,by kernel_rfl⟩
theorem afD:prog.cellsOf 102=3:=by kernel_rfl
theorem apz {n:Nat} {cs:List aj} {D:DataW H} {Pl:List MemPlace} (h:DataW.trod enc prog W base spare held n 102 cs=some (D,Pl)):∃ r:dh,aR (rC W) r.dat cs∧bT r.dat+1≤8*Rows.uptoBulk D:=by
 obtain ⟨xs,m,hx,hl,hxl,hf⟩:=vK arw h
 match cs,hl,xs,hxl with
 | [c0,c1,c2],_,[y0,y1,y2],_ =>
  have h0:=hf 0 _ _ _ rfl;have h1:=hf 1 _ _ _ rfl;have h2:=hf 2 _ _ _ rfl
  simp only at hx
  have hD:Rows.uptoBulk D=Rows.uptoBulk y0.1+(Rows.uptoBulk y1.1+(Rows.uptoBulk y2.1+0))+1:=by rw [hx];simp only [fO,sZ,Rows.uptoBulk,Rows.uptoBulkAll]
  obtain ⟨k0,e0,d0,-⟩:=DataW.trod_int underlying3 h0;obtain ⟨k1,e1,d1,-⟩:=DataW.trod_string underlying9 h1;obtain ⟨k2,e2,d2,-⟩:=DataW.trod_int underlying3 h2
  simp at e0 e1 e2
  subst e0 e1 e2
  have b0:Rows.uptoBulk y0.1=1:=by rw [d0];rfl
  have b1:Rows.uptoBulk y1.1=k1.size+1:=by rw [d1];show k1.data.toList.length+1=k1.data.size+1;rw [uU]
  have b2:Rows.uptoBulk y2.1=1:=by rw [d2];rfl
  refine ⟨⟨k0,k1,k2⟩,?_,?_⟩
  ·exact ⟨_,_,rfl,(by simp [av,Value.oneCell']),⟨_,_,rfl,(by simp [av,Value.oneCell']),⟨_,_,rfl,(by simp [av,Value.oneCell']),rfl⟩⟩⟩
  simp only [dh.dat,bT,mJ];omega
theorem arx:tQ prog 36 4 [(31,0,1),(32,1,1),(33,2,1),(34,3,1)]:=⟨by kernel_rfl,by kernel_rfl,by kernel_rfl⟩
structure Q6 (s:BH) (n:Nat):Prop where
 st:dV (s.styles.map cu.dat)≤n
 li:dV (s.lists.map fK.dat)≤n
 cm:dV (s.comments.map iT.dat)≤n
 va:dV (s.vars.map mq.dat)≤n
theorem Q6.zn {s:BH} {n:Nat} (h:Q6 s n) (hn:n≤4294967296):Q7 s∧s.styles.length≤4294967296:=by
 obtain ⟨h1,h2,h3,h4⟩:=h;have l1:=qP (s.styles.map cu.dat);have l2:=qP (s.lists.map fK.dat);have l3:=qP (s.comments.map iT.dat);have l4:=qP (s.vars.map mq.dat);rw [aZ] at l1 l2 l3 l4;refine ⟨⟨fun x hx=>?_,by omega,fun x hx y hy=>?_,by omega,fun x hx=>?_,by omega,fun x hx=>?_,fun x hx=>?_,fun x hx=>?_⟩,by omega⟩
 ·have:=DV (dat:=cu.dat) hx
  simp only [cu.dat,bT,mJ] at this;omega
 ·have:=DV (dat:=fK.dat) hx
  simp only [fK.dat,bT,mJ] at this
  have h5:=DV (dat:=pz.dat) hy
  simp only [pz.dat,bT,mJ] at h5;omega
 ·have:=DV (dat:=iT.dat) hx
  simp only [iT.dat,bT,mJ] at this;omega
 ·have:=DV (dat:=mq.dat) hx
  simp only [mq.dat,bT,mJ] at this;omega
 ·have:=DV (dat:=cu.dat) hx;have h5:=qP (x.props.map aO.dat);rw [aZ] at h5
  simp only [cu.dat,bT,mJ] at this;omega
 have:=DV (dat:=fK.dat) hx;have h5:=qP (x.levels.map pz.dat);rw [aZ] at h5
 simp only [fK.dat,bT,mJ] at this;omega
theorem apA {n:Nat} {cs:List aj} {x:DataW H × List MemPlace} (h:DataW.trod enc prog W base spare held n 36 cs=some x):∃ (s:BH) (a b c d:aj),cs=[a,b,c,d]∧Ab (rC W) s a b c d∧Q6 s (8*Rows.uptoBulk x.1):=by
 obtain ⟨xs,m,hx,hl,hxl,hf⟩:=vK arx h
 match cs,hl,xs,hxl with
 | [c0,c1,c2,c3],_,[y0,y1,y2,y3],_ =>
  have h0:=hf 0 _ _ _ rfl;have h1:=hf 1 _ _ _ rfl;have h2:=hf 2 _ _ _ rfl;have h3:=hf 3 _ _ _ rfl;obtain ⟨k0,q0,e0,r0,d0⟩:=wO (dat:=cu.dat) (sz:=6) (by omega) underlying31 afE h0 (fun n cs' D Pl hh _=>apB hh);obtain ⟨k1,q1,e1,r1,d1⟩:=wO (dat:=fK.dat) (sz:=2) (by omega) underlying32 afA h1 (fun n cs' D Pl hh _=>apy hh);obtain ⟨k2,q2,e2,r2,d2⟩:=wO (dat:=iT.dat) (sz:=6) (by omega) underlying33 afx h2 (fun n cs' D Pl hh _=>aps hh);obtain ⟨k3,q3,e3,r3,d3⟩:=wO (dat:=mq.dat) (sz:=2) (by omega) underlying34 afG h3 (fun n cs' D Pl hh _=>apC hh)
  simp at e0 e1 e2 e3
  subst e0 e1 e2 e3
  have hD:Rows.uptoBulk x.1=Rows.uptoBulk y0.1+(Rows.uptoBulk y1.1+(Rows.uptoBulk y2.1+(Rows.uptoBulk y3.1+0)))+1:=by rw [hx];simp only [fO,sZ,Rows.uptoBulk,Rows.uptoBulkAll]
  exact ⟨⟨k0,k1,k2,k3⟩,_,_,_,_,rfl,⟨r0,r1,r2,r3⟩,⟨by show dV (k0.map _)≤_;omega,by show dV (k1.map _)≤_;omega,by show dV (k2.map _)≤_;omega,by show dV (k3.map _)≤_;omega⟩⟩
theorem adk:tQ prog 38 11 [(22,0,1),(29,1,5),(30,6,1),(36,7,4)]:=⟨by kernel_rfl,by kernel_rfl,by kernel_rfl⟩
theorem DR {G:GH} {sz:Nat} {rs:List (List Dat)} {v:aj} (h:av G (.sl sz rs) v):∃ x,v=cK x:=by
 obtain ⟨a,n,c,rfl⟩:=h.form;exact ⟨(a,n,c),rfl⟩
theorem apu {n:Nat} {cs:List aj} {x:DataW H × List MemPlace} (h:DataW.trod enc prog W base spare held n 38 cs=some x) (hb:Rows.uptoBulk x.1≤1048576):∃ (D:jM) (d:jA),cs=D.cells∧oD (rC W) D d∧CG d∧bV d.flow≤8388608∧mh d.fin≤8388608:=by
 obtain ⟨xs,m,hx,hl,hxl,hf⟩:=vK adk h
 match cs,hl,xs,hxl with
 | [c0,c1,c2,c3,c4,c5,c6,c7,c8,c9,c10],_,[y0,y1,y2,y3],_ =>
  have h0:=hf 0 _ _ _ rfl;have h1:=hf 1 _ _ _ rfl;have h2:=hf 2 _ _ _ rfl;have h3:=hf 3 _ _ _ rfl;obtain ⟨l,q0,e0,r0,d0⟩:=apv h0;obtain ⟨hd,p,dd,ll,e1,r1,d1⟩:=PV h1;obtain ⟨rv,q2,e2,r2,d2⟩:=wO (dat:=dh.dat) (sz:=3) (by omega) underlying30 afD h2 (fun n cs' D Pl hh _=>apz hh);obtain ⟨s,a,b,c,d,e3,r3,d3⟩:=apA h3
  simp at e0 e1 e2 e3
  obtain ⟨rfl,rfl,rfl,rfl,rfl⟩:=e1;obtain ⟨rfl,rfl,rfl,rfl⟩:=e3;subst e0 e2
  have hD:Rows.uptoBulk x.1=Rows.uptoBulk y0.1+(Rows.uptoBulk y1.1+(Rows.uptoBulk y2.1+(Rows.uptoBulk y3.1+0)))+1:=by rw [hx];simp only [fO,sZ,Rows.uptoBulk,Rows.uptoBulkAll]
  obtain ⟨x0,rfl⟩:=DR r0;obtain ⟨x1,rfl⟩:=DR r1.props;obtain ⟨x2,rfl⟩:=DR r1.bJ;obtain ⟨x3,rfl⟩:=DR r1.layers;obtain ⟨x4,rfl⟩:=DR r2;obtain ⟨x5,rfl⟩:=DR r3.st;obtain ⟨x6,rfl⟩:=DR r3.li;obtain ⟨x7,rfl⟩:=DR r3.cm;obtain ⟨x8,rfl⟩:=DR r3.va;obtain ⟨hz1,hz2⟩:=d3.zn (by omega);have l2:=qP (rv.map dh.dat);rw [aZ] at l2;refine ⟨⟨x0,x1,x2,x3,x4,x5,x6,x7,x8,hd.marks.ins,hd.marks.move⟩,⟨l,hd,rv,s⟩,rfl,⟨r0,r1,rfl,rfl,r2,r3⟩,⟨by show bV l≤_;omega,by show mh hd≤_;omega,by show rv.length≤_;omega,fun x hx=>?_,hz2,hz1⟩,by show bV l≤_;omega,by show mh hd≤_;omega⟩;have:=DV (dat:=dh.dat) hx
  simp only [dh.dat,bT,mJ] at this
  omega
end
end
end Go.Proofs.YtdiflmikikiedaaGreat
