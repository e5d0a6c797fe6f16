/-
  What the claim stands on, part 7: Deq Rl24 Rk24 Vw24 Rj24 Brd Brs.
-/
import Derived.Test.YtdiflmikikiedaaGreatWcf
import Derived.ProofKit
import Derived.Deep.Slices
import Derived.Laws.StructEq
namespace Go.Proofs.YtdiflmikikiedaaGreat
set_option linter.all false
open Go.Proofs.Tryz
set_option maxRecDepth 20000
set_option maxHeartbeats 4000000
open Go.RowKit
theorem ajO:∀ args w,(callFunc 53 args).run prog w=.ok (.enter 53 args) w:=enters func53 rfl (by kernel_rfl)
theorem ajP:∀ args w,(callFunc 54 args).run prog w=.ok (.enter 54 args) w:=enters func54 rfl (by kernel_rfl)
theorem ajQ:∀ args w,(callFunc 55 args).run prog w=.ok (.enter 55 args) w:=enters func55 rfl (by kernel_rfl)
theorem ajR:∀ args w,(callFunc 56 args).run prog w=.ok (.enter 56 args) w:=enters func56 rfl (by kernel_rfl)
theorem ajS:∀ args w,(callFunc 57 args).run prog w=.ok (.enter 57 args) w:=enters func57 rfl (by kernel_rfl)
theorem fT.eq_iff (a b:fT):((((((a.flow=b.flow∧a.fin=b.fin)∧a.revs=b.revs)∧a.gU.styles=b.gU.styles)∧a.gU.lists=b.gU.lists)∧a.gU.comments=b.gU.comments)∧a.gU.vars=b.gU.vars)↔a=b:=by
 obtain ⟨a1,a2,a3,a4,a5,a6,a7⟩:=a;obtain ⟨b1,b2,b3,b4,b5,b6,b7⟩:=b
 simp [and_assoc]
theorem Y3 (G:GH) (w0:World) (hG:Hold G w0) (D E:iE) (x y:fT) (hD:jN G D x) (hE:jN G E y) (hz:cu x.flow≤4294967296) :
  Calls prog 16 #[D.val,E.val] w0 (bB w0 G fun u G'=>∃ b,u=.bool b∧(b=true↔x=y)):=by
 have he:=fT.eq_iff x y;refine eN [(0,_),(1,_)] func16 rfl ntmps16 rfl rfl hG ?_;intro a H;refine fK (fun _ K1=>?_);refine dW (cs:=[_,_,_,_,_,_,_,_,_,_,_]) H wn rfl rfl rfl ?_;clear H;intro b2 a w hb2 H;refine dW (cs:=[_,_,_,_,_,_,_,_,_,_,_]) H wn rfl rfl rfl ?_;clear H;intro b3 a w hb3 H;refine kH H (aF K1 rfl (SQ fun _ K2=>?_));clear H K1;intro a H;obtain ⟨Ga0,Ey,uf,H⟩:=H.eB;obtain ⟨Ga,Ab,hb2',H⟩:=H.eB;have hga:=fun j v hj=>nN hb2' 0 D.cells rfl j v hj;have hge:∀ j v,E.cells[j]?=some v→aH Ga b3 (0+j)=some v:=fun j v hj=>aG Ab (nN uf 0 E.cells rfl j v hj)
 have hgd:∀ j v,[aQ D.p,vi x.fin.marks.ins,vi x.fin.marks.move,aQ D.d,aQ D.y][j]?=some v→aH Ga b2 (1+j)=some v:=fun j v hj=>by rw [← hD.ins,← hD.mv] at hj;exact nN hb2' 1 [aQ D.p,vi D.ins,vi D.move,aQ D.d,aQ D.y] rfl j v hj
 have hgf:∀ j v,[aQ E.p,vi y.fin.marks.ins,vi y.fin.marks.move,aQ E.d,aQ E.y][j]?=some v→aH Ga b3 (1+j)=some v:=fun j v hj=>by rw [← hE.ins,← hE.mv] at hj;exact aG Ab (nN uf 1 [aQ E.p,vi E.ins,vi E.move,aQ E.d,aQ E.y] rfl j v hj)
 have hgs:∀ j v,[aQ D.s1,aQ D.s2,aQ D.s3,aQ D.s4][j]?=some v→aH Ga b2 (7+j)=some v:=fun j v hj=>nN hb2' 7 [aQ D.s1,aQ D.s2,aQ D.s3,aQ D.s4] rfl j v hj;have hgt:∀ j v,[aQ E.s1,aQ E.s2,aQ E.s3,aQ E.s4][j]?=some v→aH Ga b3 (7+j)=some v:=fun j v hj=>aG Ab (nN uf 7 [aQ E.s1,aQ E.s2,aQ E.s3,aQ E.s4] rfl j v hj);have hx1:=(hD.fl.mono Ey).mono Ab;have hy1:=(hE.fl.mono Ey).mono Ab;have hx2:=(hD.hd.mono Ey).mono Ab;have hy2:=(hE.hd.mono Ey).mono Ab;have hx3:=(hD.rv.mono Ey).mono Ab;have hy3:=(hE.rv.mono Ey).mono Ab;have hx4:=(hD.st.mono Ey).mono Ab;have hy4:=(hE.st.mono Ey).mono Ab;clear hD hE
 have dO:∀ (aJ jP bQ:Nat) (v:aj) (G G':GH),(∀ k o,G k=some o→G' k=some o)→(fun (aJ jP bQ:Nat) (v:aj) (G:GH)=>match bQ with|0=>v=(aM b2 7)|1=>v=.agg #[aQ D.s1,aQ D.s2,aQ D.s3,aQ D.s4]|2=>v=(aM b3 7)|3=>v=.agg #[aQ E.s1,aQ E.s2,aQ E.s3,aQ E.s4]|4=>v=(aM aJ 0)|5=>v=(aM jP 0)|_=>True) aJ jP bQ v G→(fun (aJ jP bQ:Nat) (v:aj) (G:GH)=>match bQ with|0=>v=(aM b2 7)|1=>v=.agg #[aQ D.s1,aQ D.s2,aQ D.s3,aQ D.s4]|2=>v=(aM b3 7)|3=>v=.agg #[aQ E.s1,aQ E.s2,aQ E.s3,aQ E.s4]|4=>v=(aM aJ 0)|5=>v=(aM jP 0)|_=>True) aJ jP bQ v G':=by
  intro aJ jP bQ v G G' hm h
  match bQ,h with
  | 0,h=>exact h
  | 1,h=>exact h
  | 2,h=>exact h
  | 3,h=>exact h
  | 4,h=>exact h
  | 5,h=>exact h
  | 6,h=>exact trivial
  | 7,h=>exact trivial
  | _+8,h=>exact trivial
 refine afX (hmx) [[],[0],[],[2],[],[],[0,1,4,5],(ra 0 7)] [7] (by kernel_rfl) (by kernel_rfl) 4 5 6 (by decide) (by decide) (by decide) (by decide) (by decide) (by decide) (by decide) (by decide) (.cells #[.slice none 0 0,.slice none 0 0,.slice none 0 0,.slice none 0 0] 36 (0,0)) (.cells #[.slice none 0 0,.slice none 0 0,.slice none 0 0,.slice none 0 0] 36 (0,0)) (.cells #[aQ D.s1,aQ D.s2,aQ D.s3,aQ D.s4] 36 (0,0)) (fun (aJ jP bQ:Nat) (v:aj) (G:GH)=>match bQ with|0=>v=(aM b2 7)|1=>v=.agg #[aQ D.s1,aQ D.s2,aQ D.s3,aQ D.s4]|2=>v=(aM b3 7)|3=>v=.agg #[aQ E.s1,aQ E.s2,aQ E.s3,aQ E.s4]|4=>v=(aM aJ 0)|5=>v=(aM jP 0)|_=>True) (fun b b' c i v G hi hc h=>by (iterate 8 (rcases i with _|i;(first|exact h|exact absurd hi (by decide)|exact absurd hc (by decide))));exact trivial) (fun b c c' i v G hi hc h=>by (iterate 8 (rcases i with _|i;(first|exact h|exact absurd hi (by decide)|exact absurd hc (by decide))));exact trivial) H ?_ ?_ ?_ ?_ ?_ (by kernel_rfl) (by kernel_rfl) (by kernel_rfl)
 ·clear H;refine aD ?_ ?_ ?_ ?_ (aD ?_ ?_ ?_ ?_ cO)
  ·intro aJ jP dD aP a w G1 dH _ _ _ _ aK hc hG HT hv;have H:=HT;clear aK;have Hb:=H.full;have H:=Hb;clear hc;refine kH H (Rf IJ rfl ?_);clear H;intro a H;refine aC ⟨rfl,?_⟩;exact dw (by kernel_rfl) (dO aJ jP) rfl rfl HT Hb hG hv (fun _ _ h=>h) (rfl) H
  ·intro aJ jP dD aP a w G1 dH _ _ _ _ aK hc hG HT hv;have H:=HT;clear aK;have H:=H.aN (hv 0 8 (hc 0 (by decide)) rfl) rfl;have Hb:=H.full;have H:=Hb;clear hc;refine aR uz (cs:=[aQ D.s1,aQ D.s2,aQ D.s3,aQ D.s4]) H wn rfl rfl (fun j v hj=>H.hp.aH (aG hG (hgs j v hj))) rfl ?_;clear H;intro a H;refine aC ⟨rfl,?_⟩;exact dw (by kernel_rfl) (dO aJ jP) rfl rfl HT Hb hG hv (fun _ _ h=>h) (rfl) H
  ·intro aJ jP dD aP a w G1 dH _ _ _ _ aK hc hG HT hv;have H:=HT;clear aK;have Hb:=H.full;have H:=Hb;clear hc;refine kH H (Rf IJ rfl ?_);clear H;intro a H;refine aC ⟨rfl,?_⟩;exact dw (by kernel_rfl) (dO aJ jP) rfl rfl HT Hb hG hv (fun _ _ h=>h) (rfl) H
  ·intro aJ jP dD aP a w G1 dH _ _ _ _ aK hc hG HT hv;have H:=HT;clear aK;have H:=H.aN (hv 2 10 (hc 2 (by decide)) rfl) rfl;have Hb:=H.full;have H:=Hb;clear hc;refine aR uz (cs:=[aQ E.s1,aQ E.s2,aQ E.s3,aQ E.s4]) H wn rfl rfl (fun j v hj=>H.hp.aH (aG hG (hgt j v hj))) rfl ?_;clear H;intro a H;refine aC ⟨rfl,?_⟩;exact dw (by kernel_rfl) (dO aJ jP) rfl rfl HT Hb hG hv (fun _ _ h=>h) (rfl) H
  ·intro _ _ _ _ _ _ _ _ _ hB;exact absurd hB (by decide)
  ·intro _ _ _ _ _ _ _ _ _ _ hB;exact absurd hB (by decide)
  ·intro _ _ _ _ _ _ _ _ _ _ _ hB;exact absurd hB (by decide)
  intro _ _ _ _ _ _ _ _ hB;exact absurd hB (by decide)
 ·clear H;intro o_ jP dD aP a w G1 dH jv _ hc hG HT hv;obtain rfl:_=o_:=Option.some.inj jv;clear jv;have H:=HT;have Hb:=H.full;have H:=Hb;clear hc;refine dJ uz H wn rfl ?_;clear H;intro b5 a w hb5 H;refine aC ⟨rfl,b5,?_⟩;exact Cw (by kernel_rfl) rfl HT Hb hG (fun j e h1 h2 h3=>hv _ j e h1 h2 h3) (rfl) H
 ·clear H;intro o_ aJ dD aP a w G1 dH jv _ hc hG HT hv;obtain rfl:_=o_:=Option.some.inj jv;clear jv;have H:=HT;have Hb:=H.full;have H:=Hb;clear hc;refine dJ uz H wn rfl ?_;clear H;intro b6 a w hb6 H;refine aC ⟨rfl,b6,?_⟩;exact Cw (by kernel_rfl) rfl HT Hb hG (fun j e h1 h2 h3=>hv _ j e h1 h2 h3) (rfl) H
 ·clear H;intro o_ aJ jP aP a w G1 jv _ hc hG HT hv;obtain rfl:_=o_:=Option.some.inj jv;clear jv;have H:=HT;have H:=H.aN (hv 4 5 (hc 4 (by decide)) rfl) rfl;have H:=H.aN (hv 1 9 (hc 1 (by decide)) rfl) rfl;have Hb:=H.full;have H:=Hb;clear hc;refine aY uz 0 (vs:=[_,_,_,_]) _ H wn rfl rfl rfl rfl rfl rfl rfl rfl ?_;clear H;intro w H;dsimp only [List.set,setRow] at H;refine aC ⟨rfl,?_⟩;exact Sl rfl HT hG hv H
 clear H;intro b5 b6 a w G iY H hv;have H:=H.aN (hv 4 5 rfl rfl) rfl;have H:=H.aN (hv 5 6 rfl rfl) rfl;have H:=H.aN (hv 3 11 rfl rfl) rfl;clear hv;refine aY uz 1 (vs:=[_,_,_,_]) _ H wn rfl rfl rfl rfl rfl rfl rfl rfl ?_;clear H;intro w H;dsimp only [List.set,setRow] at H;refine aC ⟨rfl,?_⟩;refine K2 _ _ ?_;clear K2;refine kP H (SR fun _ K3=>aF K3 rfl (SR fun _ K4=>Rf vO rfl (Rg lS rfl (aG iY (hga 0 _ rfl)) (Rf vO rfl (Rg lS rfl (aG iY (hge 0 _ rfl)) ?_)))));clear H K3;intro a H;refine s_call SN H wn rfl (akG _ _ H.ro x.flow y.flow _ _ (hx1.mono iY) (hy1.mono iY) (by omega)) rfl ?_;clear H;rintro v16 qC a w ⟨b16,rfl,aay⟩ jW H;refine kH H (Rm rfl (Sp 17 rfl ?_ ?_)) <;> clear H
 ·intro eT a H
  try have jZ:=dT eT
  refine kH H (YF Bq eT rfl ?_);clear H;intro a H;refine aR dB (cs:=[aQ D.p,vi x.fin.marks.ins,vi x.fin.marks.move,aQ D.d,aQ D.y]) H (wg H rfl rfl eT) rfl rfl (fun j v hj=>H.hp.aH (aG jW (aG iY (hgd j v hj)))) rfl ?_;clear H;intro a H;refine kH H (YF Bq eT rfl ?_);clear H;intro a H;refine aR dB (cs:=[aQ E.p,vi y.fin.marks.ins,vi y.fin.marks.move,aQ E.d,aQ E.y]) H (wg H rfl rfl eT) rfl rfl (fun j v hj=>H.hp.aH (aG jW (aG iY (hgf j v hj)))) rfl ?_;clear H;intro a H;refine s_call Iw H (wg H rfl rfl eT) rfl (Iz _ _ H.ro x.fin y.fin _ _ _ _ _ _ ((hx2.mono iY).mono jW) ((hy2.mono iY).mono jW)) rfl ?_;clear H;rintro v22 Xy a w rfl Ja H;refine kH H (Pt eT rfl (Rm rfl (Sp 24 rfl ?_ ?_))) <;> clear H
  ·intro fq a H
   try have jT:=dT fq
   refine kH H (YF zN fq rfl (YR vw fq rfl (aG Ja (aG jW (aG iY (hga 6 _ rfl)))) (YF zN fq rfl (YR vw fq rfl (aG Ja (aG jW (aG iY (hge 6 _ rfl)))) ?_))));clear H;intro a H;refine s_call ajO H (wg H rfl rfl fq) rfl (akE _ _ H.ro x.revs y.revs _ _ (((hx3.mono iY).mono jW).mono Ja) (((hy3.mono iY).mono jW).mono Ja)) rfl ?_;clear H;rintro v29 yI a w rfl yU H;have hx5:=(((hx4.mono iY).mono jW).mono Ja).mono yU;have Px:=(((hy4.mono iY).mono jW).mono Ja).mono yU;refine kH H (Pt fq rfl (Rm rfl (Sp 31 rfl ?_ ?_))) <;> clear H
   ·intro h31 a H
    try have p31:=dT h31
    refine kH H (YF Ef h31 rfl (YO Au 0 h31 rfl (YF Ef h31 rfl (YO Au 1 h31 rfl ?_))));clear H;intro a H;refine s_call ajP H (wg H rfl rfl h31) rfl (akq _ _ H.ro x.gU.styles y.gU.styles _ _ hx5.st Px.st) rfl ?_;clear H;rintro v36 G36 a w ⟨b36,rfl,auR⟩ Jc H;refine kH H (Pt h31 rfl (Rm rfl (Sp 38 rfl ?_ ?_))) <;> clear H
    ·intro kC a H
     try have p38:=dT kC
     refine kH H (YF Eh kC rfl (YO zq 0 kC rfl (YF Eh kC rfl (YO zq 1 kC rfl (YM kC rfl ?_)))));clear H;intro a H;refine s_call ajQ H (wg H rfl rfl kC) rfl (akt _ _ H.ro x.gU.lists y.gU.lists _ _ _ (hx5.li.mono Jc) (Px.li.mono Jc) (fun i h1 h2=>akn _ _ _)) rfl ?_;clear H;rintro v44 XC a w ⟨b44,rfl,auU⟩ LB H;refine kH H (Pt kC rfl (Rm rfl (Sp 46 rfl ?_ ?_))) <;> clear H
     ·intro h46 a H
      try have p46:=dT h46
      refine kH H (YF Oo h46 rfl (YO Dz 0 h46 rfl (YF Oo h46 rfl (YO Dz 1 h46 rfl ?_))));clear H;intro a H;refine s_call ajR H (wg H rfl rfl h46) rfl (akC _ _ H.ro x.gU.comments y.gU.comments _ _ ((hx5.cm.mono Jc).mono LB) ((Px.cm.mono Jc).mono LB)) rfl ?_;clear H;rintro v51 XE a w rfl Jf H;refine kH H (Pt h46 rfl (Rm rfl (Sp 53 rfl ?_ ?_))) <;> clear H
      ·intro uS a H
       try have p53:=dT uS
       refine kH H (YF Oq uS rfl (YO xB 0 uS rfl (YF Oq uS rfl (YO xB 1 uS rfl ?_))));clear H;intro a H;refine s_call ajS H (wg H rfl rfl uS) rfl (akF _ _ H.ro x.gU.vars y.gU.vars _ _ (((hx5.va.mono Jc).mono LB).mono Jf) (((Px.va.mono Jc).mono LB).mono Jf)) rfl ?_;clear H;rintro v58 G58 a w rfl ant H;exact kH H (Pt uS rfl (aF K4 rfl (LR results16 rfl fun H=>H.rt ⟨_,rfl,by rw [← he];simp_all⟩)))
      intro uS a H
      try have p53:=dF uS
      exact kH H (fB uS rfl (fU uS rfl (Pf uS rfl (aF K4 rfl (LR results16 rfl fun H=>H.rt ⟨_,rfl,by rw [← he];simp_all⟩)))))
     intro h46 a H
     try have p46:=dF h46
     exact kH H (fB h46 rfl (fU h46 rfl (Pf h46 rfl (Rm rfl (fB rfl rfl (fU rfl rfl (Pf rfl rfl (aF K4 rfl (LR results16 rfl fun H=>H.rt ⟨_,rfl,by rw [← he];simp_all⟩)))))))))
    intro kC a H
    try have p38:=dF kC
    exact kH H (fB kC rfl (fB kC rfl (Pf kC rfl (Rm rfl (fB rfl rfl (fU rfl rfl (Pf rfl rfl (Rm rfl (fB rfl rfl (fU rfl rfl (Pf rfl rfl (aF K4 rfl (LR results16 rfl fun H=>H.rt ⟨_,rfl,by rw [← he];simp_all⟩)))))))))))))
   intro h31 a H
   try have p31:=dF h31
   exact kH H (fB h31 rfl (fU h31 rfl (Pf h31 rfl (Rm rfl (fB rfl rfl (fB rfl rfl (Pf rfl rfl (Rm rfl (fB rfl rfl (fU rfl rfl (Pf rfl rfl (Rm rfl (fB rfl rfl (fU rfl rfl (Pf rfl rfl (aF K4 rfl (LR results16 rfl fun H=>H.rt ⟨_,rfl,by rw [← he];simp_all⟩)))))))))))))))))
  intro fq a H
  try have jT:=dF fq
  exact kH H (fB fq rfl (fU fq rfl (Pf fq rfl (Rm rfl (fB rfl rfl (fU rfl rfl (Pf rfl rfl (Rm rfl (fB rfl rfl (fB rfl rfl (Pf rfl rfl (Rm rfl (fB rfl rfl (fU rfl rfl (Pf rfl rfl (Rm rfl (fB rfl rfl (fU rfl rfl (Pf rfl rfl (aF K4 rfl (LR results16 rfl fun H=>H.rt ⟨_,rfl,by rw [← he];simp_all⟩)))))))))))))))))))))
 intro eT a H
 try have jZ:=dF eT
 refine kH H (fB eT rfl (fU eT rfl (Pf eT rfl (Rm rfl (fB rfl rfl (fU rfl rfl (Pf rfl rfl (Rm rfl (fB rfl rfl (fU rfl rfl (Pf rfl rfl (Rm rfl (fB rfl rfl (fB rfl rfl (Pf rfl rfl (Rm rfl (fB rfl rfl (fU rfl rfl (Pf rfl rfl (Rm rfl (fB rfl rfl (fU rfl rfl ?_))))))))))))))))))))));clear H;intro a H;exact kH H (Pf rfl rfl (aF K4 rfl (LR results16 rfl fun H=>H.rt ⟨_,rfl,by rw [← he];simp_all⟩)))
theorem Sq:∀ args w,(callFunc 12 args).run prog w=.ok (.enter 12 args) w:=enters func12 rfl (by kernel_rfl)
theorem aii:∀ args w,(callFunc 13 args).run prog w=.ok (.enter 13 args) w:=enters func13 rfl (by kernel_rfl)
theorem Zi:∀ args w,(callFunc 16 args).run prog w=.ok (.enter 16 args) w:=enters func16 rfl (by kernel_rfl)
theorem Zk:∀ args w,(callFunc 18 args).run prog w=.ok (.enter 18 args) w:=enters func18 rfl (by kernel_rfl)
theorem acN {acc rej:Int→Bool} {d:fT} (hs:zC 536870912 d) (hc:iy d=0):yF (iQ acc rej d)∧(uY (iQ acc rej d).flow∧cu (nZ (iQ acc rej d).flow)≤1073741824∧(∀ k∈kS (oP (iQ acc rej d)),-9223372036854775808≤k∧k < 9223372036854775808)∧(kS (oP (iQ acc rej d))).length≤4294967296) :=
 ⟨(MC hs (by decide) (by decide)).z,acA (MC hs (by decide) (by decide)).z (MB hc)⟩
theorem aaw (k:Int):ni [] k=false:=by
 have:iB [] k=0:=Nat.le_zero.1 (D9 [] k)
 unfold ni;rw [this];rfl
section
variable {acc rej acc' oD:Int→Bool}
theorem aad:∀ (l:List cB) (k c:Nat),(∀ y∈l,acc y.rev=acc' y.rev)→lJ acc l k c=lJ acc' l k c
 | [],_,_,_=>by rw [lJ,lJ]
 | y :: r,k,c,h=>by
  rw [lJ,lJ,h y eX];exact aad r _ _ fun z hz=>h z (fJ _ hz)
theorem acf (sZ:List (Int × Bool)):∀ (l:List cB) (k:Nat) (now:Int × Bool),(∀ y∈l,rej y.rev=oD y.rev)→rF rej sZ l k now=rF oD sZ l k now
 | [],_,_,_=>by rw [rF,rF]
 | y :: r,k,now,h=>by
  have ih:=fun k now=>acf sZ r k now fun z hz=>h z (fJ _ hz);rw [rF,rF,h y eX,ih,ih]
theorem YH (props:List aS):∀ (L:List (Int × List cB)) (s:List aS × List cB),(∀ q∈L,∀ y∈q.2,acc y.rev=acc' y.rev∧rej y.rev=oD y.rev)→qV acc rej props L s=qV acc' oD props L s
 | [],_,_=>by rw [qV,qV]
 | (k,l) :: r,s,h=>by
  have h0:=h (k,l) eX
  have e:pY acc rej props k l=pY acc' oD props k l:=by
   unfold pY
   rw [aad l 0 0 fun y hy=>(h0 y hy).1];exact acf _ _ _ _ fun y hy=>(h0 y (List.mem_of_mem_drop hy)).2
  rw [qV,qV,e];exact YH props r _ fun q hq=>h q (fJ _ hq)
theorem NZ {C:bC} {e:Int} {h:dP} (hh:Nn C e h) (hq:∀ q∈C.iV,acc q=acc' q∧rej q=oD q):(lM acc rej h↔lM acc' oD h)∧kM acc rej h=kM acc' oD h:=by
 have hd:∀ x∈h.marks.bH,acc x.rev=acc' x.rev∧rej x.rev=oD x.rev:=fun x hx=>hq _ (hh.dl.1 x hx).1;have hi:h.marks.ins≠0→acc h.marks.ins=acc' h.marks.ins∧rej h.marks.ins=oD h.marks.ins:=fun h0=>hq _ (hh.mrk.1 h0)
 have hins:ny acc h↔ny acc' h:=by
  unfold ny
  exact ⟨fun ⟨a,b⟩=>⟨a,by rw [← (hi a).1];exact b⟩,fun ⟨a,b⟩=>⟨a,by rw [(hi a).1];exact b⟩⟩
 constructor
 ·unfold lM
  constructor
  ·rintro (⟨a,b⟩|⟨x,hx,b⟩)
   ·exact .inl ⟨a,by rw [← (hi a).2];exact b⟩
   exact .inr ⟨x,hx,by rw [← (hd x hx).1];exact b⟩
  rintro (⟨a,b⟩|⟨x,hx,b⟩)
  ·exact .inl ⟨a,by rw [(hi a).2];exact b⟩
  exact .inr ⟨x,hx,by rw [(hd x hx).1];exact b⟩
 unfold kM
 have f1:=(IV h.marks.layers.length h.marks.layers (bR _)).1;rw [YH h.props _ _ fun q hq2 y hy=>hq _ (hh.ly.1 y (by rw [← f1];exact List.mem_flatMap.2 ⟨q,hq2,hy⟩)).1]
 have e1:(if ny acc h then (0:Int) else h.marks.ins)=if ny acc' h then 0 else h.marks.ins:=by simp only [hins]
 have e2:(if ny acc h then (0:Int) else h.marks.move)=if ny acc' h then 0 else h.marks.move:=by simp only [hins]
 have e3:h.marks.bH.filter (fun x=>!rej x.rev)=h.marks.bH.filter fun x=>!oD x.rev:=List.filter_congr fun x hx=>by rw [(hd x hx).2]
 simp only [e1,e2,e3]
mutual
theorem arb {C:bC} (hq:∀ q∈C.iV,acc q=acc' q∧rej q=oD q) (body note:Bool) (t:Int):∀ x:ay,kY C body note t x→oZ acc rej x=oZ acc' oD x
 | .mk k c i tx h f r,hx=>by
  have hf:=Qg hq false true t f;have hr:=adp hq note (t+1) r;rw [kY] at hx;obtain ⟨-,-,h3,h4,h5⟩:=hx;obtain ⟨g1,g2⟩:=NZ ((FX _ _ _).1 h3) hq;rw [oZ,oZ]
  simp only [g1,g2]
  split
  ·rfl
  split
  ·rename_i h6;rw [hf (h4 h6)]
  split
  ·rename_i h7;rw [hr (h5 h7).2]
  rfl
theorem ard {C:bC} (hq:∀ q∈C.iV,acc q=acc' q∧rej q=oD q) (note:Bool) (t:Int):∀ x:aU,oU C note t x→pK acc rej x=pK acc' oD x
 | .mk h cs,hx=>by
  have hc:=ado hq note t cs;rw [oU] at hx;obtain ⟨g1,g2⟩:=NZ ((FX _ _ _).1 (Qk.1 hx.1).1) hq;rw [pK,pK]
  simp only [g1,g2,hc hx.2]
theorem ara {C:bC} (hq:∀ q∈C.iV,acc q=acc' q∧rej q=oD q) (note:Bool) (t:Int):∀ x:aZ,oQ C note t x→qO acc rej x=qO acc' oD x
 | .mk i h f,hx=>by
  have hf:=Qg hq false note t f;rw [oQ] at hx;obtain ⟨g1,g2⟩:=NZ ((FX _ _ _).1 hx.1) hq;rw [qO,qO]
  simp only [g1,g2,hf hx.2]
theorem Qg {C:bC} (hq:∀ q∈C.iV,acc q=acc' q∧rej q=oD q) (body note:Bool) (t:Int):∀ l:List ay,iC C body note t l→fC acc rej l=fC acc' oD l
 | [],_=>by rw [fC,fC]
 | x :: l,h=>by
  rw [iC] at h;rw [fC,fC,arb hq body note t x h.1,Qg hq body note t l h.2]
theorem adp {C:bC} (hq:∀ q∈C.iV,acc q=acc' q∧rej q=oD q) (note:Bool) (t:Int):∀ l:List aU,jY C note t l→iL acc rej l=iL acc' oD l
 | [],_=>by rw [iL,iL]
 | x :: l,h=>by
  rw [jY] at h;rw [iL,iL,ard hq note t x h.1,adp hq note t l h.2]
theorem ado {C:bC} (hq:∀ q∈C.iV,acc q=acc' q∧rej q=oD q) (note:Bool) (t:Int):∀ l:List aZ,kK C note t l→gJ acc rej l=gJ acc' oD l
 | [],_=>by rw [gJ,gJ]
 | x :: l,h=>by
  rw [kK] at h;rw [gJ,gJ,ara hq note t x h.1,ado hq note t l h.2]
end
theorem adw {d:fT} (h:iy d=0) (hq:∀ q∈d.revs.map bL.id,acc q=acc' q∧rej q=oD q):iQ acc rej d=iQ acc' oD d:=by
 rw [Bl] at h;obtain ⟨-,⟨h2,-⟩,h4,-,-⟩:=h;have e1:=Qg (C:=d.ku) hq true false 0 d.flow h4;obtain ⟨g1,g2⟩:=NZ (C:=d.ku) ((FX _ _ _).1 h2) hq
 unfold iQ bG
 simp only [e1,g1,g2]
def Left (C:bC) (acc rej:Int→Bool) (h:dP):Prop:=∀ q∈refs h,q=0∨(q∈C.iV∧acc q=false∧rej q=false)
theorem N8 {C:bC} {e:Int} {h:dP} (hE:gN C e h=0) (hg:¬ lM acc rej h):Left C acc rej (kM acc rej h):=by
 have hh:=(FX _ _ _).1 hE;intro q hq
 unfold refs at hq
 rcases iX.1 hq with rfl|hq
 ·show (if ny acc h then 0 else h.marks.ins)=0∨_
  by_cases hi:ny acc h
  ·rw [ak hi];exact .inl rfl
  show _∨((if ny acc h then 0 else h.marks.ins)∈_∧acc (if ny acc h then 0 else h.marks.ins)=false∧rej (if ny acc h then 0 else h.marks.ins)=false)
  rw [ah hi]
  by_cases h0:h.marks.ins=0
  ·exact .inl h0
  refine .inr ⟨hh.mrk.1 h0,?_,?_⟩
  ·cases ha:acc h.marks.ins
   ·rfl
   exact absurd ⟨h0,ha⟩ hi
  cases ha:rej h.marks.ins
  ·rfl
  exact absurd (.inl ⟨h0,ha⟩) hg
 rcases mJ.1 hq with hq|hq
 ·obtain ⟨x,hx,rfl⟩:=List.mem_map.1 hq;have hx2:x∈h.marks.bH.filter fun x=>!rej x.rev:=hx;rw [List.mem_filter] at hx2;refine .inr ⟨(hh.dl.1 x hx2.1).1,?_,by simpa using hx2.2⟩
  cases ha:acc x.rev
  ·rfl
  exact absurd (.inr ⟨x,hx2.1,ha⟩) hg
 obtain ⟨y,hy,rfl⟩:=List.mem_map.1 hq;obtain ⟨z,hz,e,h1,h2⟩:=(YP acc rej hh).2 y hy;rw [← e];exact .inr ⟨(hh.ly.1 z hz).1,h2,h1⟩
theorem aan:∀ a b:List ay,jS (a++b)=jS a++jS b
 | [],b=>by simp [jS]
 | x :: a,b=>by simp [jS,aan a b]
theorem aau:∀ a b:List aU,oN (a++b)=oN a++oN b
 | [],b=>by simp [oN]
 | x :: a,b=>by simp [oN,aau a b]
theorem aal:∀ a b:List aZ,qh (a++b)=qh a++qh b
 | [],b=>by simp [qh]
 | x :: a,b=>by simp [qh,aal a b]
mutual
theorem ark (C:bC) (body note:Bool) (t:Int):∀ x:ay,kY C body note t x→∀ h∈jS (oZ acc rej x),Left C acc rej h
 | .mk k c i tx h f r,hx,h0,hh=>by
  have hf:=Qi C false true t f;have hr:=adt C note (t+1) r;rw [kY] at hx;obtain ⟨-,-,h3,h4,h5⟩:=hx;rw [oZ] at hh
  split at hh
  ·rw [jS] at hh;cases hh
  rename_i hg
  have hd:=N8 h3 hg
  have one:∀ y:ay,jS [y]=zT y:=fun y=>by rw [jS,jS,fZ]
  split at hh
  ·rename_i h6
   rw [one,zT,ak h6,ah (show ¬ k=7 by omega),fZ] at hh
   rcases iX.1 hh with rfl|hh
   ·exact hd
   exact hf (h4 h6) h0 hh
  rename_i h6
  split at hh
  ·rename_i h7
   split at hh
   ·rw [jS] at hh;cases hh
   rw [one,zT,ah h6,ak h7,oL] at hh
   rcases iX.1 hh with rfl|hh
   ·exact hd
   exact hr (h5 h7).2 h0 hh
  rename_i h7
  rw [one,zT,ah h6,ah h7,oL] at hh;rw [tL.1 hh];exact hd
theorem arl (C:bC) (note:Bool) (t:Int):∀ x:aU,oU C note t x→∀ h∈oN (pK acc rej x),Left C acc rej h
 | .mk h cs,hx,h0,hh=>by
  have hc:=ads C note t cs;rw [oU] at hx;rw [pK] at hh
  split at hh
  ·rw [oN] at hh;cases hh
  rename_i hg
  split at hh
  ·rw [oN] at hh;cases hh
  rw [oN,oN,fZ,Er] at hh
  rcases iX.1 hh with rfl|hh
  ·exact N8 (Qk.1 hx.1).1 hg
  exact hc hx.2 h0 hh
theorem arj (C:bC) (note:Bool) (t:Int):∀ x:aZ,oQ C note t x→∀ h∈qh (qO acc rej x),Left C acc rej h
 | .mk i h f,hx,h0,hh=>by
  have hf:=Qi C false note t f;rw [oQ] at hx;rw [qO] at hh
  split at hh
  ·rw [qh] at hh;cases hh
  rename_i hg
  rw [qh,qh,fZ,Eo] at hh
  rcases iX.1 hh with rfl|hh
  ·exact N8 hx.1 hg
  exact hf hx.2 h0 hh
theorem Qi (C:bC) (body note:Bool) (t:Int):∀ l:List ay,iC C body note t l→∀ h∈jS (fC acc rej l),Left C acc rej h
 | [],_,h0,hh=>by rw [fC,jS] at hh;cases hh
 | x :: l,h,h0,hh=>by
  rw [iC] at h;have a:=ark C body note t x h.1;have b:=Qi C body note t l h.2;rw [fC,aan] at hh;exact (mJ.1 hh).elim (a h0) (b h0)
theorem adt (C:bC) (note:Bool) (t:Int):∀ l:List aU,jY C note t l→∀ h∈oN (iL acc rej l),Left C acc rej h
 | [],_,h0,hh=>by rw [iL,oN] at hh;cases hh
 | x :: l,h,h0,hh=>by
  rw [jY] at h;have a:=arl C note t x h.1;have b:=adt C note t l h.2;rw [iL,aau] at hh;exact (mJ.1 hh).elim (a h0) (b h0)
theorem ads (C:bC) (note:Bool) (t:Int):∀ l:List aZ,kK C note t l→∀ h∈qh (gJ acc rej l),Left C acc rej h
 | [],_,h0,hh=>by rw [gJ,qh] at hh;cases hh
 | x :: l,h,h0,hh=>by
  rw [kK] at h;have a:=arj C note t x h.1;have b:=ads C note t l h.2;rw [gJ,aal] at hh;exact (mJ.1 hh).elim (a h0) (b h0)
end
def MV (acc rej:Int→Bool) (r:List bL):List bL:=r.filter fun x=>!acc x.id && !rej x.id
theorem arq {d:fT} (h:iy d=0):iy ⟨fC acc rej d.flow,bG acc rej d.fin,MV acc rej d.revs,d.gU⟩=0:=by
 obtain ⟨g1,⟨g2,g3⟩,g4,-,-⟩:=(Bl _).1 h;obtain ⟨h1,h2,h3,h4,h5⟩:=(Bl _).1 (MB (acc:=acc) (rej:=rej) h);have hg:=adJ h1.2
 have h0:(0:Int)∉(iQ acc rej d).ku.iV:=by
  intro hm;obtain ⟨x,hx,e⟩:=List.mem_map.1 (show (0:Int)∈d.revs.map bL.id from hm);have:=(hg.2.1 x hx).2.2.1
  omega
 have hin:∀ q,(q=0∨(q∈d.ku.iV∧acc q=false∧rej q=false))→q≠0→q∈(MV acc rej d.revs).map bL.id:=by
  intro q hq hn;obtain ⟨a,b,c⟩:=hq.resolve_left hn;obtain ⟨x,hx,rfl⟩:=List.mem_map.1 (show q∈d.revs.map bL.id from a);exact List.mem_map.2 ⟨x,List.mem_filter.2 ⟨hx,by simp [b,c]⟩,rfl⟩
 have hgo:¬ lM acc rej d.fin:=by
  unfold sj at g3
  rw [mU] at g3;rintro (⟨a,-⟩|⟨x,hx,-⟩)
  ·exact g3 (.inl (.inl a))
  exact g3 (.inr (by have:=List.length_pos_of_mem hx;omega))
 refine (Bl _).2 ⟨⟨h1.1,aaj (hg.sub List.filter_sublist)⟩,⟨Ll (C:=(iQ acc rej d).ku) (C':=bE [] d.gU.styles d.gU.lists (MV acc rej d.revs)) rfl rfl h0 (fun q hq hn=>hin q ?_ hn) h2.1,h2.2⟩,MF (C:=(iQ acc rej d).ku) (C':=bE [] d.gU.styles d.gU.lists (MV acc rej d.revs)) rfl rfl h0 true false 0 _ (fun x hx q hq hn=>hin q (Qi d.ku true false 0 _ g4 x hx q hq) hn) h3,h4,h5⟩;have hl:=N8 g2 hgo;rw [show bG acc rej d.fin=kM acc rej d.fin from ah hgo] at hq;exact hl q hq
theorem atO {d:fT} (h:iy d=0) {q:Int} (hq:q∈kS (oP (iQ acc rej d))):q∈(MV acc rej d.revs).map bL.id:=by
 have h1:=(PO (arq (acc:=acc) (rej:=rej) h)).1
 unfold kS at hq
 rw [List.mem_filter,lF,NC] at hq;obtain ⟨hq|hq,hn⟩:=hq
 ·cases hq
 exact (Qd h1 q hq).resolve_left hn
theorem aeI {d:fT} (h:iy d=0) (hq:∀ q∈d.revs.map bL.id,acc q=true∨rej q=true):kS (oP (iQ acc rej d))=[]:=by
 rcases he:kS (oP (iQ acc rej d)) with _|⟨q,l⟩
 ·rfl
 have:=atO h (show q∈kS (oP (iQ acc rej d)) by rw [he];exact eX);obtain ⟨x,hx,rfl⟩:=List.mem_map.1 this;obtain ⟨h1,h2⟩:=List.mem_filter.1 hx;have:=hq x.id (List.mem_map.2 ⟨x,h1,rfl⟩)
 rcases this with e|e <;> rw [e] at h2 <;> simp at h2
theorem aeH (d:fT):kS (nD d)=kS (oP d):=rfl
end
theorem Zm:∀ args w,(callFunc 19 args).run prog w=.ok (.enter 19 args) w:=enters func19 rfl (by kernel_rfl)
theorem Zn:∀ args w,(callFunc 20 args).run prog w=.ok (.enter 20 args) w:=enters func20 rfl (by kernel_rfl)
theorem X7 (G:GH) (w0:World) (hG:Hold G w0) (D:iE) (d:fT) (hR:jN G D d) (hl:d.revs.length≤4294967296) :
  Calls prog 19 #[D.val] w0 (bB w0 G fun u G'=>au G' (.sl 1 ((d.revs.map bL.id).map fun q=>[li q])) u):=by
 have hml:4294967297≤maxLen:=by decide
 refine eN [(0,_)] func19 rfl ntmps19 rfl rfl hG ?_;intro a H;refine fK (fun _ K1=>?_);refine dW (cs:=[_,_,_,_,_,_,_,_,_,_,_]) H wn rfl rfl rfl ?_;clear H;intro b1 a w hb1 H;refine kH H (aF K1 rfl (SQ fun _ K2=>?_));clear H K1;intro a H;obtain ⟨Ga,hma,hb1',H⟩:=H.eB;have hgd:=fun j v hj=>nN hb1' 0 D.cells rfl j v hj;replace hR:=hR.mono hma;have hgr:=hgd 6 _ rfl;obtain ⟨rA,rc,er,hr1,hr2,hgv⟩:=hR.rv.slice;rw [bO] at er hr1;rw [er] at hgr;refine kP H (SC (gY K2 rfl (SQ fun _ K3=>SR fun _ K4=>aF K4 rfl (SB ?_))));clear H K2 K4;intro a H;skip;refine eH (ι:=Nat × aj × List aj × OL) (Tc:=[(1,_)]) (Lc:=[]) (fun gh=>[(3,gh.2.1),(4,vi gh.1)]) (fun gh=>[]++gh.2.2.2) (fun gh=>Ga) (fun gh=>gh.1≤d.revs.length∧bX 3 1 gh.2.1 gh.1 gh.2.2.1 gh.2.2.2∧bV Ga 1 (((d.revs.take gh.1).map bL.id).map fun q=>[li q]) gh.2.2.1) (fun gh=>d.revs.length - gh.1) ((0,.slice none 0 0,[],[])) (by exact (H).sub ⟨rfl,rfl,rfl,aL⟩) ?_ ?_
 ·exact ⟨by omega,bX.nil,bV.nil⟩
 clear H;rintro ⟨k,v,xs,Lo⟩ a w hI H;dsimp only at hI H;obtain ⟨hk,hrw,dQ⟩:=hI;dsimp only [lca,bK] at H;refine kP H (SQ fun _ K5=>SR fun _ K6=>Rm rfl (Rf zN rfl (Rg vw rfl hgr (Rl nQ rfl (Rc rfl (Kz K6 (Cd rfl ?_ ?_))))))) <;> clear H K6
 ·intro h9 a H
  try have p9:=dT h9
  have hk2:k < d.revs.length:=by omega
  obtain ⟨b,o,cs,rfl,-,hrow,hrep⟩:=hgv k d.revs[k].dat (by simp [hk2]);obtain rfl:=JG hrep;refine kP H (Kc K5 (SQ fun _ K7=>SB (SC (Rm rfl (Rf zN rfl (Rg vw rfl hgr (Rm rfl (Ri nQ mP rfl rfl (Rf Oi rfl (Rg aT rfl (hrow 0 _ rfl) ?_))))))))));clear H K5;intro a H;refine gQ sJ aT [_] [_] H wn rfl rfl rfl rfl rfl (by intro i q h;match i,h with|0,h=>exact h|n+1,h=>simp at h) rfl rfl ?_;clear H;intro b19 a w aaz H;refine mI (Li:=[_]) (Lo:=Lo) (news:=[vi d.revs[k].id]) sJ aT rfl rfl H wn rfl rfl hrw rfl (H.hp.bT 0 rfl rfl) rfl (by omega) (by omega) rfl ?_;clear H;intro v20 afn a w anS H;refine kH H (gY K7 rfl (SC (Rm rfl (Rd rfl (Ra rfl ?_)))));clear H K7;intro a H;refine aC ?_;refine dx ((k+1,v20,xs++[vi d.revs[k].id],afn)) (by exact (H.dX (Pl:=[_]) (dN:=[]) [] (by decide) rfl).sub ⟨rfl,rfl,rfl,aL⟩) ?_
  (try dsimp only);exact ⟨by omega,anS,by rw [fV hk2,kV,kV];exact dQ.snoc (aoO _ _) rfl⟩
 intro h9 a H
 try have p9:=dF h9
 obtain rfl:k=d.revs.length:=by omega
 rw [vJ] at dQ;refine jI ?_;refine K3 _ _ ?_;clear K3;refine kP H (SR fun _ K8=>Rm rfl (aF K8 rfl ?_));clear H K8;intro a H;refine cK ?_;obtain ⟨G',hm,rZ,H⟩:=H.nO (Li:=[]) hrw (rows:=(d.revs.map bL.id).map fun q=>[li q]) (by simp) dQ;refine lv H results19 rfl ?_;exact H.rt rZ
abbrev cF:Int→Bool:=fun _=>false
abbrev cT:Int→Bool:=fun _=>true
theorem adn {d:fT} (hc:iy d=0):∀ q∈d.revs.map bL.id,lsB (d.revs.map bL.id) q=true:=fun q hq=>by
 show ni _ _=true
 rw [Uv ((Wn hc).1.imp fun h=>Int.le_of_lt h),iO hq]
theorem atZ {d:fT} (hc:iy d=0):iQ (lsB []) (lsB (d.revs.map bL.id)) d=iQ cF cT d∧iQ (lsB (d.revs.map bL.id)) (lsB []) d=iQ cT cF d :=
 ⟨adw hc fun q hq=>⟨aaw q,adn hc q hq⟩,adw hc fun q hq=>⟨adn hc q hq,aaw q⟩⟩
theorem aua {d:fT} (hc:iy d=0):kS (nD (iQ cF cT d))=[]∧kS (nD (iQ cT cF d))=[]:=by
 rw [aeH,aeH];exact ⟨aeI hc fun _ _=>.inr rfl,aeI hc fun _ _=>.inl rfl⟩
theorem aub (G:GH) (w0:World) (hG:Hold G w0) (D:iE) (d:fT) (hR:jN G D d) (hs:zC 536870912 d) :
  Calls prog 3 #[D.val] w0 (bB w0 G fun u G'=>u=.bool true):=by
 refine eN [(0,_)] func3 rfl ntmps3 rfl rfl hG ?_;intro a H;refine fK (fun _ K1=>?_);refine dW (cs:=[_,_,_,_,_,_,_,_,_,_,_]) H wn rfl rfl rfl ?_;clear H;intro b1 a w hb1 H;refine kH H (aF K1 rfl (SQ fun _ K2=>SQ fun _ K3=>?_));clear H K1;intro a H;obtain ⟨Ga,hma,hb1',H⟩:=H.eB;have hgd:=fun j v hj=>nN hb1' 0 D.cells rfl j v hj;replace hR:=hR.mono hma;refine tO ?_;refine s_call Sq H wn rfl (Vy _ _ H.ro) rfl ?_;clear H;rintro v5 G5 a w rfl zZ H;replace hR:=hR.mono zZ;replace hgd:=fun j v hj=>aG zZ (hgd j v hj);refine kH H (Rn rfl (Rm rfl (Sp 7 rfl ?_ ?_))) <;> clear H
 ·intro h7 a H
  try have p7:=dT h7
  refine kH H (fU h7 rfl (fU h7 rfl (Pt h7 rfl (Kn K3 (Ct rfl rfl (SR fun _ K4=>?_))))));clear H K3;intro a H;refine s_call Sq H wn rfl (Vy _ _ H.ro) rfl ?_;clear H;rintro v13 DR a w rfl yT H;replace hR:=hR.mono yT;replace hgd:=fun j v hj=>aG yT (hgd j v hj);exact kH H (aF K4 rfl (LR results3 rfl fun H=>H.rt (by first|rfl|(simp_all;done))))
 intro h7 a H
 try have p7:=dF h7
 refine aR gV (cs:=D.cells) H (wg H rfl rfl h7) rfl rfl (fun j v hj=>H.hp.aH (hgd j v hj)) rfl ?_;clear H;intro a H;refine jl WK [_,_] H (wg H rfl rfl h7) rfl rfl rfl rfl ?_;clear H;intro a H;refine s_call aii H (wg H rfl rfl h7) rfl (ata _ _ H.ro D d hR hs.z [] [] _ _ ⟨au.mg rfl (by decide),au.mg rfl (by decide),by decide,by decide⟩) rfl ?_;clear H;rintro v10 zD a w ⟨b10,rfl,aml⟩ yS H;replace hR:=hR.mono yS;replace hgd:=fun j v hj=>aG yS (hgd j v hj);refine kH H (YN h7 rfl (Pf h7 rfl (Kn K3 (Cd rfl ?_ ?_)))) <;> clear H K3
 ·intro h12 a H
  try have qo:=dT h12
  refine fK (fun _ K5=>?_);refine s_call Sq H wn rfl (Vy _ _ H.ro) rfl ?_;clear H;rintro v13 DR a w rfl yT H;replace hR:=hR.mono yT;replace hgd:=fun j v hj=>aG yT (hgd j v hj);exact kH H (aF K5 rfl (LR results3 rfl fun H=>H.rt (by first|rfl|(simp_all;done))))
 intro h12 a H
 try have qo:=dF h12
 refine iw ?_;refine K2 _ _ ?_;clear K2;refine eY (fun _ K6=>?_)
 have hc:iy d=0:=by simp_all
 have Pk:∀ (aJ jP bQ:Nat) (v:aj) (G G':GH),(∀ k o,G k=some o→G' k=some o)→(fun (aJ jP bQ:Nat) (v:aj) (G:GH)=>match bQ with|0=>v=.agg D.cells.toArray|1=>∃ M:iE,v=M.val∧jN G M (nD (iQ cF cT d))|2=>v=.agg D.cells.toArray|3=>∃ M:iE,v=M.val∧jN G M (nD (iQ cT cF d))|4=>v=(aM aJ 0)|5=>v=(aM jP 0)|_=>True) aJ jP bQ v G→(fun (aJ jP bQ:Nat) (v:aj) (G:GH)=>match bQ with|0=>v=.agg D.cells.toArray|1=>∃ M:iE,v=M.val∧jN G M (nD (iQ cF cT d))|2=>v=.agg D.cells.toArray|3=>∃ M:iE,v=M.val∧jN G M (nD (iQ cT cF d))|4=>v=(aM aJ 0)|5=>v=(aM jP 0)|_=>True) aJ jP bQ v G':=by
  intro aJ jP bQ v G G' hm h
  match bQ,h with
  | 0,h=>exact h
  | 1,h=>exact let ⟨M,h1,h2⟩:=h;⟨M,h1,h2.mono hm⟩
  | 2,h=>exact h
  | 3,h=>exact let ⟨M,h1,h2⟩:=h;⟨M,h1,h2.mono hm⟩
  | 4,h=>exact h
  | 5,h=>exact h
  | 6,h=>exact trivial
  | 7,h=>exact trivial
  | _+8,h=>exact trivial
 refine afW (hmx) [[],[0],[],[0,1,2],[],[],(ra 0 6),(ra 0 7)] [6,7] (by kernel_rfl) (by kernel_rfl) 4 5 (by decide) (by decide) (by decide) (.cells #[.slice none 0 0,.slice none 0 0,vi 0,vi 0,.slice none 0 0,.slice none 0 0,.slice none 0 0,.slice none 0 0,.slice none 0 0,.slice none 0 0,.slice none 0 0] 38 (0,0)) (.cells #[.slice none 0 0,.slice none 0 0,vi 0,vi 0,.slice none 0 0,.slice none 0 0,.slice none 0 0,.slice none 0 0,.slice none 0 0,.slice none 0 0,.slice none 0 0] 38 (0,0)) (fun (aJ jP bQ:Nat) (v:aj) (G:GH)=>match bQ with|0=>v=.agg D.cells.toArray|1=>∃ M:iE,v=M.val∧jN G M (nD (iQ cF cT d))|2=>v=.agg D.cells.toArray|3=>∃ M:iE,v=M.val∧jN G M (nD (iQ cT cF d))|4=>v=(aM aJ 0)|5=>v=(aM jP 0)|_=>True) (fun b b' c i v G hi hc h=>by (iterate 8 (rcases i with _|i;(first|exact h|exact absurd hi (by decide)|exact absurd hc (by decide))));exact trivial) (fun b c c' i v G hi hc h=>by (iterate 8 (rcases i with _|i;(first|exact h|exact absurd hi (by decide)|exact absurd hc (by decide))));exact trivial) H ?_ ?_ ?_ ?_ (by kernel_rfl) (by kernel_rfl)
 ·clear H;refine aD ?_ ?_ ?_ ?_ (aD ?_ ?_ ?_ ?_ cO)
  ·intro aJ jP dD aP a w G1 dH _ _ _ aK hc hG HT hv;have H:=HT;clear aK;have Hb:=H.full;have H:=Hb;clear hc;refine aR gV (cs:=D.cells) H wn rfl rfl (fun j v hj=>H.hp.aH (aG hG (hgd j v hj))) rfl ?_;clear H;intro a H;refine aC ⟨rfl,?_⟩;exact dw (by kernel_rfl) (Pk aJ jP) rfl rfl HT Hb hG hv (fun _ _ h=>h) (rfl) H
  ·intro aJ jP dD aP a w G1 dH _ _ _ aK hc hG HT hv;have H:=HT;clear aK;have H:=H.aN (hv 0 14 (hc 0 (by decide)) rfl) rfl;have Hb:=H.full;have H:=Hb;clear hc;refine s_call Zf H wn rfl (adl _ _ H.ro D d (hR.mono hG) hs hc) rfl ?_;clear H;rintro v15 Cn a w ⟨N15,rfl,ame⟩ zS H;refine aC ⟨rfl,?_⟩;exact dw (by kernel_rfl) (Pk aJ jP) rfl rfl HT Hb hG hv zS (⟨N15,rfl,ame⟩) H
  ·intro aJ jP dD aP a w G1 dH _ _ _ aK hc hG HT hv;have H:=HT;clear aK;have Hb:=H.full;have H:=Hb;clear hc;refine aR gV (cs:=D.cells) H wn rfl rfl (fun j v hj=>H.hp.aH (aG hG (hgd j v hj))) rfl ?_;clear H;intro a H;refine aC ⟨rfl,?_⟩;exact dw (by kernel_rfl) (Pk aJ jP) rfl rfl HT Hb hG hv (fun _ _ h=>h) (rfl) H
  ·intro aJ jP dD aP a w G1 dH _ _ _ aK hc hG HT hv;have H:=HT;clear aK;have H:=H.aN (hv 2 16 (hc 2 (by decide)) rfl) rfl;have Hb:=H.full;have H:=Hb;clear hc;refine s_call Zh H wn rfl (adk _ _ H.ro D d (hR.mono hG) hs hc) rfl ?_;clear H;rintro v17 yG a w ⟨N17,rfl,amf⟩ TW H;refine aC ⟨rfl,?_⟩;exact dw (by kernel_rfl) (Pk aJ jP) rfl rfl HT Hb hG hv TW (⟨N17,rfl,amf⟩) H
  ·intro _ _ _ _ _ _ _ _ _ hB;exact absurd hB (by decide)
  ·intro _ _ _ _ _ _ _ _ _ _ hB;exact absurd hB (by decide)
  ·intro _ _ _ _ _ _ _ _ hB;exact absurd hB (by decide)
  intro _ _ _ _ _ _ _ _ hB;exact absurd hB (by decide)
 ·clear H;intro o_ jP dD aP a w G1 dH jv _ hc hG HT hv;obtain rfl:_=o_:=Option.some.inj jv;clear jv;have H:=HT;have Hb:=H.full;have H:=Hb;clear hc;refine dJ gV H wn rfl ?_;clear H;intro b3 a w hb3 H;refine aC ⟨rfl,b3,?_⟩;exact Cw (by kernel_rfl) rfl HT Hb hG (fun j e h1 h2 h3=>hv _ j e h1 h2 h3) (rfl) H
 ·clear H;intro o_ aJ dD aP a w G1 dH jv _ hc hG HT hv;obtain rfl:_=o_:=Option.some.inj jv;clear jv;have H:=HT;have Hb:=H.full;have H:=Hb;clear hc;refine dJ gV H wn rfl ?_;clear H;intro b4 a w hb4 H;refine aC ⟨rfl,b4,?_⟩;exact Cw (by kernel_rfl) rfl HT Hb hG (fun j e h1 h2 h3=>hv _ j e h1 h2 h3) (rfl) H
 clear H;intro b3 b4 a w G rV H hv;have H:=H.aN (hv 4 3 rfl rfl) rfl;have H:=H.aN (hv 5 4 rfl rfl) rfl;obtain ⟨u15,Va,Ae⟩:=hv 1 15 (by decide) rfl;(try dsimp only at Ae);obtain ⟨AV,rfl,alY⟩:=Ae;have H:=H.gI Va;obtain ⟨u17,Vb,ED⟩:=hv 3 17 (by decide) rfl;(try dsimp only at ED);obtain ⟨AX,rfl,alZ⟩:=ED;have H:=H.gI Vb;clear hv;refine aY gV 0 (vs:=[_,_,_,_,_,_,_,_,_,_,_]) _ H wn rfl rfl rfl rfl rfl rfl rfl rfl ?_;clear H;intro w H;dsimp only [List.set,setRow] at H;refine aY gV 1 (vs:=[_,_,_,_,_,_,_,_,_,_,_]) _ H wn rfl rfl rfl rfl rfl rfl rfl rfl ?_;clear H;intro w H;dsimp only [List.set,setRow] at H;refine aC ⟨rfl,?_⟩;refine K6 _ _ ?_;clear K6;refine eY (fun _ K7=>?_);obtain ⟨G1,hm1,uf,H⟩:=H.eB;obtain ⟨G2,hm2,xR,H⟩:=H.eB;have hg3:=fun j v hj=>aG hm2 (nN uf 0 AV.cells rfl j v hj);have hg4:=fun j v hj=>nN xR 0 AX.cells rfl j v hj;have hmm:∀ b o,G b=some o→G2 b=some o:=fun b o h=>hm2 b o (hm1 b o h);have hE:=alY.mono hmm;have hF:=alZ.mono hmm;replace hR:=(hR.mono rV).mono hmm;replace hgd:=fun j v hj=>aG hmm (aG rV (hgd j v hj));obtain ⟨e1,e2⟩:=atZ hc;obtain ⟨u1,u2⟩:=aua hc;have hl:=hs.z.rn
 have Eu:(d.revs.map bL.id).length≤4294967296:=by rw [bO];exact hl
 obtain ⟨z1,p1,p2,p3,p4⟩:=acN (acc:=cF) (rej:=cT) hs hc;obtain ⟨z2,q1,q2,q3,q4⟩:=acN (acc:=cT) (rej:=cF) hs hc;have s1:=acB (MC (acc:=cF) (rej:=cT) hs (by decide) (by decide));have s2:=acB (MC (acc:=cT) (rej:=cF) hs (by decide) (by decide));have k1:=acz (MB (acc:=cF) (rej:=cT) hc);have k2:=acz (MB (acc:=cT) (rej:=cF) hc);have f1:=s1.fl;have f2:=s2.fl
 have jX:AY (fun (bQ:Nat) (v:aj) (G:GH)=>match bQ with|0=>v=.agg AV.cells.toArray|1=>v=.agg D.cells.toArray|2=>v=.agg D.cells.toArray|3=>au G (.sl 1 ((d.revs.map bL.id).map fun q=>[li q])) v|4=>∃ A n c,v=.agg #[.slice none 0 0,.slice A n c]∧au G (.sl 1 ((d.revs.map bL.id).map fun q=>[li q])) (.slice A n c)|5=>∃ M:iE,v=M.val∧jN G M (iQ cF cT d)|6=>∃ M:iE,v=M.val∧jN G M (nD (iQ cF cT d))|7=>v=.bool true|8=>v=.bool true|9=>v=.agg AX.cells.toArray|10=>v=.agg D.cells.toArray|11=>v=.agg D.cells.toArray|12=>au G (.sl 1 ((d.revs.map bL.id).map fun q=>[li q])) v|13=>∃ A n c,v=.agg #[.slice A n c,.slice none 0 0]∧au G (.sl 1 ((d.revs.map bL.id).map fun q=>[li q])) (.slice A n c)|14=>∃ M:iE,v=M.val∧jN G M (iQ cT cF d)|15=>∃ M:iE,v=M.val∧jN G M (nD (iQ cT cF d))|16=>v=.bool true|17=>v=.bool true|18=>v=.bool true|19=>v=.agg AV.cells.toArray|20=>v=.bool true|21=>v=.bool true|22=>v=.bool true|23=>v=.agg AX.cells.toArray|24=>v=.bool true|25=>v=.bool true|26=>v=.bool true|27=>v=.agg AV.cells.toArray|28=>v=vi 0|29=>v=.bool true|30=>v=.bool true|31=>v=.bool true|32=>v=.agg AX.cells.toArray|33=>v=vi 0|34=>v=.bool true|35=>v=.bool true|_=>True):=by intro bQ v G G' hm h;(iterate 37 (rcases bQ with _|bQ;(first|exact h|exact h.mono hm|exact let ⟨A,n,c,h1,h2⟩:=h;⟨A,n,c,h1,h2.mono hm⟩|exact let ⟨M,h1,h2⟩:=h;⟨M,h1,h2.mono hm⟩)));exact trivial
 refine zK (hmx) [[],[],[],[2],[2,3],(ra 1 4),(ra 1 5),(ra 0 7),(ra 0 8),(ra 0 9),(ra 0 9),(ra 0 9),(ra 0 9++[11]),(ra 0 9++[11,12]),(ra 0 9++ra 10 4),(ra 0 9++ra 10 5),(ra 0 16),(ra 0 17),(ra 0 18),(ra 0 19),(ra 0 20),(ra 0 21),(ra 0 22),(ra 0 23),(ra 0 24),(ra 0 25),(ra 0 26),(ra 0 27),(ra 0 28),(ra 0 29),(ra 0 30),(ra 0 31),(ra 0 32),(ra 0 33),(ra 0 34),(ra 0 35),(ra 0 36)] [36] (by kernel_rfl) (by kernel_rfl) _ jX H ?_ ?_
 ·clear H;refine aD ?_ ?_ ?_ ?_ (aD ?_ ?_ ?_ ?_ (aD ?_ ?_ ?_ ?_ (aD ?_ ?_ ?_ ?_ (aD ?_ ?_ ?_ ?_ (aD ?_ ?_ ?_ ?_ (aD ?_ ?_ ?_ ?_ (aD ?_ ?_ ?_ ?_ (aD ?_ ?_ ?_ ?_ (bM (bS rfl) cO)))))))))
  ·refine cZ [] rfl trivial (by kernel_rfl) jX rfl rfl ?_;intro aP a w G1 hG HT H fin;refine aR gV (cs:=AV.cells) H wn rfl rfl (fun j v hj=>H.hp.aH (aG hG (hg3 j v hj))) rfl ?_;clear H;intro a H;exact fin H iJ rfl
  ·refine cZ [] rfl trivial (by kernel_rfl) jX rfl rfl ?_;intro aP a w G1 hG HT H fin;refine aR gV (cs:=D.cells) H wn rfl rfl (fun j v hj=>H.hp.aH (aG hG (hgd j v hj))) rfl ?_;clear H;intro a H;exact fin H iJ rfl
  ·refine cZ [] rfl trivial (by kernel_rfl) jX rfl rfl ?_;intro aP a w G1 hG HT H fin;refine aR gV (cs:=D.cells) H wn rfl rfl (fun j v hj=>H.hp.aH (aG hG (hgd j v hj))) rfl ?_;clear H;intro a H;exact fin H iJ rfl
  ·refine cZ [(2,20,_)] rfl ⟨fun _ _ h=>h,aL⟩ (by kernel_rfl) jX rfl rfl ?_;intro aP a w G1 hG HT H fin;refine s_call Zm H wn rfl (X7 _ _ H.ro D d (hR.mono hG) hl) rfl ?_;clear H;rintro v21 Nj a w Jk Ep H;obtain ⟨Xp,n21,c21,rfl⟩:=Jk.form;exact fin H Ep (Jk)
  ·intro aP a w G1 _ aK hc hG HT hv;have H:=HT;clear aK;obtain ⟨u21,hu21,Jk⟩:=hv 3 21 (hc 3 (by decide)) rfl;(try dsimp only at Jk);obtain ⟨Xp,n21,c21,rfl⟩:=Jk.form;have H:=H.gI hu21;have Hb:=H.full;have H:=Hb;clear hc;refine jl WK [_,_] H wn rfl rfl rfl rfl ?_;clear H;intro a H;refine aC ⟨rfl,?_⟩;exact dw (by kernel_rfl) jX rfl rfl HT Hb hG hv (fun _ _ h=>h) (⟨_,_,_,rfl,Jk⟩) H
  ·intro aP a w G1 _ aK hc hG HT hv;have H:=HT;clear aK;have H:=H.aN (hv 1 19 (hc 1 (by decide)) rfl) rfl;obtain ⟨u22,aok,abg⟩:=hv 4 22 (hc 4 (by decide)) rfl;(try dsimp only at abg);obtain ⟨A22,n22,c22,rfl,anL⟩:=abg;have H:=H.gI aok;have Hb:=H.full;have H:=Hb;clear hc;refine s_call Zk H wn rfl (acw (A:=[]) (R:=d.revs.map bL.id) _ _ H.ro D d (hR.mono hG) hs (.slice none 0 0) _ ⟨au.mg rfl (by decide),anL,by decide,Eu⟩) rfl ?_;clear H;rintro v23 Q0 a w ⟨N23,rfl,aas⟩ IX H;rw [e1] at aas;refine aC ⟨rfl,?_⟩;exact dw (by kernel_rfl) jX rfl rfl HT Hb hG hv IX (⟨N23,rfl,aas⟩) H
  ·intro aP a w G1 _ aK hc hG HT hv;have H:=HT;clear aK;obtain ⟨u23,aol,Jl⟩:=hv 5 23 (hc 5 (by decide)) rfl;(try dsimp only at Jl);obtain ⟨M23,rfl,ama⟩:=Jl;have H:=H.gI aol;have Hb:=H.full;have H:=Hb;clear hc;refine s_call Sy H wn rfl (Sk _ _ H.ro M23 _ ama z1 p1 p2 p3 p4) rfl ?_;clear H;rintro v24 yH a w ⟨N24,rfl,amg⟩ alG H;refine aC ⟨rfl,?_⟩;exact dw (by kernel_rfl) jX rfl rfl HT Hb hG hv alG (⟨N24,rfl,amg⟩) H
  ·intro aP a w G1 _ aK hc hG HT hv;have H:=HT;clear aK;have H:=H.aN (hv 0 18 (hc 0 (by decide)) rfl) rfl;obtain ⟨u24,aom,Jm⟩:=hv 6 24 (hc 6 (by decide)) rfl;(try dsimp only at Jm);obtain ⟨M24,rfl,amb⟩:=Jm;have H:=H.gI aom;have Hb:=H.full;have H:=Hb;clear hc;refine s_call Zi H wn rfl (Y3 _ _ H.ro AV M24 _ _ (hE.mono hG) amb (by omega)) rfl ?_;clear H;rintro v25 J3 a w ⟨b25,rfl,amr⟩ T9 H;obtain rfl:=amr.2 rfl;refine aC ⟨rfl,?_⟩;exact dw (by kernel_rfl) jX rfl rfl HT Hb hG hv T9 (rfl) H
  ·refine cZ [(7,25,_)] rfl ⟨fun _ _ h=>h,aL⟩ (by kernel_rfl) jX rfl rfl ?_;intro aP a w G1 hG HT H fin;exact kH H (Rm rfl fun _ H=>fin H iJ rfl)
  ·refine cZ [(8,26,_)] rfl ⟨fun _ _ h=>h,aL⟩ (by kernel_rfl) jX rfl rfl ?_;intro aP a w G1 hG HT H fin;refine aR gV (cs:=AX.cells) H (wg H rfl rfl rfl) rfl rfl (fun j v hj=>H.hp.aH (aG hG (hg4 j v hj))) rfl ?_;clear H;intro a H;exact fin H iJ rfl
  ·refine cZ [(8,26,_)] rfl ⟨fun _ _ h=>h,aL⟩ (by kernel_rfl) jX rfl rfl ?_;intro aP a w G1 hG HT H fin;refine aR gV (cs:=D.cells) H (wg H rfl rfl rfl) rfl rfl (fun j v hj=>H.hp.aH (aG hG (hgd j v hj))) rfl ?_;clear H;intro a H;exact fin H iJ rfl
  ·refine cZ [(8,26,_)] rfl ⟨fun _ _ h=>h,aL⟩ (by kernel_rfl) jX rfl rfl ?_;intro aP a w G1 hG HT H fin;refine aR gV (cs:=D.cells) H (wg H rfl rfl rfl) rfl rfl (fun j v hj=>H.hp.aH (aG hG (hgd j v hj))) rfl ?_;clear H;intro a H;exact fin H iJ rfl
  ·refine cZ [(11,29,_),(8,26,_)] rfl ⟨fun _ _ h=>h,fun _ _ h=>h,aL⟩ (by kernel_rfl) jX rfl rfl ?_;intro aP a w G1 hG HT H fin;refine s_call Zm H (wg H rfl rfl rfl) rfl (X7 _ _ H.ro D d (hR.mono hG) hl) rfl ?_;clear H;rintro v30 zF a w Jo KU H;obtain ⟨QX,n30,RO,rfl⟩:=Jo.form;exact fin H KU (Jo)
  ·intro aP a w G1 _ aK hc hG HT hv;have H:=HT;clear aK;obtain ⟨u30,aoo,Jo⟩:=hv 12 30 (hc 12 (by decide)) rfl;(try dsimp only at Jo);obtain ⟨QX,n30,RO,rfl⟩:=Jo.form;have H:=H.gI aoo;have H:=H.aN (hv 8 26 (hc 8 (by decide)) rfl) rfl;have Hb:=H.full;have H:=Hb;clear hc;refine jl WK [_,_] H (wg H rfl rfl rfl) rfl rfl rfl rfl ?_;clear H;intro a H;refine aC ⟨rfl,?_⟩;exact dw (by kernel_rfl) jX rfl rfl HT Hb hG hv (fun _ _ h=>h) (⟨_,_,_,rfl,Jo⟩) H
  ·intro aP a w G1 _ aK hc hG HT hv;have H:=HT;clear aK;have H:=H.aN (hv 10 28 (hc 10 (by decide)) rfl) rfl;obtain ⟨u31,aop,abj⟩:=hv 13 31 (hc 13 (by decide)) rfl;(try dsimp only at abj);obtain ⟨A31,n31,c31,rfl,anM⟩:=abj;have H:=H.gI aop;have H:=H.aN (hv 8 26 (hc 8 (by decide)) rfl) rfl;have Hb:=H.full;have H:=Hb;clear hc;refine s_call Zk H (wg H rfl rfl rfl) rfl (acw (A:=d.revs.map bL.id) (R:=[]) _ _ H.ro D d (hR.mono hG) hs _ (.slice none 0 0) ⟨anM,au.mg rfl (by decide),Eu,by decide⟩) rfl ?_;clear H;rintro v32 G32 a w ⟨N32,rfl,aat⟩ alI H;rw [e2] at aat;refine aC ⟨rfl,?_⟩;exact dw (by kernel_rfl) jX rfl rfl HT Hb hG hv alI (⟨N32,rfl,aat⟩) H
  ·intro aP a w G1 _ aK hc hG HT hv;have H:=HT;clear aK;obtain ⟨u32,aoq,abk⟩:=hv 14 32 (hc 14 (by decide)) rfl;(try dsimp only at abk);obtain ⟨M32,rfl,amc⟩:=abk;have H:=H.gI aoq;have H:=H.aN (hv 8 26 (hc 8 (by decide)) rfl) rfl;have Hb:=H.full;have H:=Hb;clear hc;refine s_call Sy H (wg H rfl rfl rfl) rfl (Sk _ _ H.ro M32 _ amc z2 q1 q2 q3 q4) rfl ?_;clear H;rintro v33 Xz a w ⟨N33,rfl,amh⟩ Ub H;refine aC ⟨rfl,?_⟩;exact dw (by kernel_rfl) jX rfl rfl HT Hb hG hv Ub (⟨N33,rfl,amh⟩) H
  ·intro aP a w G1 _ aK hc hG HT hv;have H:=HT;clear aK;have H:=H.aN (hv 9 27 (hc 9 (by decide)) rfl) rfl;obtain ⟨u33,aor,abl⟩:=hv 15 33 (hc 15 (by decide)) rfl;(try dsimp only at abl);obtain ⟨M33,rfl,amd⟩:=abl;have H:=H.gI aor;have H:=H.aN (hv 8 26 (hc 8 (by decide)) rfl) rfl;have Hb:=H.full;have H:=Hb;clear hc;refine s_call Zi H (wg H rfl rfl rfl) rfl (Y3 _ _ H.ro AX M33 _ _ (hF.mono hG) amd (by omega)) rfl ?_;clear H;rintro v34 J4 a w ⟨b34,rfl,amu⟩ Uc H;obtain rfl:=amu.2 rfl;refine aC ⟨rfl,?_⟩;exact dw (by kernel_rfl) jX rfl rfl HT Hb hG hv Uc (rfl) H
  ·refine cZ [(8,26,_),(16,34,_)] rfl ⟨fun _ _ h=>h,fun _ _ h=>h,aL⟩ (by kernel_rfl) jX rfl rfl ?_;intro aP a w G1 hG HT H fin;exact kH H (Pt rfl rfl fun _ H=>fin H iJ rfl)
  ·refine cZ [(17,35,_)] rfl ⟨fun _ _ h=>h,aL⟩ (by kernel_rfl) jX rfl rfl ?_;intro aP a w G1 hG HT H fin;exact kH H (Rm rfl fun _ H=>fin H iJ rfl)
  ·refine cZ [(18,36,_)] rfl ⟨fun _ _ h=>h,aL⟩ (by kernel_rfl) jX rfl rfl ?_;intro aP a w G1 hG HT H fin;refine aR gV (cs:=AV.cells) H (wg H rfl rfl rfl) rfl rfl (fun j v hj=>H.hp.aH (aG hG (hg3 j v hj))) rfl ?_;clear H;intro a H;exact fin H iJ rfl
  ·refine cZ [(19,37,_),(18,36,_)] rfl ⟨fun _ _ h=>h,fun _ _ h=>h,aL⟩ (by kernel_rfl) jX rfl rfl ?_;intro aP a w G1 hG HT H fin;refine s_call Zn H (wg H rfl rfl rfl) rfl (adb _ _ H.ro AV _ (hE.mono hG) (by omega) (by rw [u1];intro k h;cases h) (by rw [u1];decide)) rfl ?_;clear H;rintro v38 Nk a w rfl Uf H;rw [u1] at H;exact fin H Uf (rfl)
  ·refine cZ [(18,36,_),(20,38,_)] rfl ⟨fun _ _ h=>h,fun _ _ h=>h,aL⟩ (by kernel_rfl) jX rfl rfl ?_;intro aP a w G1 hG HT H fin;exact kH H (Pt rfl rfl fun _ H=>fin H iJ rfl)
  ·refine cZ [(21,39,_)] rfl ⟨fun _ _ h=>h,aL⟩ (by kernel_rfl) jX rfl rfl ?_;intro aP a w G1 hG HT H fin;exact kH H (Rm rfl fun _ H=>fin H iJ rfl)
  ·refine cZ [(22,40,_)] rfl ⟨fun _ _ h=>h,aL⟩ (by kernel_rfl) jX rfl rfl ?_;intro aP a w G1 hG HT H fin;refine aR gV (cs:=AX.cells) H (wg H rfl rfl rfl) rfl rfl (fun j v hj=>H.hp.aH (aG hG (hg4 j v hj))) rfl ?_;clear H;intro a H;exact fin H iJ rfl
  ·refine cZ [(23,41,_),(22,40,_)] rfl ⟨fun _ _ h=>h,fun _ _ h=>h,aL⟩ (by kernel_rfl) jX rfl rfl ?_;intro aP a w G1 hG HT H fin;refine s_call Zn H (wg H rfl rfl rfl) rfl (adb _ _ H.ro AX _ (hF.mono hG) (by omega) (by rw [u2];intro k h;cases h) (by rw [u2];decide)) rfl ?_;clear H;rintro v42 Nl a w rfl FQ H;rw [u2] at H;exact fin H FQ (rfl)
  ·refine cZ [(22,40,_),(24,42,_)] rfl ⟨fun _ _ h=>h,fun _ _ h=>h,aL⟩ (by kernel_rfl) jX rfl rfl ?_;intro aP a w G1 hG HT H fin;exact kH H (Pt rfl rfl fun _ H=>fin H iJ rfl)
  ·refine cZ [(25,43,_)] rfl ⟨fun _ _ h=>h,aL⟩ (by kernel_rfl) jX rfl rfl ?_;intro aP a w G1 hG HT H fin;exact kH H (Rm rfl fun _ H=>fin H iJ rfl)
  ·refine cZ [(26,44,_)] rfl ⟨fun _ _ h=>h,aL⟩ (by kernel_rfl) jX rfl rfl ?_;intro aP a w G1 hG HT H fin;refine aR gV (cs:=AV.cells) H (wg H rfl rfl rfl) rfl rfl (fun j v hj=>H.hp.aH (aG hG (hg3 j v hj))) rfl ?_;clear H;intro a H;exact fin H iJ rfl
  ·refine cZ [(27,45,_),(26,44,_)] rfl ⟨fun _ _ h=>h,fun _ _ h=>h,aL⟩ (by kernel_rfl) jX rfl rfl ?_;intro aP a w G1 hG HT H fin;refine s_call SH H (wg H rfl rfl rfl) rfl (RX _ _ H.ro AV _ (hE.mono hG) s1.z) rfl ?_;clear H;rintro v46 Q8 a w rfl alL H;rw [k1] at H;exact fin H alL (rfl)
  ·refine cZ [(28,46,_),(26,44,_)] rfl ⟨fun _ _ h=>h,fun _ _ h=>h,aL⟩ (by kernel_rfl) jX rfl rfl ?_;intro aP a w G1 hG HT H fin;refine ER H (wg H rfl rfl rfl) rfl rfl rfl rfl ?_;clear H;intro a H;exact fin H iJ rfl
  ·refine cZ [(26,44,_),(29,47,_)] rfl ⟨fun _ _ h=>h,fun _ _ h=>h,aL⟩ (by kernel_rfl) jX rfl rfl ?_;intro aP a w G1 hG HT H fin;exact kH H (Pt rfl rfl fun _ H=>fin H iJ rfl)
  ·refine cZ [(30,48,_)] rfl ⟨fun _ _ h=>h,aL⟩ (by kernel_rfl) jX rfl rfl ?_;intro aP a w G1 hG HT H fin;exact kH H (Rm rfl fun _ H=>fin H iJ rfl)
  ·refine cZ [(31,49,_)] rfl ⟨fun _ _ h=>h,aL⟩ (by kernel_rfl) jX rfl rfl ?_;intro aP a w G1 hG HT H fin;refine aR gV (cs:=AX.cells) H (wg H rfl rfl rfl) rfl rfl (fun j v hj=>H.hp.aH (aG hG (hg4 j v hj))) rfl ?_;clear H;intro a H;exact fin H iJ rfl
  ·refine cZ [(32,50,_),(31,49,_)] rfl ⟨fun _ _ h=>h,fun _ _ h=>h,aL⟩ (by kernel_rfl) jX rfl rfl ?_;intro aP a w G1 hG HT H fin;refine s_call SH H (wg H rfl rfl rfl) rfl (RX _ _ H.ro AX _ (hF.mono hG) s2.z) rfl ?_;clear H;rintro v51 XE a w rfl alM H;rw [k2] at H;exact fin H alM (rfl)
  ·refine cZ [(33,51,_),(31,49,_)] rfl ⟨fun _ _ h=>h,fun _ _ h=>h,aL⟩ (by kernel_rfl) jX rfl rfl ?_;intro aP a w G1 hG HT H fin;refine ER H (wg H rfl rfl rfl) rfl rfl rfl rfl ?_;clear H;intro a H;exact fin H iJ rfl
  refine cZ [(31,49,_),(34,52,_)] rfl ⟨fun _ _ h=>h,fun _ _ h=>h,aL⟩ (by kernel_rfl) jX rfl rfl ?_;intro aP a w G1 hG HT H fin;exact kH H (Pt rfl rfl fun _ H=>fin H iJ rfl)
 clear H;intro a w G Bv H hv;have H:=H.aN (hv 35 53 rfl rfl) rfl;clear hv;refine kH H (Ra rfl ?_);clear H;intro a H;refine aC ⟨rfl,?_⟩;refine K7 _ _ ?_;clear K7;refine lr H results3 rfl ?_;exact H.rt (by first|rfl|(simp_all;done))
section
open Go.ChangeShapes Go.RowKit Go.Deep
abbrev rC (W:World):GH:=fun k=>W.heap[k]?
theorem als {W:World} {b o:Nat} {v:aj} (h:W.cell? ⟨b,o,none⟩=some v):aH (rC W) b o=some v:=by
 unfold World.cell? at h
 unfold aH rC
 split at h
 ·rename_i c e f hh
  simp only at hh
  rw [hh];simpa using h
 cases h
theorem acg {α:Type} {p:Nat→α→Prop}:∀ n:Nat,(∀ i,i < n→∃ x,p i x)→∃ l:List α,l.length=n∧∀ i x,l[i]?=some x→p i x
 | 0,_=>⟨[],rfl,fun i x h=>by simp at h⟩
 | n+1,h=>by
  obtain ⟨l,hl,hp⟩:=acg n (fun i hi=>h i (by omega));obtain ⟨x,hx⟩:=h n (by omega);refine ⟨l++[x],by simp [hl],fun i y hy=>?_⟩
  by_cases hi:i < l.length
  ·exact hp i y (by rwa [yO hi] at hy)
  rw [tN (by omega)] at hy
  have hin:i - l.length=0:=by
   have:=(jO.1 hy).1
   simp at this;omega
  rw [hin] at hy
  simp only [Bc,oK] at hy
  subst hy;rw [show i=n by omega];exact hx
theorem afR {H:Type} (d:DataW H):1≤Rows.uptoBulk d:=by
 cases d <;> (try simp only [Rows.uptoBulk]) <;> (try omega)
 rename_i x;cases x <;> simp only [Rows.uptoBulk] <;> omega
theorem Yi {H ρ:Type} {dat:ρ→List Dat}:∀ (rs:List ρ) (D:Nat→DataW H),(∀ i r,rs[i]?=some r→bZ (dat r)+1≤8*Rows.uptoBulk (D i))→eG (rs.map dat)≤8*Rows.uptoBulkAll ((List.range rs.length).map D)
 | [],D,_=>iH _
 | r :: rs,D,h=>by
  have h0:=h 0 r rfl;have hp:=afR (D 0);have ih:=Yi rs (fun i=>D (i+1)) (fun i r hr=>h (i+1) r (by simpa using hr));rw [kU,List.range_succ_eq_map]
  simp only [fG,List.map_map,eG,Rows.uptoBulkAll]
  have e:(List.map (D ∘ Nat.succ) (List.range rs.length))=(List.map (fun i=>D (i+1)) (List.range rs.length)):=rfl;rw [e];omega
theorem Yh {H:Type} {D:Nat→DataW H}:∀ {n i:Nat},i < n→Rows.uptoBulk (D i)≤Rows.uptoBulkAll ((List.range n).map D)
 | 0,i,h=>absurd h (by omega)
 | n+1,i,h=>by
  have key:∀ (l m:List (DataW H)),Rows.uptoBulkAll (l++m)=Rows.uptoBulkAll l+Rows.uptoBulkAll m:=by
   intro l m
   induction l with
   | nil=>simp [Rows.uptoBulkAll]
   | cons x l ih=>simp only [oq,Rows.uptoBulkAll,ih];omega
  rw [List.range_succ,kV,key]
  by_cases hi:i < n
  ·have:=Yh (D:=D) hi;omega
  have:i=n:=by omega
  subst this
  simp only [fG,sO,Rows.uptoBulkAll];omega
section
variable {H:Type} {enc:TypeId × aj→H} {P:Program} {W:World} {base:Nat} {spare:Nat→Bool} {held:Bool}
theorem wC {ρ:Type} {dat:ρ→List Dat} {t e:TypeId} {sz:Nat} (hsz:0 < sz) {fuel:Nat} {cs:List aj} {x:DataW H × List MemPlace} (ht:P.underlying t=some (.slice e)) (hc:P.cellsOf e=sz) (h:DataW.trod enc P W base spare held fuel t cs=some x)
  (row:∀ n cs' D Pl,DataW.trod enc P W base spare held n e cs'=some (D,Pl)→Rows.uptoBulk D < Rows.uptoBulk x.1→∃ r:ρ,aV (rC W) (dat r) cs'∧bZ (dat r)+1≤8*Rows.uptoBulk D) :
  ∃ (rs:List ρ) (v:aj),cs=[v]∧au (rC W) (.sl sz (rs.map dat)) v∧eG (rs.map dat)+8≤8*Rows.uptoBulk x.1:=by
 rcases open_slice ht h with ⟨rfl,rfl⟩|⟨a,len,cap,m,n,D,Pl,rfl,hb,hl,hm,hmm,rfl,hx⟩
 ·exact ⟨[],_,rfl,au.mg rfl (by decide),by simp [eG,Rows.uptoBulk]⟩
 obtain ⟨rs,hrl,hrs⟩:=acg (p:=fun i (r:ρ)=>∃ cs',W.cells? base (a.add (i*sz)) sz=some cs'∧aV (rC W) (dat r) cs'∧bZ (dat r)+1≤8*Rows.uptoBulk (D i)) len (fun i hi=>by
  have him:i < m:=by rw [hmm];split <;> omega
  obtain ⟨cs',h1,h2⟩:=hx i him;rw [hc] at h1;have hb1:=Yh (D:=D) hi;obtain ⟨r,hr1,hr2⟩:=row n cs' (D i) (Pl i) h2 (by simp only [Rows.uptoBulk];omega)
  exact ⟨r,cs',h1,hr1,hr2⟩)
 refine ⟨rs,_,rfl,?_,?_⟩
 ·simp only [au,bO]
  refine ⟨some a,cap,by rw [hrl],by omega,hm,fun hne=>?_⟩;obtain ⟨b,off,spot⟩:=a
  have hlen:0 < rs.length:=by cases rs with|nil=>simp at hne|cons _ _=>simp
  obtain ⟨cs0,h1,-,-⟩:=hrs 0 rs[0] (dZ hlen);obtain ⟨-,hl0,hg0⟩:=World.cells?_some h1
  have hspot:spot=none:=by
   have h3:=hg0 0 hsz;rw [dZ (by omega)] at h3
   simpa [Addr.add] using World.cell?_spot h3
  subst hspot;refine ⟨b,off,rfl,nJ.mk fun k r hk=>?_⟩;rw [sM] at hk;obtain ⟨y,hy,rfl⟩:=qF.1 hk;obtain ⟨cs',h2,h3,-⟩:=hrs k y hy;obtain ⟨-,hl1,hg1⟩:=World.cells?_some h2;refine ⟨cs',hl1,fun j u hj=>als ?_,h3⟩
  have hj2:j < sz:=by rw [← hl1];exact (jO.1 hj).1
  have:=hg1 j hj2;rw [add_add,Go.WideShapes.add_plain] at this;rw [show off+k*sz+j=off+(k*sz+j) by omega,this];exact hj
 have:=Yi rs D (fun i r hr=>(hrs i r hr).choose_spec.2.2);rw [hrl] at this
 simp only [Rows.uptoBulk];omega
end
structure tF (P:Program) (t:TypeId) (sz:Nat) (fs:List (TypeId × Nat × Nat)):Prop where
 und:P.underlying t=some (.struct (P.fieldsOf t))
 cells:P.cellsOf t=sz
 Em:(P.fieldsOf t).toList.map (fun f=>(f.type,f.offset,P.cellsOf f.type))=fs
theorem uZ {P:Program} {H:Type} {enc:TypeId × aj→H} {W:World} {base:Nat} {spare:Nat→Bool} {held:Bool} {t:TypeId} {sz fuel:Nat} {fs:List (TypeId × Nat × Nat)} {cs:List aj} {x:DataW H × List MemPlace} (hs:tF P t sz fs) (h:DataW.trod enc P W base spare held fuel t cs=some x) :
  ∃ (xs:List (DataW H × List MemPlace)) (n:Nat),x.1=.agg (xs.map (·.1))∧cs.length=sz∧xs.length=fs.length∧∀ (i:Nat) (ti:TypeId) (off k:Nat),fs[i]?=some (ti,off,k)→DataW.trod enc P W base spare held n ti ((cs.drop off).take k)=xs[i]?:=by
 obtain ⟨xs,n,-,rfl,hl,hxl,hf⟩:=DataW.trod_struct hs.und h;refine ⟨xs,n,rfl,by rw [hl,hs.cells],by rw [hxl,← hs.Em];simp,fun i ti off k hi=>?_⟩;rw [← hs.Em,sM] at hi;obtain ⟨f,hf1,hf2⟩:=qF.1 hi
 simp only [iG] at hf2
 obtain ⟨rfl,rfl,rfl⟩:=hf2;exact hf i f (by simpa using hf1)
section
variable {H:Type} {enc:TypeId × aj→H} {W:World} {base:Nat} {spare:Nat→Bool} {held:Bool}
theorem asR:tF prog 187 2 [(3,0,1),(3,1,1)]:=⟨by kernel_rfl,by kernel_rfl,by kernel_rfl⟩
theorem adi {n:Nat} {cs:List aj} {D:DataW H} {Pl:List MemPlace} (h:DataW.trod enc prog W base spare held n 187 cs=some (D,Pl)):∃ r:aS,aV (rC W) r.dat cs∧bZ r.dat+1≤8*Rows.uptoBulk D:=by
 obtain ⟨xs,m,hx,hl,hxl,hf⟩:=uZ asR h
 match cs,hl,xs,hxl with
 | [c0,c1],_,[y0,y1],_ =>
  have h0:=hf 0 _ _ _ rfl;have h1:=hf 1 _ _ _ rfl;obtain ⟨k0,e0,d0,-⟩:=DataW.trod_int underlying3 h0;obtain ⟨k1,e1,d1,-⟩:=DataW.trod_int underlying3 h1
  simp at e0 e1
  subst e0 e1
  simp only at hx
  refine ⟨⟨k0,k1⟩,?_,?_⟩
  ·simp [aV,aS.dat,au,Value.oneCell']
  rw [hx];simp [d0,d1,aS.dat,bZ,mO,Rows.uptoBulk,Rows.uptoBulkAll]
theorem asK:tF prog 159 2 [(3,0,1),(3,1,1)]:=⟨by kernel_rfl,by kernel_rfl,by kernel_rfl⟩
theorem aqE {n:Nat} {cs:List aj} {D:DataW H} {Pl:List MemPlace} (h:DataW.trod enc prog W base spare held n 159 cs=some (D,Pl)):∃ r:fO,aV (rC W) r.dat cs∧bZ r.dat+1≤8*Rows.uptoBulk D:=by
 obtain ⟨xs,m,hx,hl,hxl,hf⟩:=uZ asK h
 match cs,hl,xs,hxl with
 | [c0,c1],_,[y0,y1],_ =>
  have h0:=hf 0 _ _ _ rfl;have h1:=hf 1 _ _ _ rfl;obtain ⟨k0,e0,d0,-⟩:=DataW.trod_int underlying3 h0;obtain ⟨k1,e1,d1,-⟩:=DataW.trod_int underlying3 h1
  simp at e0 e1
  subst e0 e1
  simp only at hx
  refine ⟨⟨k0,k1⟩,?_,?_⟩
  ·simp [aV,fO.dat,au,Value.oneCell']
  rw [hx];simp [d0,d1,fO.dat,bZ,mO,Rows.uptoBulk,Rows.uptoBulkAll]
theorem asN:tF prog 161 4 [(3,0,1),(3,1,1),(3,2,1),(4,3,1)]:=⟨by kernel_rfl,by kernel_rfl,by kernel_rfl⟩
theorem aqH {n:Nat} {cs:List aj} {D:DataW H} {Pl:List MemPlace} (h:DataW.trod enc prog W base spare held n 161 cs=some (D,Pl)):∃ r:cB,aV (rC W) r.dat cs∧bZ r.dat+1≤8*Rows.uptoBulk D:=by
 obtain ⟨xs,m,hx,hl,hxl,hf⟩:=uZ asN h
 match cs,hl,xs,hxl with
 | [c0,c1,c2,c3],_,[y0,y1,y2,y3],_ =>
  have h0:=hf 0 _ _ _ rfl;have h1:=hf 1 _ _ _ rfl;have h2:=hf 2 _ _ _ rfl;have h3:=hf 3 _ _ _ rfl;obtain ⟨k0,e0,d0,-⟩:=DataW.trod_int underlying3 h0;obtain ⟨k1,e1,d1,-⟩:=DataW.trod_int underlying3 h1;obtain ⟨k2,e2,d2,-⟩:=DataW.trod_int underlying3 h2;obtain ⟨k3,e3,d3⟩:=DataW.trod_bool underlying4 h3
  simp at e0 e1 e2 e3
  subst e0 e1 e2 e3
  simp only at hx
  refine ⟨⟨k0,k1,k2,k3⟩,?_,?_⟩
  ·simp [aV,cB.dat,au,Value.oneCell']
  rw [hx];simp [d0,d1,d2,d3,cB.dat,bZ,mO,Rows.uptoBulk,Rows.uptoBulkAll]
theorem asQ:tF prog 27 4 [(3,0,1),(3,1,1),(24,2,1),(25,3,1)]:=⟨by kernel_rfl,by kernel_rfl,by kernel_rfl⟩
theorem asL:tF prog 29 5 [(23,0,1),(27,1,4)]:=⟨by kernel_rfl,by kernel_rfl,by kernel_rfl⟩
theorem Yp:prog.cellsOf 187=2:=by kernel_rfl
theorem agl:prog.cellsOf 159=2:=by kernel_rfl
theorem agm:prog.cellsOf 161=4:=by kernel_rfl
theorem Qc {n:Nat} {cs:List aj} {x:DataW H × List MemPlace} (h:DataW.trod enc prog W base spare held n 29 cs=some x):∃ (r:dP) (p d l:aj),cs=[p,vi r.marks.ins,vi r.marks.move,d,l]∧iA (rC W) r p d l∧mh r+15≤8*Rows.uptoBulk x.1:=by
 obtain ⟨xs,m,hx,hl,hxl,hf⟩:=uZ asL h
 match cs,hl,xs,hxl with
 | [c0,c1,c2,c3,c4],_,[y0,y1],_ =>
  have h0:=hf 0 _ _ _ rfl;have h1:=hf 1 _ _ _ rfl;obtain ⟨ps,pv,e0,rp,sp⟩:=wC (dat:=aS.dat) (sz:=2) (by omega) underlying23 Yp h0 (fun n cs' D Pl hh _=>adi hh);obtain ⟨zs,m2,hz,hzl,hzx,Mg⟩:=uZ asQ h1
  match zs,hzx with
  | [z0,z1,z2,z3],_ =>
   have g0:=Mg 0 _ _ _ rfl;have g1:=Mg 1 _ _ _ rfl;have g2:=Mg 2 _ _ _ rfl;have g3:=Mg 3 _ _ _ rfl;obtain ⟨k0,e1,d0,-⟩:=DataW.trod_int underlying3 g0;obtain ⟨k1,e2,d1,-⟩:=DataW.trod_int underlying3 g1;obtain ⟨ds,dv,e3,rd,sd⟩:=wC (dat:=fO.dat) (sz:=2) (by omega) underlying24 agl g2 (fun n cs' D Pl hh _=>aqE hh);obtain ⟨ls,lv,e4,rl,sl⟩:=wC (dat:=cB.dat) (sz:=4) (by omega) underlying25 agm g3 (fun n cs' D Pl hh _=>aqH hh)
   simp at e0 e1 e2 e3 e4
   subst e0 e1 e2 e3 e4;refine ⟨⟨ps,⟨k0,k1,ds,ls⟩⟩,_,_,_,rfl,⟨rp,rd,rl⟩,?_⟩;have hzh:=E9 ⟨ps,⟨k0,k1,ds,ls⟩⟩
   simp only at hzh
   rw [hx]
   simp only [fG,sO,Rows.uptoBulk,Rows.uptoBulkAll,hz,d0,d1]
   omega
theorem asM:tF prog 68 11 [(3,0,1),(3,1,1),(3,2,1),(9,3,1),(29,4,5),(22,9,1),(66,10,1)]:=⟨by kernel_rfl,by kernel_rfl,by kernel_rfl⟩
theorem asS:tF prog 74 6 [(29,0,5),(72,5,1)]:=⟨by kernel_rfl,by kernel_rfl,by kernel_rfl⟩
theorem asI:tF prog 76 7 [(3,0,1),(29,1,5),(22,6,1)]:=⟨by kernel_rfl,by kernel_rfl,by kernel_rfl⟩
theorem RS:prog.cellsOf 68=11:=by kernel_rfl
theorem agq:prog.cellsOf 74=6:=by kernel_rfl
theorem agj:prog.cellsOf 76=7:=by kernel_rfl
theorem adh:∀ (N:Nat) (n:Nat) (cs:List aj) (D:DataW H) (Pl:List MemPlace),DataW.trod enc prog W base spare held n 68 cs=some (D,Pl)→Rows.uptoBulk D < N→∃ r:ay,aV (rC W) r.dat cs∧bZ r.dat+1≤8*Rows.uptoBulk D
 | 0,_,_,_,_,_,hN=>absurd hN (by omega)
 | N+1,n,cs,D,Pl,h,hN=>by
  have ih:=adh N;obtain ⟨xs,m,hx,hl,hxl,hf⟩:=uZ asM h
  match cs,hl,xs,hxl with
  | [c0,c1,c2,c3,c4,c5,c6,c7,c8,c9,c10],_,[y0,y1,y2,y3,y4,y5,y6],_ =>
   have h0:=hf 0 _ _ _ rfl;have h1:=hf 1 _ _ _ rfl;have h2:=hf 2 _ _ _ rfl;have h3:=hf 3 _ _ _ rfl;have h4:=hf 4 _ _ _ rfl;have h5:=hf 5 _ _ _ rfl;have h6:=hf 6 _ _ _ rfl
   simp only at hx
   have hD:Rows.uptoBulk D=Rows.uptoBulk y0.1+(Rows.uptoBulk y1.1+(Rows.uptoBulk y2.1+(Rows.uptoBulk y3.1+(Rows.uptoBulk y4.1+(Rows.uptoBulk y5.1+(Rows.uptoBulk y6.1+0))))))+1:=by
    rw [hx];simp only [fG,sO,Rows.uptoBulk,Rows.uptoBulkAll]
   obtain ⟨k0,e0,d0,-⟩:=DataW.trod_int underlying3 h0;obtain ⟨k1,e1,d1,-⟩:=DataW.trod_int underlying3 h1;obtain ⟨k2,e2,d2,-⟩:=DataW.trod_int underlying3 h2;obtain ⟨s,e3,d3,-⟩:=DataW.trod_string underlying9 h3;obtain ⟨hd,p,d,l,e4,rh,sh⟩:=Qc h4;obtain ⟨fl,fv,e5,rf,sf⟩:=wC (dat:=ay.dat) (sz:=11) (by omega) underlying22 RS h5 (fun n cs' D' dN hh hlt=>ih n cs' D' dN hh (by omega))
   obtain ⟨rs,rv,e6,rr,sr⟩:=wC (dat:=aU.dat) (sz:=6) (by omega) underlying66 agq h6 (fun n cs' D' dN hh hlt=>by
    obtain ⟨xs,m,hx,hl,hxl,hf⟩:=uZ asS hh
    match cs',hl,xs,hxl with
    | [a0,a1,a2,a3,a4,a5],_,[w0,w1],_ =>
     have g0:=hf 0 _ _ _ rfl;have g1:=hf 1 _ _ _ rfl
     simp only at hx
     have hD':Rows.uptoBulk D'=Rows.uptoBulk w0.1+(Rows.uptoBulk w1.1+0)+1:=by
      rw [hx];simp only [fG,sO,Rows.uptoBulk,Rows.uptoBulkAll]
     obtain ⟨hd2,p2,d2',l2,q0,rh2,sh2⟩:=Qc g0
     obtain ⟨cl,cv,q1,rc,sc⟩:=wC (dat:=aZ.dat) (sz:=7) (by omega) underlying72 agj g1 (fun n cs'' D'' auD FZ hlt2=>by
      obtain ⟨xs,m,hx2,hl2,aoB,hf2⟩:=uZ asI FZ
      match cs'',hl2,xs,aoB with
      | [b0,b1,b2,b3,b4,b5,b6],_,[v0,v1,v2],_ =>
       have u0:=hf2 0 _ _ _ rfl;have u1:=hf2 1 _ _ _ rfl;have u2:=hf2 2 _ _ _ rfl
       simp only at hx2
       have auJ:Rows.uptoBulk D''=Rows.uptoBulk v0.1+(Rows.uptoBulk v1.1+(Rows.uptoBulk v2.1+0))+1:=by
        rw [hx2];simp only [fG,sO,Rows.uptoBulk,Rows.uptoBulkAll]
       obtain ⟨j0,t0,z0,-⟩:=DataW.trod_int underlying3 u0;obtain ⟨hd3,p3,d3',l3,t1,rh3,sh3⟩:=Qc u1;obtain ⟨Tz,fv3,t2,rf3,sf3⟩:=wC (dat:=ay.dat) (sz:=11) (by omega) underlying22 RS u2 (fun n cs3 D3 Pl3 hh3 hlt3=>ih n cs3 D3 Pl3 hh3 (by omega))
       simp at t0 t1 t2
       obtain ⟨rfl,rfl,rfl,rfl,rfl⟩:=t1;subst t0 t2;have hz:=DJ (aZ.mk j0 hd3 Tz)
       simp only [aZ.head,aZ.flow] at hz
       have bz:Rows.uptoBulk v0.1=1:=by rw [z0];rfl
       exact ⟨aZ.mk j0 hd3 Tz,aV.Ml (x:=aZ.mk j0 hd3 Tz) rh3 rf3,by simp only [cu] at hz;omega⟩)
     simp at q0 q1
     obtain ⟨rfl,rfl,rfl,rfl,rfl⟩:=q0;subst q1;have hz:=DK (aU.mk hd2 cl)
     simp only [aU.head,aU.cells] at hz
     exact ⟨aU.mk hd2 cl,aV.Mq (x:=aU.mk hd2 cl) rh2 rc,by simp only [iR] at hz;omega⟩)
   simp at e0 e1 e2 e3 e4 e5 e6
   obtain ⟨rfl,rfl,rfl,rfl,rfl⟩:=e4;subst e0 e1 e2 e3 e5 e6;have hz:=zy (ay.mk k0 k1 k2 s hd fl rs)
   simp only [ay.text,ay.head,ay.flow,ay.rows] at hz
   have b0:Rows.uptoBulk y0.1=1:=by rw [d0];rfl
   have b1:Rows.uptoBulk y1.1=1:=by rw [d1];rfl
   have b2:Rows.uptoBulk y2.1=1:=by rw [d2];rfl
   have b3:Rows.uptoBulk y3.1=s.size+1:=by rw [d3];show s.data.toList.length+1=s.data.size+1;rw [uJ]
   exact ⟨ay.mk k0 k1 k2 s hd fl rs,aV.mkItem (x:=ay.mk k0 k1 k2 s hd fl rs) rh rf rr,by simp only [cu,gX] at hz;omega⟩
theorem aqG {n:Nat} {cs:List aj} {x:DataW H × List MemPlace} (h:DataW.trod enc prog W base spare held n 22 cs=some x):∃ (l:List ay) (v:aj),cs=[v]∧au (rC W) (.sl 11 (l.map ay.dat)) v∧cu l+8≤8*Rows.uptoBulk x.1 :=
 wC (dat:=ay.dat) (sz:=11) (by omega) underlying22 RS h (fun n cs' D' dN hh _=>adh _ n cs' D' dN hh (Nat.lt_succ_self _))
end
end
section
open Go.ChangeShapes Go.RowKit Go.Deep
theorem Dw {ρ:Type} {dat:ρ→List Dat}:∀ {l:List ρ} {x:ρ},x∈l→bZ (dat x)+1≤eG (l.map dat)
 | y :: l,x,h=>by
  rw [fG,eG]
  rcases iX.1 h with rfl|h
  ·omega
  have:=Dw (dat:=dat) h;omega
section
variable {H:Type} {enc:TypeId × aj→H} {W:World} {base:Nat} {spare:Nat→Bool} {held:Bool}
theorem asV:tF prog 192 6 [(3,0,1),(3,1,1),(9,2,1),(3,3,1),(3,4,1),(23,5,1)]:=⟨by kernel_rfl,by kernel_rfl,by kernel_rfl⟩
theorem ags:prog.cellsOf 192=6:=by kernel_rfl
theorem aqM {n:Nat} {cs:List aj} {D:DataW H} {Pl:List MemPlace} (h:DataW.trod enc prog W base spare held n 192 cs=some (D,Pl)):∃ r:bU,aV (rC W) r.dat cs∧bZ r.dat+1≤8*Rows.uptoBulk D:=by
 obtain ⟨xs,m,hx,hl,hxl,hf⟩:=uZ asV h
 match cs,hl,xs,hxl with
 | [c0,c1,c2,c3,c4,c5],_,[y0,y1,y2,y3,y4,y5],_ =>
  have h0:=hf 0 _ _ _ rfl;have h1:=hf 1 _ _ _ rfl;have h2:=hf 2 _ _ _ rfl;have h3:=hf 3 _ _ _ rfl;have h4:=hf 4 _ _ _ rfl;have h5:=hf 5 _ _ _ rfl
  simp only at hx
  have hD:Rows.uptoBulk D=Rows.uptoBulk y0.1+(Rows.uptoBulk y1.1+(Rows.uptoBulk y2.1+(Rows.uptoBulk y3.1+(Rows.uptoBulk y4.1+(Rows.uptoBulk y5.1+0)))))+1:=by rw [hx];simp only [fG,sO,Rows.uptoBulk,Rows.uptoBulkAll]
  obtain ⟨k0,e0,d0,-⟩:=DataW.trod_int underlying3 h0;obtain ⟨k1,e1,d1,-⟩:=DataW.trod_int underlying3 h1;obtain ⟨k2,e2,d2,-⟩:=DataW.trod_string underlying9 h2;obtain ⟨k3,e3,d3,-⟩:=DataW.trod_int underlying3 h3;obtain ⟨k4,e4,d4,-⟩:=DataW.trod_int underlying3 h4;obtain ⟨k5,q5,e5,r5,d5⟩:=wC (dat:=aS.dat) (sz:=2) (by omega) underlying23 Yp h5 (fun n cs' D Pl hh _=>adi hh)
  simp at e0 e1 e2 e3 e4 e5
  subst e0 e1 e2 e3 e4 e5
  have b0:Rows.uptoBulk y0.1=1:=by rw [d0];rfl
  have b1:Rows.uptoBulk y1.1=1:=by rw [d1];rfl
  have b2:Rows.uptoBulk y2.1=k2.size+1:=by rw [d2];show k2.data.toList.length+1=k2.data.size+1;rw [uJ]
  have b3:Rows.uptoBulk y3.1=1:=by rw [d3];rfl
  have b4:Rows.uptoBulk y4.1=1:=by rw [d4];rfl
  refine ⟨⟨k0,k1,k2,k3,k4,k5⟩,?_,?_⟩
  ·exact ⟨_,_,rfl,(by simp [au,Value.oneCell']),⟨_,_,rfl,(by simp [au,Value.oneCell']),⟨_,_,rfl,(by simp [au,Value.oneCell']),⟨_,_,rfl,(by simp [au,Value.oneCell']),⟨_,_,rfl,(by simp [au,Value.oneCell']),⟨_,_,rfl,r5,rfl⟩⟩⟩⟩⟩⟩
  simp only [bU.dat,bZ,mO];omega
theorem asP:tF prog 96 4 [(3,0,1),(3,1,1),(9,2,1),(3,3,1)]:=⟨by kernel_rfl,by kernel_rfl,by kernel_rfl⟩
theorem agp:prog.cellsOf 96=4:=by kernel_rfl
theorem aqI {n:Nat} {cs:List aj} {D:DataW H} {Pl:List MemPlace} (h:DataW.trod enc prog W base spare held n 96 cs=some (D,Pl)):∃ r:jH,aV (rC W) r.dat cs∧bZ r.dat+1≤8*Rows.uptoBulk D:=by
 obtain ⟨xs,m,hx,hl,hxl,hf⟩:=uZ asP h
 match cs,hl,xs,hxl with
 | [c0,c1,c2,c3],_,[y0,y1,y2,y3],_ =>
  have h0:=hf 0 _ _ _ rfl;have h1:=hf 1 _ _ _ rfl;have h2:=hf 2 _ _ _ rfl;have h3:=hf 3 _ _ _ rfl
  simp only at hx
  have hD:Rows.uptoBulk D=Rows.uptoBulk y0.1+(Rows.uptoBulk y1.1+(Rows.uptoBulk y2.1+(Rows.uptoBulk y3.1+0)))+1:=by rw [hx];simp only [fG,sO,Rows.uptoBulk,Rows.uptoBulkAll]
  obtain ⟨k0,e0,d0,-⟩:=DataW.trod_int underlying3 h0;obtain ⟨k1,e1,d1,-⟩:=DataW.trod_int underlying3 h1;obtain ⟨k2,e2,d2,-⟩:=DataW.trod_string underlying9 h2;obtain ⟨k3,e3,d3,-⟩:=DataW.trod_int underlying3 h3
  simp at e0 e1 e2 e3
  subst e0 e1 e2 e3
  have b0:Rows.uptoBulk y0.1=1:=by rw [d0];rfl
  have b1:Rows.uptoBulk y1.1=1:=by rw [d1];rfl
  have b2:Rows.uptoBulk y2.1=k2.size+1:=by rw [d2];show k2.data.toList.length+1=k2.data.size+1;rw [uJ]
  have b3:Rows.uptoBulk y3.1=1:=by rw [d3];rfl
  refine ⟨⟨k0,k1,k2,k3⟩,?_,?_⟩
  ·exact ⟨_,_,rfl,(by simp [au,Value.oneCell']),⟨_,_,rfl,(by simp [au,Value.oneCell']),⟨_,_,rfl,(by simp [au,Value.oneCell']),⟨_,_,rfl,(by simp [au,Value.oneCell']),rfl⟩⟩⟩⟩
  simp only [jH.dat,bZ,mO];omega
theorem asO:tF prog 93 2 [(3,0,1),(91,1,1)]:=⟨by kernel_rfl,by kernel_rfl,by kernel_rfl⟩
theorem agn:prog.cellsOf 93=2:=by kernel_rfl
theorem aqJ {n:Nat} {cs:List aj} {D:DataW H} {Pl:List MemPlace} (h:DataW.trod enc prog W base spare held n 93 cs=some (D,Pl)):∃ r:eD,aV (rC W) r.dat cs∧bZ r.dat+1≤8*Rows.uptoBulk D:=by
 obtain ⟨xs,m,hx,hl,hxl,hf⟩:=uZ asO h
 match cs,hl,xs,hxl with
 | [c0,c1],_,[y0,y1],_ =>
  have h0:=hf 0 _ _ _ rfl;have h1:=hf 1 _ _ _ rfl
  simp only at hx
  have hD:Rows.uptoBulk D=Rows.uptoBulk y0.1+(Rows.uptoBulk y1.1+0)+1:=by rw [hx];simp only [fG,sO,Rows.uptoBulk,Rows.uptoBulkAll]
  obtain ⟨k0,e0,d0,-⟩:=DataW.trod_int underlying3 h0;obtain ⟨k1,q1,e1,r1,d1⟩:=wC (dat:=jH.dat) (sz:=4) (by omega) underlying91 agp h1 (fun n cs' D Pl hh _=>aqI hh)
  simp at e0 e1
  subst e0 e1
  have b0:Rows.uptoBulk y0.1=1:=by rw [d0];rfl
  refine ⟨⟨k0,k1⟩,?_,?_⟩
  ·exact ⟨_,_,rfl,(by simp [au,Value.oneCell']),⟨_,_,rfl,r1,rfl⟩⟩
  simp only [eD.dat,bZ,mO];omega
theorem asJ:tF prog 107 6 [(3,0,1),(3,1,1),(9,2,1),(3,3,1),(9,4,1),(4,5,1)]:=⟨by kernel_rfl,by kernel_rfl,by kernel_rfl⟩
theorem agk:prog.cellsOf 107=6:=by kernel_rfl
theorem aqD {n:Nat} {cs:List aj} {D:DataW H} {Pl:List MemPlace} (h:DataW.trod enc prog W base spare held n 107 cs=some (D,Pl)):∃ r:fM,aV (rC W) r.dat cs∧bZ r.dat+1≤8*Rows.uptoBulk D:=by
 obtain ⟨xs,m,hx,hl,hxl,hf⟩:=uZ asJ h
 match cs,hl,xs,hxl with
 | [c0,c1,c2,c3,c4,c5],_,[y0,y1,y2,y3,y4,y5],_ =>
  have h0:=hf 0 _ _ _ rfl;have h1:=hf 1 _ _ _ rfl;have h2:=hf 2 _ _ _ rfl;have h3:=hf 3 _ _ _ rfl;have h4:=hf 4 _ _ _ rfl;have h5:=hf 5 _ _ _ rfl
  simp only at hx
  have hD:Rows.uptoBulk D=Rows.uptoBulk y0.1+(Rows.uptoBulk y1.1+(Rows.uptoBulk y2.1+(Rows.uptoBulk y3.1+(Rows.uptoBulk y4.1+(Rows.uptoBulk y5.1+0)))))+1:=by rw [hx];simp only [fG,sO,Rows.uptoBulk,Rows.uptoBulkAll]
  obtain ⟨k0,e0,d0,-⟩:=DataW.trod_int underlying3 h0;obtain ⟨k1,e1,d1,-⟩:=DataW.trod_int underlying3 h1;obtain ⟨k2,e2,d2,-⟩:=DataW.trod_string underlying9 h2;obtain ⟨k3,e3,d3,-⟩:=DataW.trod_int underlying3 h3;obtain ⟨k4,e4,d4,-⟩:=DataW.trod_string underlying9 h4;obtain ⟨k5,e5,d5⟩:=DataW.trod_bool underlying4 h5
  simp at e0 e1 e2 e3 e4 e5
  subst e0 e1 e2 e3 e4 e5
  have b0:Rows.uptoBulk y0.1=1:=by rw [d0];rfl
  have b1:Rows.uptoBulk y1.1=1:=by rw [d1];rfl
  have b2:Rows.uptoBulk y2.1=k2.size+1:=by rw [d2];show k2.data.toList.length+1=k2.data.size+1;rw [uJ]
  have b3:Rows.uptoBulk y3.1=1:=by rw [d3];rfl
  have b4:Rows.uptoBulk y4.1=k4.size+1:=by rw [d4];show k4.data.toList.length+1=k4.data.size+1;rw [uJ]
  have b5:Rows.uptoBulk y5.1=1:=by rw [d5];rfl
  refine ⟨⟨k0,k1,k2,k3,k4,k5⟩,?_,?_⟩
  ·exact ⟨_,_,rfl,(by simp [au,Value.oneCell']),⟨_,_,rfl,(by simp [au,Value.oneCell']),⟨_,_,rfl,(by simp [au,Value.oneCell']),⟨_,_,rfl,(by simp [au,Value.oneCell']),⟨_,_,rfl,(by simp [au,Value.oneCell']),⟨_,_,rfl,(by simp [au,Value.oneCell']),rfl⟩⟩⟩⟩⟩⟩
  simp only [fM.dat,bZ,mO];omega
theorem asW:tF prog 110 2 [(9,0,1),(9,1,1)]:=⟨by kernel_rfl,by kernel_rfl,by kernel_rfl⟩
theorem agu:prog.cellsOf 110=2:=by kernel_rfl
theorem aqN {n:Nat} {cs:List aj} {D:DataW H} {Pl:List MemPlace} (h:DataW.trod enc prog W base spare held n 110 cs=some (D,Pl)):∃ r:iT,aV (rC W) r.dat cs∧bZ r.dat+1≤8*Rows.uptoBulk D:=by
 obtain ⟨xs,m,hx,hl,hxl,hf⟩:=uZ asW h
 match cs,hl,xs,hxl with
 | [c0,c1],_,[y0,y1],_ =>
  have h0:=hf 0 _ _ _ rfl;have h1:=hf 1 _ _ _ rfl
  simp only at hx
  have hD:Rows.uptoBulk D=Rows.uptoBulk y0.1+(Rows.uptoBulk y1.1+0)+1:=by rw [hx];simp only [fG,sO,Rows.uptoBulk,Rows.uptoBulkAll]
  obtain ⟨k0,e0,d0,-⟩:=DataW.trod_string underlying9 h0;obtain ⟨k1,e1,d1,-⟩:=DataW.trod_string underlying9 h1
  simp at e0 e1
  subst e0 e1
  have b0:Rows.uptoBulk y0.1=k0.size+1:=by rw [d0];show k0.data.toList.length+1=k0.data.size+1;rw [uJ]
  have b1:Rows.uptoBulk y1.1=k1.size+1:=by rw [d1];show k1.data.toList.length+1=k1.data.size+1;rw [uJ]
  refine ⟨⟨k0,k1⟩,?_,?_⟩
  ·exact ⟨_,_,rfl,(by simp [au,Value.oneCell']),⟨_,_,rfl,(by simp [au,Value.oneCell']),rfl⟩⟩
  simp only [iT.dat,bZ,mO];omega
theorem asT:tF prog 102 3 [(3,0,1),(9,1,1),(3,2,1)]:=⟨by kernel_rfl,by kernel_rfl,by kernel_rfl⟩
theorem agr:prog.cellsOf 102=3:=by kernel_rfl
theorem aqK {n:Nat} {cs:List aj} {D:DataW H} {Pl:List MemPlace} (h:DataW.trod enc prog W base spare held n 102 cs=some (D,Pl)):∃ r:bL,aV (rC W) r.dat cs∧bZ r.dat+1≤8*Rows.uptoBulk D:=by
 obtain ⟨xs,m,hx,hl,hxl,hf⟩:=uZ asT h
 match cs,hl,xs,hxl with
 | [c0,c1,c2],_,[y0,y1,y2],_ =>
  have h0:=hf 0 _ _ _ rfl;have h1:=hf 1 _ _ _ rfl;have h2:=hf 2 _ _ _ rfl
  simp only at hx
  have hD:Rows.uptoBulk D=Rows.uptoBulk y0.1+(Rows.uptoBulk y1.1+(Rows.uptoBulk y2.1+0))+1:=by rw [hx];simp only [fG,sO,Rows.uptoBulk,Rows.uptoBulkAll]
  obtain ⟨k0,e0,d0,-⟩:=DataW.trod_int underlying3 h0;obtain ⟨k1,e1,d1,-⟩:=DataW.trod_string underlying9 h1;obtain ⟨k2,e2,d2,-⟩:=DataW.trod_int underlying3 h2
  simp at e0 e1 e2
  subst e0 e1 e2
  have b0:Rows.uptoBulk y0.1=1:=by rw [d0];rfl
  have b1:Rows.uptoBulk y1.1=k1.size+1:=by rw [d1];show k1.data.toList.length+1=k1.data.size+1;rw [uJ]
  have b2:Rows.uptoBulk y2.1=1:=by rw [d2];rfl
  refine ⟨⟨k0,k1,k2⟩,?_,?_⟩
  ·exact ⟨_,_,rfl,(by simp [au,Value.oneCell']),⟨_,_,rfl,(by simp [au,Value.oneCell']),⟨_,_,rfl,(by simp [au,Value.oneCell']),rfl⟩⟩⟩
  simp only [bL.dat,bZ,mO];omega
theorem asU:tF prog 36 4 [(31,0,1),(32,1,1),(33,2,1),(34,3,1)]:=⟨by kernel_rfl,by kernel_rfl,by kernel_rfl⟩
structure RB (s:Ba) (n:Nat):Prop where
 st:eG (s.styles.map bU.dat)≤n
 li:eG (s.lists.map eD.dat)≤n
 cm:eG (s.comments.map fM.dat)≤n
 va:eG (s.vars.map iT.dat)≤n
theorem RB.zn {s:Ba} {n:Nat} (h:RB s n) (hn:n≤4294967296):RD s∧s.styles.length≤4294967296:=by
 obtain ⟨h1,h2,h3,h4⟩:=h;have l1:=qQ (s.styles.map bU.dat);have l2:=qQ (s.lists.map eD.dat);have l3:=qQ (s.comments.map fM.dat);have l4:=qQ (s.vars.map iT.dat);rw [bO] at l1 l2 l3 l4;refine ⟨⟨fun x hx=>?_,by omega,fun x hx y hy=>?_,by omega,fun x hx=>?_,by omega,fun x hx=>?_,fun x hx=>?_,fun x hx=>?_⟩,by omega⟩
 ·have:=Dw (dat:=bU.dat) hx
  simp only [bU.dat,bZ,mO] at this;omega
 ·have:=Dw (dat:=eD.dat) hx
  simp only [eD.dat,bZ,mO] at this
  have h5:=Dw (dat:=jH.dat) hy
  simp only [jH.dat,bZ,mO] at h5;omega
 ·have:=Dw (dat:=fM.dat) hx
  simp only [fM.dat,bZ,mO] at this;omega
 ·have:=Dw (dat:=iT.dat) hx
  simp only [iT.dat,bZ,mO] at this;omega
 ·have:=Dw (dat:=bU.dat) hx;have h5:=qQ (x.props.map aS.dat);rw [bO] at h5
  simp only [bU.dat,bZ,mO] at this;omega
 have:=Dw (dat:=eD.dat) hx;have h5:=qQ (x.levels.map jH.dat);rw [bO] at h5
 simp only [eD.dat,bZ,mO] at this;omega
theorem aqL {n:Nat} {cs:List aj} {x:DataW H × List MemPlace} (h:DataW.trod enc prog W base spare held n 36 cs=some x):∃ (s:Ba) (a b c d:aj),cs=[a,b,c,d]∧zH (rC W) s a b c d∧RB s (8*Rows.uptoBulk x.1):=by
 obtain ⟨xs,m,hx,hl,hxl,hf⟩:=uZ asU h
 match cs,hl,xs,hxl with
 | [c0,c1,c2,c3],_,[y0,y1,y2,y3],_ =>
  have h0:=hf 0 _ _ _ rfl;have h1:=hf 1 _ _ _ rfl;have h2:=hf 2 _ _ _ rfl;have h3:=hf 3 _ _ _ rfl;obtain ⟨k0,q0,e0,r0,d0⟩:=wC (dat:=bU.dat) (sz:=6) (by omega) underlying31 ags h0 (fun n cs' D Pl hh _=>aqM hh);obtain ⟨k1,q1,e1,r1,d1⟩:=wC (dat:=eD.dat) (sz:=2) (by omega) underlying32 agn h1 (fun n cs' D Pl hh _=>aqJ hh);obtain ⟨k2,q2,e2,r2,d2⟩:=wC (dat:=fM.dat) (sz:=6) (by omega) underlying33 agk h2 (fun n cs' D Pl hh _=>aqD hh);obtain ⟨k3,q3,e3,r3,d3⟩:=wC (dat:=iT.dat) (sz:=2) (by omega) underlying34 agu h3 (fun n cs' D Pl hh _=>aqN hh)
  simp at e0 e1 e2 e3
  subst e0 e1 e2 e3
  have hD:Rows.uptoBulk x.1=Rows.uptoBulk y0.1+(Rows.uptoBulk y1.1+(Rows.uptoBulk y2.1+(Rows.uptoBulk y3.1+0)))+1:=by rw [hx];simp only [fG,sO,Rows.uptoBulk,Rows.uptoBulkAll]
  exact ⟨⟨k0,k1,k2,k3⟩,_,_,_,_,rfl,⟨r0,r1,r2,r3⟩,⟨by show eG (k0.map _)≤_;omega,by show eG (k1.map _)≤_;omega,by show eG (k2.map _)≤_;omega,by show eG (k3.map _)≤_;omega⟩⟩
theorem adV:tF prog 38 11 [(22,0,1),(29,1,5),(30,6,1),(36,7,4)]:=⟨by kernel_rfl,by kernel_rfl,by kernel_rfl⟩
theorem Dt {G:GH} {sz:Nat} {rs:List (List Dat)} {v:aj} (h:au G (.sl sz rs) v):∃ x,v=aQ x:=by
 obtain ⟨a,n,c,rfl⟩:=h.form;exact ⟨(a,n,c),rfl⟩
theorem aqF {n:Nat} {cs:List aj} {x:DataW H × List MemPlace} (h:DataW.trod enc prog W base spare held n 38 cs=some x) (hb:Rows.uptoBulk x.1≤1048576):∃ (D:iE) (d:fT),cs=D.cells∧jN (rC W) D d∧yF d∧cu d.flow≤8388608∧mh d.fin≤8388608:=by
 obtain ⟨xs,m,hx,hl,hxl,hf⟩:=uZ adV h
 match cs,hl,xs,hxl with
 | [c0,c1,c2,c3,c4,c5,c6,c7,c8,c9,c10],_,[y0,y1,y2,y3],_ =>
  have h0:=hf 0 _ _ _ rfl;have h1:=hf 1 _ _ _ rfl;have h2:=hf 2 _ _ _ rfl;have h3:=hf 3 _ _ _ rfl;obtain ⟨l,q0,e0,r0,d0⟩:=aqG h0;obtain ⟨hd,p,dd,ll,e1,r1,d1⟩:=Qc h1;obtain ⟨rv,q2,e2,r2,d2⟩:=wC (dat:=bL.dat) (sz:=3) (by omega) underlying30 agr h2 (fun n cs' D Pl hh _=>aqK hh);obtain ⟨s,a,b,c,d,e3,r3,d3⟩:=aqL h3
  simp at e0 e1 e2 e3
  obtain ⟨rfl,rfl,rfl,rfl,rfl⟩:=e1;obtain ⟨rfl,rfl,rfl,rfl⟩:=e3;subst e0 e2
  have hD:Rows.uptoBulk x.1=Rows.uptoBulk y0.1+(Rows.uptoBulk y1.1+(Rows.uptoBulk y2.1+(Rows.uptoBulk y3.1+0)))+1:=by rw [hx];simp only [fG,sO,Rows.uptoBulk,Rows.uptoBulkAll]
  obtain ⟨x0,rfl⟩:=Dt r0;obtain ⟨x1,rfl⟩:=Dt r1.props;obtain ⟨x2,rfl⟩:=Dt r1.bH;obtain ⟨x3,rfl⟩:=Dt r1.layers;obtain ⟨x4,rfl⟩:=Dt r2;obtain ⟨x5,rfl⟩:=Dt r3.st;obtain ⟨x6,rfl⟩:=Dt r3.li;obtain ⟨x7,rfl⟩:=Dt r3.cm;obtain ⟨x8,rfl⟩:=Dt r3.va;obtain ⟨hz1,hz2⟩:=d3.zn (by omega);have l2:=qQ (rv.map bL.dat);rw [bO] at l2;refine ⟨⟨x0,x1,x2,x3,x4,x5,x6,x7,x8,hd.marks.ins,hd.marks.move⟩,⟨l,hd,rv,s⟩,rfl,⟨r0,r1,rfl,rfl,r2,r3⟩,⟨by show cu l≤_;omega,by show mh hd≤_;omega,by show rv.length≤_;omega,fun x hx=>?_,hz2,hz1⟩,by show cu l≤_;omega,by show mh hd≤_;omega⟩;have:=Dw (dat:=bL.dat) hx
  simp only [bL.dat,bZ,mO] at this
  omega
end
end
end Go.Proofs.YtdiflmikikiedaaGreat
