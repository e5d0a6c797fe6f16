/-
  What the claim stands on, part 7: Mdk Di13 Brs.
-/
import Derived.Test.YthmanofbmnfemaaGreatWaf
namespace Go.Proofs.YthmanofbmnfemaaGreat
open Go.Proofs.Tryz
section
open Go.RowKit
theorem ahD:∀ args w,(callFunc 40 args).run prog w=.ok (.enter 40 args) w:=enters func40 rfl (by kernel_rfl)
theorem apH:ug prog 56 [(0,11),(11,1),(12,1),(13,1)] [.slice none 0 0,.slice none 0 0,.int .i64 0,.int .i64 0,.slice none 0 0,.slice none 0 0,.slice none 0 0,.slice none 0 0,.slice none 0 0,.slice none 0 0,.slice none 0 0,.slice none 0 0,.slice none 0 0,.int .i64 0]:=⟨by kernel_rfl,by kernel_rfl⟩
theorem agr:∀ args w,(callFunc 10 args).run prog w=.ok (.enter 10 args) w:=enters func10 rfl (by kernel_rfl)
theorem ahC:∀ args w,(callFunc 38 args).run prog w=.ok (.enter 38 args) w:=enters func38 rfl (by kernel_rfl)
set_option maxHeartbeats 4000000 in
theorem amF (G:GH) (w0:World) (hG:Hold G w0) (D:jP) (d:oC) (hR:yO G D d) (hz:IV d) :
  Calls prog 11 #[D.val] w0 (bV w0 G fun u G'=>u=vi (iW d)):=by
 obtain ⟨df,dp,dd,dy,⟨rA,rn,rc⟩,d1,d2,d3,d4,ins,mv⟩:=D;obtain ⟨hfl,hhd,hin,hmv,mO,hst⟩:=hR;dsimp only at hfl hhd hin hmv mO hst;subst hin;subst hmv;obtain ⟨zf,zh,zr,zt,zs,zg⟩:=hz;have hdl:=hhd.bJ.len;rw [bN] at hdl
 have hdn:d.fin.marks.bJ.length≤4294967296:=by
  have h1:=Df d.fin;have h2:=nC (d.fin.marks.bJ.map kV.dat);rw [bN] at h2;omega
 have hrl:=mO.len;rw [bN] at hrl;dsimp only at hrl;subst hrl;refine eN [(0,_)] func11 rfl ntmps11 rfl rfl hG ?_;intro a H;refine cO (fun _ K1=>?_);refine fD (cs:=[_,_,_,_,_,_,_,_,_,_,_]) H wn rfl rfl rfl ?_;clear H;intro b1 a w hb1 H;refine kH H (ak K1 rfl (SQ fun _ K2=>SQ fun _ K3=>?_));clear H K1;intro a H;obtain ⟨Ga,hma,hb1',H⟩:=H.eD;have hgs:=fun j v hj=>Ae hb1' 7 [bg d1,bg d2,bg d3,bg d4] rfl j v hj;have hgh:=fun j v hj=>Ae hb1' 1 [bg dp,vi d.fin.marks.ins,vi d.fin.marks.move,bg dd,bg dy] rfl j v hj;have hgm:=fun j v hj=>Ae hb1' 2 [vi d.fin.marks.ins,vi d.fin.marks.move,bg dd,bg dy] rfl j v hj
 have hgr:aF Ga b1 6=some (.slice rA d.revs.length rc):=by unfold aF;rw [hb1'];rfl
 have hgf:aF Ga b1 0=some (bg df):=by unfold aF;rw [hb1'];rfl
 have hga:=fun j v hj=>Ae hb1' 0 [bg df,bg dp,vi d.fin.marks.ins,vi d.fin.marks.move,bg dd,bg dy,.slice rA d.revs.length rc,bg d1,bg d2,bg d3,bg d4] rfl j v hj;replace hfl:=hfl.mono hma;replace hhd:=hhd.mono hma;replace mO:=mO.mono hma;replace hst:=hst.mono hma;refine kP H (SC (Rf DI rfl ?_));clear H;intro a H;refine bK Wx (cs:=[bg d1,bg d2,bg d3,bg d4]) H wn rfl rfl (fun j v hj=>H.hp.aF (hgs j v hj)) rfl ?_;clear H;intro a H;refine s_call ahD H wn rfl (amX _ _ H.ro d.lT _ _ _ _ hst zg) rfl ?_;clear H;rintro v13 qB a w rfl ql H;refine kH H (aL K3 rfl (SR fun _ K4=>Rm rfl (Rc rfl (Kz K4 (Cd rfl ?_ ?_))))) <;> clear H K3 K4
 ·intro jV a H
  try have qo:=dT jV
  refine aN (fun _ K5=>?_)
  have e:iW d=kR d.lT:=by rw [iW,bO,bO,au qo,au qo]
  exact kP H (SC (Rm rfl (aL K5 rfl (LR results11 rfl fun H=>H.rt (ay vi e.symm)))))
 intro jV a H
 try have qo:=dF jV
 have e1:kR d.lT=0:=gL.1 qo
 have hE1:iW d=bO [xQ d.revs,bO [fI d.nJ 3 d.fin,bL (rO d.fin.marks) 21],(gU d.nJ true false 0 d.flow ⟨0,[]⟩).1,bL (decide (16384 < (gU d.nJ true false 0 d.flow ⟨0,[]⟩).2.n)) 9]:=by
  rw [iW,iY e1,Cu]
 replace hgr:=aJ ql hgr;replace mO:=mO.mono ql;refine kP H (Kc K2 (SQ fun _ K6=>SR fun _ K7=>Rf Bg rfl (Rg vU rfl (by assumption) ?_)));clear H K2;intro a H;refine kH H (Rl vV rfl (Rc rfl (Kz K7 (Cd rfl ?_ ?_)))) <;> clear H K7
 ·intro h20 a H
  try have qP:=dT h20
  refine aN (fun _ K8=>?_)
  have e:iW d=9:=by
   have h:xQ d.revs=9:=PD (m:=256) (by omega);rw [hE1,wG (by rw [h];decide),h]
  exact kP H (SC (aL K8 rfl (LR results11 rfl fun H=>H.rt (ay vi e.symm))))
 intro h20 a H
 try have qP:=dF h20
 have hRv:xQ d.revs=iw (yF d.revs) d.revs.length:=Pz (m:=256) (by omega);refine kP H (Kc K6 (SQ fun _ K9=>SR fun _ aU=>ak aU rfl (SB ?_)));clear H K6 aU;intro a H;skip;refine dV (ι:=Nat × GH) (Tc:=[(1,_)]) (Lc:=[]) (fun gh=>[(4,vi gh.1)]) (fun gh=>[]) (fun gh=>gh.2) (fun gh=>gh.1≤d.revs.length∧bO (((List.range d.revs.length).map (yF d.revs)).drop gh.1)=iw (yF d.revs) d.revs.length∧(∀ b o,qB b=some o→gh.2 b=some o)) (fun gh=>d.revs.length - gh.1) ((0,qB)) (by exact (H).sub ⟨rfl,rfl,av⟩) ?_ ?_
 ·exact ⟨fQ _,rfl,fun _ _ h=>h⟩
 clear H;rintro ⟨k,g⟩ a w hI H;dsimp only at hI H;obtain ⟨hk,he,pI⟩:=hI;have akm:=aJ pI hgr;have aaI:=mO.mono pI;dsimp only [lca,aO] at H;refine kP H (SQ fun _ bD=>SR fun _ bE=>Rm rfl (Rf Bg rfl (Rg vU rfl (by assumption) ?_)));clear H;intro a H;refine kH H (Rl vV rfl (Rc rfl (Kz bE (Cd rfl ?_ ?_)))) <;> clear H bE
 ·intro fM a H
  try have p25:=dT fM
  have hk2:k < d.revs.length:=by omega
  have hk1:k - 1 < d.revs.length:=by omega
  obtain ⟨lb,lo,rfl,hrow⟩:=IG aaI hk2;obtain ⟨_,_,H6,hrow'⟩:=IG aaI hk1
  injection H6 with H6
  injection H6 with LG e2'
  subst LG;subst e2';have hte:=zt _ (jD hk2);obtain ⟨x,hx⟩:∃ x,x=d.revs[k]:=⟨_,rfl⟩
  have hek:yF d.revs k=M5 d.revs k x:=by unfold yF;rw [fH hk2,hx]
  unfold M5 at hek
  have hinc:wW x.id d.revs[k - 1].id (decide ((k:Int)=0))=kK (fun k=>(d.revs[k]?.map dU.id).getD 0) k:=by
   rw [← U9];(try dsimp only);rw [fH hk2,fH hk1,hx];simp
  rw [← hx] at hrow hte
  have Pj:∀ e,yF d.revs k=e→e≠0→iW d=e:=fun e h1 h2=>by
   have h3:xQ d.revs=e:=by rw [hRv,yX hk2 he (by rw [h1];exact h2),h1]
   rw [hE1,wG (by rw [h3];exact h2),h3]
  refine kP H (Kc bD (SQ fun _ bQ=>SB (SR fun _ bR=>Rf Bg rfl (Rg vU rfl (by assumption) ?_))));clear H bD;intro a H;refine kH H (Rm rfl (Ri vV yJ rfl rfl ?_));clear H;intro a H;refine bK yJ (cs:=x.cells) H wn rfl rfl (fun j v hj=>H.hp.aF (hrow j v hj)) rfl ?_;clear H;intro a H;refine dY yJ H wn rfl ?_;clear H;intro b5 a w hb5 H;refine bT yJ 0 (vs:=[_,_,_]) _ H wn rfl rfl rfl rfl rfl rfl rfl rfl ?_;clear H;intro w H;dsimp only [List.set,setRow] at H;refine bR _ _ ?_;clear bR;refine aN (fun _ bW=>?_);refine aN (fun _ cK=>?_);refine dI hmx [[],[0],[],[2],[],[4],[4,5],(ra 2 5),(ra 2 6),(ra 2 7),[],[10],(ra 0 12),(ra 0 13)] [13] (by kernel_rfl) [_,vi x.id,_,_,_,_,vi ((k - 1:Nat):Int),_,_,_,_,_,vi (kK (fun k=>(d.revs[k]?.map dU.id).getD 0) k)] H (aI (Z0 rfl (Rf Ju rfl)) (Z1 0 33 rfl (Ro aD 0 rfl)) (Z0 rfl (Rf Bg rfl)) (X1 2 35 rfl fun hG=>Rg vU rfl (aJ hG akm)) (aI (Z0 rfl (Rm rfl)) (Z1 4 37 rfl (Rs rfl)) ?_ (Z2 3 36 6 39 rfl (Ri vV yJ rfl rfl)) (aI (Z1 7 40 rfl (Rf Ju rfl)) (X1 8 41 rfl fun hG=>Rg aD rfl (aJ hG (hrow' 0 _ rfl))) (Z0 rfl (Rm rfl)) (Z1 10 43 rfl (Rc rfl)) (bG ?_ (bG (cZ rfl) dQ))))) ?_
  ·refine fq 5 38 rfl rfl fun _ a w G1 hG HT H fin=>?_;refine FR H wn rfl rfl rfl ?_;clear H;intro a H;exact fin H iJ (ay vi (by omega))
  ·refine wh 1 34 9 42 11 44 rfl rfl fun _ a w G1 hG HT H fin=>?_;refine s_call RS H wn rfl (Va _ _ H.ro x.id d.revs[k - 1].id (decide ((k:Int)=0))) rfl ?_;clear H;rintro v45 G45 a w ⟨rfl,-⟩ Tt H;exact fin H Tt (ay vi hinc)
  clear H;intro a w G vI H hv;have H:=H.bC (hv 12 45 rfl rfl) rfl;clear hv;refine kH H (Ra rfl ?_);clear H;intro a H;refine aH ⟨rfl,?_⟩;refine cK _ _ ?_;clear cK;refine kP H (SR fun _ bY=>Rm rfl (Rc rfl (Kz bY (Cd rfl ?_ ?_)))) <;> clear H bY
  ·intro h47 a H
   try have p47:=dT h47
   refine aN (fun _ dG=>?_);have e:iW d=kK (fun k=>(d.revs[k]?.map dU.id).getD 0) k:=Pj _ (by rw [hek,wG p47]) p47;exact kP H (SC (Rm rfl (aL dG rfl (LR results11 rfl fun H=>H.rt (ay vi e.symm)))))
  intro h47 a H
  try have p47:=dF h47
  refine kP H (Kc bW (SB (SR fun _ dN=>aR Zu gZ 0 rfl rfl ?_)));clear H bW;intro a H;refine s_call Y6 H wn rfl (XW _ _ H.ro x.author hte) rfl ?_;clear H;rintro v52 _ a w ⟨rfl,rfl⟩ - H;refine kH H (Rn rfl (ak dN rfl (Cd rfl ?_ ?_))) <;> clear H dN
  ·intro nX a H
   refine aN (fun _ dH=>?_);have e:iW d=39:=Pj _ (by rw [hek,iY (gL.1 p47),show (!qb x.author)=true from nX];rfl) (by decide);exact kP H (SC (aL dH rfl (LR results11 rfl fun H=>H.rt (ay vi e.symm))))
  intro nX a H
  try have p49:=dF nX
  have F4:bL (!qb x.author) 39=0:=by rw [show (!qb x.author)=false from nX];rfl
  refine kP H (SR fun _ dP=>aR Sl aD 0 rfl rfl (Rc rfl (Rm rfl (Sp 58 rfl ?_ ?_)))) <;> clear H
  ·intro ji a H
   try have p58:=dT ji
   refine kH H (aZ ji rfl (Pt ji rfl (ak dP rfl (Ct rfl rfl (SQ fun _ eT=>?_)))));clear H dP;intro a H;have e:iW d=40:=Pj _ (by rw [hek,iY (gL.1 p47),iY F4,iV (by omega)];rfl) (by decide);exact kP H (SC (aL eT rfl (LR results11 rfl fun H=>H.rt (ay vi e.symm))))
  intro ji a H
  try have p58:=dF ji
  refine kH H (YF Sl ji rfl (YO aD 0 ji rfl (YC ji rfl (Pf ji rfl (ak dP rfl (Cd rfl ?_ ?_)))))) <;> clear H dP
  ·intro iI a H
   try have p54:=dT iI
   refine aN (fun _ fP=>?_);have e:iW d=40:=Pj _ (by rw [hek,iY (gL.1 p47),iY F4,iV (by omega)];rfl) (by decide);exact kP H (SC (aL fP rfl (LR results11 rfl fun H=>H.rt (ay vi e.symm))))
  intro iI a H
  try have p54:=dF iI
  have Qv:bL (!decide (0≤x.time∧x.time≤1099511627776)) 40=0:=by rw [iq (by omega)];rfl
  refine kP H (Kc bQ (SC (Rm rfl (Rd rfl (Ra rfl ?_)))));clear H bQ;intro a H;refine aH ?_;refine cB ((k+1,_)) (by exact (H.dx (Pl:=[_]) (bZ:=[]) [] (by decide) rfl).sub ⟨rfl,rfl,av⟩) ?_ ?_
  ·(try dsimp only);exact ⟨by omega,NI hk2 he (by rw [hek,iY (gL.1 p47),iY F4,iY Qv];rfl),fun b o h=>vI b o (pI b o h)⟩
  first|omega|(dsimp only;omega)
 intro fM a H
 try have p25:=dF fM
 have ajq:xQ d.revs=0:=by rw [hRv,NH (by omega) he]
 rw [iY ajq] at hE1;have hgg:∀ b o,Ga b=some o→g b=some o:=fun b o h=>pI b o (ql b o h);replace hhd:=hhd.mono hgg;replace hfl:=hfl.mono hgg;have hmk:Ca g ⟨df,dp,dd,dy,⟨rA,d.revs.length,rc⟩,d1,d2,d3,d4,d.fin.marks.ins,d.fin.marks.move⟩ d.lT.styles d.lT.lists d.revs:=⟨hst.st.mono hgg,hst.li.mono hgg,mO.mono pI⟩;have hmz:Gy d.lT.styles d.lT.lists d.revs:=⟨adh (pq e1 _ jg),zs,zg.ln,zr⟩;have akk:=aJ hgg hgf;refine dJ ?_;refine K9 _ _ ?_;clear K9;refine cO (fun _ gq=>?_);refine bK lV H wn rfl rfl (fun j v hj=>H.hp.aF (aJ hgg (hga j v hj))) rfl ?_;clear H;intro a H;refine mq apH [_,_,_,_,_,_,_,_,_,_,_,_,_,_] H wn rfl rfl rfl rfl ?_;clear H;intro a H;refine fD (cs:=[_,_,_,_,_,_,_,_,_,_,_,_,_,_]) H wn rfl rfl rfl ?_;clear H;intro NK a w arA H;refine kH H (ak gq rfl (SQ fun _ gG=>SR fun _ iP=>Rm rfl (Rf DF rfl ?_)));clear H gq;intro a H;refine bK lU (cs:=[bg dp,vi d.fin.marks.ins,vi d.fin.marks.move,bg dd,bg dy]) H wn rfl rfl (fun j v hj=>H.hp.aF (aJ hgg (hgh j v hj))) rfl ?_;clear H;intro a H;refine gW Oe (Li:=[]) (L:=[iR ⟨df,dp,dd,dy,⟨rA,d.revs.length,rc⟩,d1,d2,d3,d4,d.fin.marks.ins,d.fin.marks.move⟩ NK (.slice none 0 0) 0]) H wn rfl (PK _ _ _ _ _ _ _ NK (.slice none 0 0) 0 hmk hmz (Hp.owns (Li:=[]) H.hp) 3 d.fin _ _ _ hhd zh) rfl ?_;clear H;rintro v69 _ _ a w ⟨rfl,rfl,rfl⟩ - H;dsimp only [List.nil_append] at H;refine kH H (ak iP rfl (SR fun _ jm=>Rm rfl (Rc rfl (Kz jm (Cd rfl ?_ ?_))))) <;> clear H iP jm
 ·intro ko a H
  try have p71:=dT ko
  refine aN (fun _ iH=>?_)
  have e:iW d=fI d.nJ 3 d.fin:=by rw [hE1,wG p71,wG p71]
  exact kP H (SC (Rm rfl (aL iH rfl (LR results11 rfl fun H=>H.rt (ay vi e.symm)))))
 intro ko a H
 try have p71:=dF ko
 rw [iY (gL.1 p71),Cu] at hE1;refine kP H (Kc gG (SQ fun _ kW=>SR fun _ kX=>Rf DF rfl (Rf vD rfl ?_)));clear H gG;intro a H;refine bK xq (cs:=[vi d.fin.marks.ins,vi d.fin.marks.move,bg dd,bg dy]) H wn rfl rfl (fun j v hj=>H.hp.aF (aJ hgg (hgm j v hj))) rfl ?_;clear H;intro a H;refine dY xq H wn rfl ?_;clear H;intro b9 a w uL H;refine bT xq 0 (vs:=[_,_,_,_]) _ H wn rfl rfl rfl rfl rfl rfl rfl rfl ?_;clear H;intro w H;dsimp only [List.set,setRow] at H;refine kX _ _ ?_;clear kX;refine kP H (SR fun _ jQ=>aR uG aD 0 rfl rfl (Rc rfl (Rm rfl (Sp 79 rfl ?_ ?_)))) <;> clear H
 ·intro iZ a H
  try have zH:=dT iZ
  refine kH H (aZ iZ rfl (Pt iZ rfl (Rm rfl (aT rfl rfl (aT rfl rfl (Pt rfl rfl (Kz jQ (Ct rfl rfl (SQ fun _ lC=>?_)))))))));clear H jQ;intro a H
  have e:iW d=21:=by
   have h:rO d.fin.marks=true:=iq (by simp_all);rw [hE1,h];rfl
  exact kP H (SC (aL lC rfl (LR results11 rfl fun H=>H.rt (ay vi e.symm))))
 intro iZ a H
 try have zH:=dF iZ
 refine kH H (YF zi iZ rfl (YO aD 0 iZ rfl (YC iZ rfl (Pf iZ rfl (Rm rfl (Sp 84 rfl ?_ ?_)))))) <;> clear H
 ·intro h84 a H
  try have VE:=dT h84
  refine kH H (aT h84 rfl (aT h84 rfl (Pt h84 rfl (Kz jQ (Ct rfl rfl (SQ fun _ lD=>?_))))));clear H jQ;intro a H
  have e:iW d=21:=by
   have h:rO d.fin.marks=true:=iq (by simp_all);rw [hE1,h];rfl
  exact kP H (SC (aL lD rfl (LR results11 rfl fun H=>H.rt (ay vi e.symm))))
 intro h84 a H
 try have VE:=dF h84
 refine kH H (YF mJ h84 rfl (YO mR 0 h84 rfl (YL lW h84 rfl (YC h84 rfl (Pf h84 rfl (Kz jQ (Cd rfl ?_ ?_))))))) <;> clear H jQ
 ·intro Tj a H
  try have p89:=dT Tj
  refine aN (fun _ lX=>?_)
  have e:iW d=21:=by
   have h:rO d.fin.marks=true:=iq (by simp_all);rw [hE1,h];rfl
  exact kP H (SC (aL lX rfl (LR results11 rfl fun H=>H.rt (ay vi e.symm))))
 intro Tj a H
 try have p89:=dF Tj
 have hmb:rO d.fin.marks=false:=iV (by simp_all);rw [hmb,iY (show bL false 21=0 from rfl)] at hE1;refine kP H (Kc kW (SQ fun _ lY=>SR fun _ lZ=>Rm rfl (Rf Bf rfl (Rg jy rfl akk ?_))));clear H kW;intro a H;refine gW RJ (Li:=[_]) (L:=[iR ⟨df,dp,dd,dy,⟨rA,d.revs.length,rc⟩,d1,d2,d3,d4,d.fin.marks.ins,d.fin.marks.move⟩ NK (.slice none 0 0) 0]) H wn rfl (abI 4294967297 (by omega) _ _ [] _ _ _ _ _ NK _ ⟨0,[]⟩ d.flow _ true false 0 hmk hmz ⟨[],rfl,gJ.nil⟩ (Hp.owns (Li:=[_]) H.hp) hfl (by omega) (by omega) (by omega) (by decide) (by dsimp only;omega) (by dsimp only [List.length_nil];omega)) rfl ?_;clear H;rintro v93 _ _ a w ⟨rfl,v5,L5,s5,rfl,rfl,hv5,h5⟩ - H;dsimp only [lca,aO] at H;refine kH H (ak lZ rfl (SR fun _ mV=>Rm rfl (Rc rfl (Kz mV (Cd rfl ?_ ?_))))) <;> clear H lZ mV
 ·intro Hl a H
  try have Em:=dT Hl
  refine aN (fun _ qX=>?_)
  have e:iW d=(gU d.nJ true false 0 d.flow ⟨0,[]⟩).1:=by rw [hE1,wG Em]
  exact kP H (SC (Rm rfl (aL qX rfl (LR results11 rfl fun H=>H.rt (ay vi e.symm)))))
 intro Hl a H
 try have Em:=dF Hl
 rw [iY (gL.1 Em),Cu] at hE1;have hs5:=h5 (gL.1 Em);subst hs5;refine kP H (Kc lY (SQ fun _ vX=>SR fun _ kY=>Rm rfl (Rk rfl (aR Sk aD 1 rfl rfl (Rc rfl (Kz kY (Cd rfl ?_ ?_))))))) <;> clear H lY kY
 ·intro nu a H
  try have MS:=dT nu
  refine aN (fun _ yQ=>?_)
  have e:iW d=9:=by rw [hE1,iq MS];rfl
  exact kP H (SC (aL yQ rfl (LR results11 rfl fun H=>H.rt (ay vi e.symm))))
 intro nu a H
 try have MS:=dF nu
 refine fT ?_;refine vX _ _ ?_;clear vX;refine aN (fun _ vY=>?_)
 have e:iW d=0:=by rw [hE1,iV MS];rfl
 exact kP H (SC (aL vY rfl (LR results11 rfl fun H=>H.rt (ay vi e.symm))))
theorem apu (G:GH) (w0:World) (hG:Hold G w0) (D:jP) (d:oC) (hR:yO G D d) (hz:IV d) :
  Calls prog 9 #[D.val] w0 (bV w0 G fun u G'=>∃ b,u=.bool b):=by
 obtain ⟨df,dp,dd,dy,dr,d1,d2,d3,d4,ins,mv⟩:=D;obtain ⟨hfl,hhd,hin,hmv,mO,hst⟩:=hR;dsimp only at hfl hhd hin hmv mO hst;subst hin;subst hmv;refine eN [(0,_)] func9 rfl ntmps9 rfl rfl hG ?_;intro a H;refine cO (fun _ K1=>?_);refine fD (cs:=[_,_,_,_,_,_,_,_,_,_,_]) H wn rfl rfl rfl ?_;clear H;intro b1 a w hb1 H;refine kH H (ak K1 rfl (SQ fun _ K2=>?_));clear H K1;intro a H;obtain ⟨Ga,hma,hb1',H⟩:=H.eD;have hgs:=fun j v hj=>Ae hb1' 7 [bg d1,bg d2,bg d3,bg d4] rfl j v hj;have hgh:=fun j v hj=>Ae hb1' 1 [bg dp,vi d.fin.marks.ins,vi d.fin.marks.move,bg dd,bg dy] rfl j v hj
 have hgr:aF Ga b1 6=some (bg dr):=by unfold aF;rw [hb1'];rfl
 have hgf:aF Ga b1 0=some (bg df):=by unfold aF;rw [hb1'];rfl
 replace hfl:=hfl.mono hma;replace hst:=hst.mono hma;refine kP H (SC (Rf DF rfl ?_));clear H;intro a H;refine bK lU (cs:=[bg dp,vi d.fin.marks.ins,vi d.fin.marks.move,bg dd,bg dy]) H wn rfl rfl (fun j v hj=>H.hp.aF (hgh j v hj)) rfl ?_;clear H;intro a H;refine dY lU H wn rfl ?_;clear H;intro b3 a w hb3 H;refine bT lU 0 (vs:=[_,_,_,_,_]) _ H wn rfl rfl rfl rfl rfl rfl rfl rfl ?_;clear H;intro w H;dsimp only [List.set,setRow] at H;refine kH H (Kn K2 (SR fun _ K3=>Rf Bf rfl (Rg jy rfl (by assumption) ?_)));clear H K2;intro a H;refine s_call agr H wn rfl (apw _ _ H.ro d.flow _ hfl hz.fl) rfl ?_;clear H;rintro v8 G8 a w ⟨b8,rfl⟩ Al H;refine kH H (Rm rfl (Sp 9 rfl ?_ ?_)) <;> clear H
 ·intro h9 a H
  refine kH H (YF DI h9 rfl ?_);clear H;intro a H;refine bK Wx (cs:=[bg d1,bg d2,bg d3,bg d4]) H (wg H rfl rfl h9) rfl rfl (fun j v hj=>H.hp.aF (aJ Al (hgs j v hj))) rfl ?_;clear H;intro a H;refine s_call ahC H (wg H rfl rfl h9) rfl (apy _ _ H.ro d.lT _ _ _ _ (hst.mono Al) hz.sn hz.st) rfl ?_;clear H;rintro v12 zU a w ⟨b12,rfl⟩ Cy H;replace hgr:=aJ Cy (aJ Al hgr);refine kH H (Pt h9 rfl (Rm rfl (Sp 14 rfl ?_ ?_))) <;> clear H
  ·intro gT a H
   refine kH H (YF Bg gT rfl (YR vU gT rfl hgr (YL vV gT rfl (YC gT rfl (Pt gT rfl (Rm rfl (Sp 20 rfl ?_ ?_))))))) <;> clear H
   ·intro h20 a H
    refine kH H (YF Cq h20 rfl (YO zM 0 h20 rfl (YL tV h20 rfl (YC h20 rfl (Pt h20 rfl (Rm rfl (Sp 26 rfl ?_ ?_))))))) <;> clear H
    ·intro fE a H
     refine kH H (YF vD fE rfl (YF wF fE rfl (YO xk 0 fE rfl (YL tX fE rfl (YC fE rfl (Pt fE rfl (Rm rfl (Sp 33 rfl ?_ ?_)))))))) <;> clear H
     ·intro pz a H
      exact kH H (YF vD pz rfl (YF mJ pz rfl (YO mR 0 pz rfl (YL lW pz rfl (YC pz rfl (Pt pz rfl (ak K3 rfl (LR results9 rfl fun H=>H.rt ⟨_,rfl⟩))))))))
     intro pz a H
     exact kH H (aZ pz rfl (aT pz rfl (Pf pz rfl (ak K3 rfl (LR results9 rfl fun H=>H.rt ⟨_,rfl⟩)))))
    intro fE a H
    exact kH H (aZ fE rfl (aT fE rfl (Pf fE rfl (Rm rfl (aZ rfl rfl (aT rfl rfl (Pf rfl rfl (ak K3 rfl (LR results9 rfl fun H=>H.rt ⟨_,rfl⟩)))))))))
   intro h20 a H
   exact kH H (aT h20 rfl (aT h20 rfl (Pf h20 rfl (Rm rfl (aZ rfl rfl (aT rfl rfl (Pf rfl rfl (Rm rfl (aZ rfl rfl (aT rfl rfl (Pf rfl rfl (ak K3 rfl (LR results9 rfl fun H=>H.rt ⟨_,rfl⟩)))))))))))))
  intro gT a H
  exact kH H (aT gT rfl (aT gT rfl (Pf gT rfl (Rm rfl (aT rfl rfl (aT rfl rfl (Pf rfl rfl (Rm rfl (aZ rfl rfl (aT rfl rfl (Pf rfl rfl (Rm rfl (aZ rfl rfl (aT rfl rfl (Pf rfl rfl (ak K3 rfl (LR results9 rfl fun H=>H.rt ⟨_,rfl⟩)))))))))))))))))
 intro h9 a H
 exact kH H (aZ h9 rfl (Pf h9 rfl (Rm rfl (aT rfl rfl (aT rfl rfl (Pf rfl rfl (Rm rfl (aT rfl rfl (aT rfl rfl (Pf rfl rfl (Rm rfl (aZ rfl rfl (aT rfl rfl (Pf rfl rfl (Rm rfl (aZ rfl rfl (aT rfl rfl (Pf rfl rfl (ak K3 rfl (LR results9 rfl fun H=>H.rt ⟨_,rfl⟩))))))))))))))))))))
end
section
open Go.RowKit
theorem RZ:∀ args w,(callFunc 8 args).run prog w=.ok (.enter 8 args) w:=enters func8 rfl (by kernel_rfl)
theorem ahR:∀ args w,(callFunc 9 args).run prog w=.ok (.enter 9 args) w:=enters func9 rfl (by kernel_rfl)
theorem agu:∀ args w,(callFunc 11 args).run prog w=.ok (.enter 11 args) w:=enters func11 rfl (by kernel_rfl)
theorem agD:∀ args w,(callFunc 14 args).run prog w=.ok (.enter 14 args) w:=enters func14 rfl (by kernel_rfl)
theorem agO:∀ args w,(callFunc 17 args).run prog w=.ok (.enter 17 args) w:=enters func17 rfl (by kernel_rfl)
theorem aha:∀ args w,(callFunc 19 args).run prog w=.ok (.enter 19 args) w:=enters func19 rfl (by kernel_rfl)
theorem YW:∀ args w,(callFunc 18 args).run prog w=.ok (.enter 18 args) w:=enters func18 rfl (by kernel_rfl)
theorem agL:∀ args w,(callFunc 15 args).run prog w=.ok (.enter 15 args) w:=enters func15 rfl (by kernel_rfl)
theorem ahs:∀ args w,(callFunc 23 args).run prog w=.ok (.enter 23 args) w:=enters func23 rfl (by kernel_rfl)
theorem aqc:prog.underlying 4=some .bool:=by kernel_rfl
set_option maxHeartbeats 4000000 in
theorem alW (G:GH) (w0:World) (hG:Hold G w0) (D:jP) (d:oC) (hR:yO G D d) (hz:IV d) :
  Calls prog 4 #[D.val] w0 (bV w0 G fun u G'=>u=.bool true):=by
 have Ed:=hz.fl;refine eN [(0,_)] func4 rfl ntmps4 rfl rfl hG ?_;intro a H;refine cO (fun _ K1=>?_);refine fD (cs:=[_,_,_,_,_,_,_,_,_,_,_]) H wn rfl rfl rfl ?_;clear H;intro b1 a w hb1 H;refine kH H (ak K1 rfl (SQ fun _ K2=>SQ fun _ K3=>?_));clear H K1;intro a H;obtain ⟨Ga,hma,hb',H⟩:=H.eD;have hga:=fun j v hj=>Ae hb' 0 D.cells rfl j v hj;replace hR:=hR.mono hma;refine rz ?_;refine s_call RZ H wn rfl (Vi _ _ H.ro) rfl ?_;clear H;rintro v6 G6 a w rfl Eb H;replace hR:=hR.mono Eb;replace hga:=fun j v hj=>aJ Eb (hga j v hj);refine kH H (Rn rfl (Rm rfl (Sp 8 rfl ?_ ?_))) <;> clear H
 ·intro h8 a H
  exact absurd h8 (by decide)
 intro h8 a H
 try have p8:=dF h8
 refine bK lV (cs:=D.cells) H (wg H rfl rfl h8) rfl rfl (fun j v hj=>H.hp.aF (hga j v hj)) rfl ?_;clear H;intro a H;refine s_call ahR H (wg H rfl rfl h8) rfl (apu _ _ H.ro D d hR hz) rfl ?_;clear H;rintro v10 Nq a w ⟨b10,rfl⟩ Cx H;replace hR:=hR.mono Cx;replace hga:=fun j v hj=>aJ Cx (hga j v hj);refine kH H (YN h8 rfl (Pf h8 rfl (Rm rfl (Sp 13 rfl ?_ ?_)))) <;> clear H
 ·intro eO a H
  try have nZ:=dT eO
  refine kH H (aZ eO rfl (Pt eO rfl (Kn K3 (Ct rfl rfl (SR fun _ K4=>?_)))));clear H K3;intro a H;refine s_call RZ H wn rfl (Vi _ _ H.ro) rfl ?_;clear H;rintro v18 Nr a w rfl hm18 H;exact kH H (ak K4 rfl (LR results4 rfl fun H=>H.rt (by first|rfl|(simp_all;done))))
 intro eO a H
 try have nZ:=dF eO
 refine bK lV (cs:=D.cells) H (wg H rfl rfl eO) rfl rfl (fun j v hj=>H.hp.aF (hga j v hj)) rfl ?_;clear H;intro a H;refine s_call agu H (wg H rfl rfl eO) rfl (amF _ _ H.ro D d hR hz) rfl ?_;clear H;rintro v15 EB a w rfl vM H;replace hR:=hR.mono vM;replace hga:=fun j v hj=>aJ vM (hga j v hj);refine kH H (YC eO rfl (Pf eO rfl (Kn K3 (Cd rfl ?_ ?_)))) <;> clear H K3
 ·intro gu a H
  try have mo:=dT gu
  refine cO (fun _ K5=>?_);refine s_call RZ H wn rfl (Vi _ _ H.ro) rfl ?_;clear H;rintro v18 Nr a w rfl hm18 H;exact kH H (ak K5 rfl (LR results4 rfl fun H=>H.rt (by first|rfl|(simp_all;done))))
 intro gu a H
 try have mo:=dF gu
 refine fT ?_;refine K2 _ _ ?_;clear K2;refine aN (fun _ K6=>?_)
 have hc:iW d=0:=by first|omega|simp_all
 have hok:=ano hc;obtain ⟨I,hQ⟩:∃ I,I=sP (fK d.flow):=⟨_,rfl⟩
 have hIl:I.length=(fK d.flow).length:=by rw [hQ,sP,List.length_mergeSort]
 have hil:(fK d.flow).length≤2147483649:=by
  have h1:=(abj d.flow).length_eq;have h2:=Ew false 0 d.flow;have h3:=GL d.flow;have h4:(Az d.flow).length≤bB d.flow:=M8 0 0 d.flow
  have h5:(Bb d.flow).length=(lS d.flow).length - 1:=by rw [Bb,List.length_tail,bN]
  have h6:(Kt d.flow).length=(Az d.flow).length:=bN _;rw [jC,h5,h6,h3,gK,jZ] at h1
  omega
 have hfl:=hR.fl
 have hid:∀ q∈fK d.flow,-9223372036854775808≤q∧q < 9223372036854775808:=fun q hq=>by have:=hok.pos q hq;omega
 have JY:∀ q∈xC d,-9223372036854775808≤q∧q < 9223372036854775808:=fun q hq=>by have:=aql hc hq;omega
 have Pk:=aqk hc;have hue:=adH hc;obtain ⟨U,hU⟩:∃ U,U=AL d.revs (Ap d.flow d.fin):=⟨_,rfl⟩;rw [← hU] at Pk hue
 have hUr:U.length≤d.revs.length:=by rw [hU];exact Nat.le_trans (List.length_filter_le _ _) (by rw [bN];exact dB _)
 have hrn:=hz.rn
 have hmI:0≤qO (fK d.flow)∧qO (fK d.flow)≤1073741824:=by
  by_cases h:fK d.flow=[]
  ·rw [h];exact ⟨by decide,by decide⟩
  have:=hok.pos _ (abT h fun q hq=>(hok.pos q hq).1);omega
 clear hid
 have hid:∀ q∈fK d.flow,-9223372036854775808≤q∧q < 9223372036854775808:=fun q hq=>by have:=hok.pos q hq;omega
 have tL:∀ (fU:Nat) (v:aj) (G G':GH),(∀ k o,G k=some o→G' k=some o)→(fun (fU:Nat) (v:aj) (G:GH)=>match fU with|0=>v=.agg D.cells.toArray|1=>aB G (.sl 1 (I.map fun q=>[li q])) v|2=>v=.agg D.cells.toArray|3=>aB G (.sl 1 (U.map fun q=>[li q])) v|_=>True) fU v G→(fun (fU:Nat) (v:aj) (G:GH)=>match fU with|0=>v=.agg D.cells.toArray|1=>aB G (.sl 1 (I.map fun q=>[li q])) v|2=>v=.agg D.cells.toArray|3=>aB G (.sl 1 (U.map fun q=>[li q])) v|_=>True) fU v G':=by
  intro fU v G G' hm h
  match fU,h with
  | 0,h=>exact h
  | 1,h=>exact aB.mono hm h
  | 2,h=>exact h
  | 3,h=>exact aB.mono hm h
  | 4,h=>exact trivial
  | 5,h=>exact trivial
  | _+6,h=>exact trivial
 refine Ll (hmx) [[],[0],[],[0,1,2],(ra 0 4),(ra 0 5)] [4,5] (by kernel_rfl) (by kernel_rfl) (fun (fU:Nat) (v:aj) (G:GH)=>match fU with|0=>v=.agg D.cells.toArray|1=>aB G (.sl 1 (I.map fun q=>[li q])) v|2=>v=.agg D.cells.toArray|3=>aB G (.sl 1 (U.map fun q=>[li q])) v|_=>True) tL H ?_ ?_
 ·clear H;refine aI ?_ ?_ ?_ ?_ (bG (cZ rfl) (bG (cZ rfl) dQ))
  ·refine fO [] rfl trivial (by kernel_rfl) tL rfl rfl ?_;intro dM a w G1 hG HT H fin;refine bK lV (cs:=D.cells) H wn rfl rfl (fun j v hj=>H.hp.aF (aJ hG (hga j v hj))) rfl ?_;clear H;intro a H;exact fin H iJ rfl
  ·refine fO [(0,19,_)] rfl ⟨fun _ _ h=>h,av⟩ (by kernel_rfl) tL rfl rfl ?_;intro dM a w G1 hG HT H fin;refine s_call agD H wn rfl (amL _ _ H.ro D d.flow (hfl.mono hG) hok.ok Ed) rfl ?_;clear H;rintro v20 IX a w ⟨R,hx1,hx2,hx3⟩ Tp H;exact fin H Tp ((by rw [hQ,← adb (hx1.trans (abj d.flow)) hx2];exact hx3))
  ·refine fO [] rfl trivial (by kernel_rfl) tL rfl rfl ?_;intro dM a w G1 hG HT H fin;refine bK lV (cs:=D.cells) H wn rfl rfl (fun j v hj=>H.hp.aF (aJ hG (hga j v hj))) rfl ?_;clear H;intro a H;exact fin H iJ rfl
  refine fO [(2,21,_)] rfl ⟨fun _ _ h=>h,av⟩ (by kernel_rfl) tL rfl rfl ?_;intro dM a w G1 hG HT H fin;refine s_call agO H wn rfl (amS _ _ H.ro D d (hR.mono hG) Ed hrn) rfl ?_;clear H;rintro v22 Xa a w abb vJ H;rw [← hU] at abb;exact fin H vJ (abb)
 clear H;intro a w G Me H hv;obtain ⟨u20,alB,MF⟩:=hv 1 20 (by decide) rfl;(try dsimp only at MF);obtain ⟨A3,n3,c3,rfl⟩:=MF.form
 obtain rfl:n3=I.length:=by simpa using MF.len
 have H:=H.pX alB;obtain ⟨u22,U3,JR⟩:=hv 3 22 (by decide) rfl;(try dsimp only at JR);obtain ⟨A4,n4,c4,rfl⟩:=JR.form
 obtain rfl:n4=U.length:=by simpa using JR.len
 have H:=H.pX U3;clear hv;refine kH H (Ra rfl (Ra rfl ?_));clear H;intro a H;refine aH ⟨rfl,?_⟩;refine K6 _ _ ?_;clear K6;refine aN (fun _ K7=>?_);replace hR:=hR.mono Me;replace hfl:=hR.fl;replace hga:=fun j v hj=>aJ Me (hga j v hj);refine kP H (SC (aL K7 rfl ?_));clear H K7;intro a H;refine oG (ι:=Int) (Tc:=[(1,_),(3,_),(4,_)]) (Lc:=[]) (fun gh=>[(5,vi gh)]) (fun gh=>[]) (fun gh=>G) (fun gh=>gh=qO (fK d.flow)+1) (by exact (H).sub ⟨rfl,rfl,rfl,av⟩) ?_ ?_
 ·skip;refine kP H (SR fun _ K8=>Rm rfl (Rl jN rfl (Rc rfl (Kz K8 (Cd rfl ?_ ?_))))) <;> clear H K8
  ·intro fM a H
   try have p25:=dT fM
   have hI1:I.length - 1 < I.length:=by omega
   have hI2:I[I.length - 1]=qO (fK d.flow):=by
    clear H hIl;subst hQ;exact amU (fun q hq=>(hok.pos q hq).1) (by omega)
   obtain ⟨b31,o31,rfl,hc31⟩:=ints_at MF hI1;refine kP H (SC (Rm rfl (Rm rfl (Rl jN rfl ?_))));clear H;intro a H;refine mQ ((I.length - 1:Nat):Int) H wn rfl rfl (by omega) (by omega) (by omega) rfl ?_;clear H;intro a H;refine kH H (Ri jN aD rfl rfl (Rg aD rfl (by simpa using hc31) (Rd rfl (Ra rfl ?_))));clear H;intro a H;refine aH ?_;refine ⟨I[I.length - 1]+1,by exact (H).sub ⟨rfl,rfl,rfl,rfl,av⟩,?_⟩;rw [hI2]
  intro fM a H
  try have p25:=dF fM
  refine fT ?_;refine ⟨1,by exact (H).sub ⟨rfl,rfl,rfl,rfl,av⟩,?_⟩;rw [show fK d.flow=[] from List.length_eq_zero_iff.1 (by omega)];rfl
 clear H;intro f a w hI H;have hf:=hI;subst hf;dsimp only [lca,aO] at H;refine aN (fun _ K9=>?_)
 have lJ:∀ (fU:Nat) (v:aj) (G G':GH),(∀ k o,G k=some o→G' k=some o)→(fun (fU:Nat) (v:aj) (G:GH)=>match fU with|0=>v=.agg D.cells.toArray|1=>aB G (.sl 1 (I.map fun q=>[li q])) v|2=>v=.slice A3 I.length c3|3=>v=.bool true|4=>v=.bool true|5=>v=.agg D.cells.toArray|6=>v=vi (qO (fK d.flow)+1)|7=>v=vi (qO (fK d.flow)+1)|8=>v=.bool true|9=>v=.bool true|10=>v=.bool true|11=>v=.agg D.cells.toArray|12=>v=vi (og (gK d.flow))|13=>v=.agg D.cells.toArray|14=>v=vi (og (gK d.flow))|15=>v=.bool true|16=>v=.bool true|17=>v=.bool true|18=>v=.agg D.cells.toArray|19=>aB G (.sl 1 (U.map fun q=>[li q])) v|20=>v=.slice A4 U.length c4|21=>v=.bool true|22=>v=.bool true|23=>v=.bool true|24=>v=.agg D.cells.toArray|25=>v=.bool (decide ((xC d).length=0))|26=>v=.slice A4 U.length c4|27=>v=vi U.length|28=>v=.bool (decide ((U.length:Int)=0))|29=>v=.bool true|30=>v=.bool true|31=>v=.bool true|_=>True) fU v G→(fun (fU:Nat) (v:aj) (G:GH)=>match fU with|0=>v=.agg D.cells.toArray|1=>aB G (.sl 1 (I.map fun q=>[li q])) v|2=>v=.slice A3 I.length c3|3=>v=.bool true|4=>v=.bool true|5=>v=.agg D.cells.toArray|6=>v=vi (qO (fK d.flow)+1)|7=>v=vi (qO (fK d.flow)+1)|8=>v=.bool true|9=>v=.bool true|10=>v=.bool true|11=>v=.agg D.cells.toArray|12=>v=vi (og (gK d.flow))|13=>v=.agg D.cells.toArray|14=>v=vi (og (gK d.flow))|15=>v=.bool true|16=>v=.bool true|17=>v=.bool true|18=>v=.agg D.cells.toArray|19=>aB G (.sl 1 (U.map fun q=>[li q])) v|20=>v=.slice A4 U.length c4|21=>v=.bool true|22=>v=.bool true|23=>v=.bool true|24=>v=.agg D.cells.toArray|25=>v=.bool (decide ((xC d).length=0))|26=>v=.slice A4 U.length c4|27=>v=vi U.length|28=>v=.bool (decide ((U.length:Int)=0))|29=>v=.bool true|30=>v=.bool true|31=>v=.bool true|_=>True) fU v G':=by
  intro fU v G G' hm h
  match fU,h with
  | 0,h=>exact h
  | 1,h=>exact aB.mono hm h
  | 2,h=>exact h
  | 3,h=>exact h
  | 4,h=>exact h
  | 5,h=>exact h
  | 6,h=>exact h
  | 7,h=>exact h
  | 8,h=>exact h
  | 9,h=>exact h
  | 10,h=>exact h
  | 11,h=>exact h
  | 12,h=>exact h
  | 13,h=>exact h
  | 14,h=>exact h
  | 15,h=>exact h
  | 16,h=>exact h
  | 17,h=>exact h
  | 18,h=>exact h
  | 19,h=>exact aB.mono hm h
  | 20,h=>exact h
  | 21,h=>exact h
  | 22,h=>exact h
  | 23,h=>exact h
  | 24,h=>exact h
  | 25,h=>exact h
  | 26,h=>exact h
  | 27,h=>exact h
  | 28,h=>exact h
  | 29,h=>exact h
  | 30,h=>exact h
  | 31,h=>exact h
  | _+32,h=>exact trivial
 refine Ll (hmx) [[],[0],[],[0,1,2],(ra 0 4),(ra 0 5),(ra 0 6),(ra 0 5),(ra 0 8),(ra 0 9),(ra 0 10),(ra 0 11),(ra 0 12),(ra 0 11),(ra 0 14),(ra 0 15),(ra 0 16),(ra 0 17),(ra 0 18),(ra 0 19),(ra 0 18),(ra 0 21),(ra 0 22),(ra 0 23),(ra 0 24),(ra 0 25),(ra 0 24),(ra 0 24++[26]),(ra 0 24++[26,27]),(ra 0 29),(ra 0 30),(ra 0 31)] [] (by kernel_rfl) (by kernel_rfl) (fun (fU:Nat) (v:aj) (G:GH)=>match fU with|0=>v=.agg D.cells.toArray|1=>aB G (.sl 1 (I.map fun q=>[li q])) v|2=>v=.slice A3 I.length c3|3=>v=.bool true|4=>v=.bool true|5=>v=.agg D.cells.toArray|6=>v=vi (qO (fK d.flow)+1)|7=>v=vi (qO (fK d.flow)+1)|8=>v=.bool true|9=>v=.bool true|10=>v=.bool true|11=>v=.agg D.cells.toArray|12=>v=vi (og (gK d.flow))|13=>v=.agg D.cells.toArray|14=>v=vi (og (gK d.flow))|15=>v=.bool true|16=>v=.bool true|17=>v=.bool true|18=>v=.agg D.cells.toArray|19=>aB G (.sl 1 (U.map fun q=>[li q])) v|20=>v=.slice A4 U.length c4|21=>v=.bool true|22=>v=.bool true|23=>v=.bool true|24=>v=.agg D.cells.toArray|25=>v=.bool (decide ((xC d).length=0))|26=>v=.slice A4 U.length c4|27=>v=vi U.length|28=>v=.bool (decide ((U.length:Int)=0))|29=>v=.bool true|30=>v=.bool true|31=>v=.bool true|_=>True) lJ H ?_ ?_
 ·clear H;refine aI ?_ ?_ ?_ ?_ (aI ?_ ?_ ?_ ?_ (aI ?_ ?_ ?_ ?_ (aI ?_ ?_ ?_ ?_ (aI ?_ ?_ ?_ ?_ (aI ?_ ?_ ?_ ?_ (aI ?_ ?_ ?_ ?_ (aI ?_ ?_ ?_ ?_ dQ)))))))
  ·refine fO [] rfl trivial (by kernel_rfl) lJ rfl rfl ?_;intro dM a w G1 hG HT H fin;refine bK lV (cs:=D.cells) H wn rfl rfl (fun j v hj=>H.hp.aF (aJ hG (hga j v hj))) rfl ?_;clear H;intro a H;exact fin H iJ rfl
  ·refine fO [(0,33,_)] rfl ⟨fun _ _ h=>h,av⟩ (by kernel_rfl) lJ rfl rfl ?_;intro dM a w G1 hG HT H fin;refine s_call aha H wn rfl (agi _ _ H.ro D d.flow (hfl.mono hG) (by omega) hok.nd hid (by omega)) rfl ?_;clear H;rintro v34 Xb a w hx34 aiR H;rw [← hQ] at hx34;exact fin H aiR (hx34)
  ·refine fO [] rfl trivial (by kernel_rfl) lJ rfl rfl ?_;intro dM a w G1 hG HT H fin;exact kH H (Rm rfl fun _ H=>fin H iJ rfl)
  ·intro dM a w G1 _ dO hc hG HT hv;have H:=HT;clear dO;obtain ⟨u34,alH,aay⟩:=hv 1 34 (hc 1 (by decide)) rfl;(try dsimp only at aay);have H:=H.pX alH;have H:=H.bC (hv 2 35 (hc 2 (by decide)) rfl) rfl;have Hb:=H.full;have H:=Hb;clear hc;refine s_call YW H wn rfl (acN _ _ H.ro _ _ _ _ aay (MF.mono hG)) rfl ?_;clear H;rintro v36 G36 a w ⟨hy1,b36,rfl⟩ Ag H;rw [hy1 rfl] at H;refine aH ⟨rfl,?_⟩;exact nK (by kernel_rfl) lJ rfl rfl HT Hb hG hv Ag (rfl) H
  ·refine fO [(3,36,_)] rfl ⟨fun _ _ h=>h,av⟩ (by kernel_rfl) lJ rfl rfl ?_;intro dM a w G1 hG HT H fin;exact kH H (Rm rfl fun _ H=>fin H iJ rfl)
  ·refine fO [(4,37,_)] rfl ⟨fun _ _ h=>h,av⟩ (by kernel_rfl) lJ rfl rfl ?_;intro dM a w G1 hG HT H fin;refine bK lV (cs:=D.cells) H (wg H rfl rfl rfl) rfl rfl (fun j v hj=>H.hp.aF (aJ hG (hga j v hj))) rfl ?_;clear H;intro a H;exact fin H iJ rfl
  ·refine fO [(5,38,_),(4,37,_)] rfl ⟨fun _ _ h=>h,fun _ _ h=>h,av⟩ (by kernel_rfl) lJ rfl rfl ?_;intro dM a w G1 hG HT H fin;refine s_call YZ H (wg H rfl rfl rfl) rfl (ZB _ _ H.ro D d.flow (hfl.mono hG) (by omega) (by omega) hmI.1) rfl ?_;clear H;rintro v39 QD a w rfl aiT H;exact fin H aiT (rfl)
  ·refine fO [(4,37,_)] rfl ⟨fun _ _ h=>h,av⟩ (by kernel_rfl) lJ rfl rfl ?_;intro dM a w G1 hG HT H fin;refine En H (wg H rfl rfl rfl) rfl rfl ?_;clear H;intro a H;exact fin H iJ rfl
  ·refine fO [(6,39,_),(7,40,_),(4,37,_)] rfl ⟨fun _ _ h=>h,fun _ _ h=>h,fun _ _ h=>h,av⟩ (by kernel_rfl) lJ rfl rfl ?_;intro dM a w G1 hG HT H fin;refine FP H (wg H rfl rfl rfl) rfl rfl rfl rfl ?_;clear H;intro a H;exact fin H iJ (aM (by simp))
  ·refine fO [(4,37,_),(8,41,_)] rfl ⟨fun _ _ h=>h,fun _ _ h=>h,av⟩ (by kernel_rfl) lJ rfl rfl ?_;intro dM a w G1 hG HT H fin;exact kH H (Pt rfl rfl fun _ H=>fin H iJ rfl)
  ·refine fO [(9,42,_)] rfl ⟨fun _ _ h=>h,av⟩ (by kernel_rfl) lJ rfl rfl ?_;intro dM a w G1 hG HT H fin;exact kH H (Rm rfl fun _ H=>fin H iJ rfl)
  ·refine fO [(10,43,_)] rfl ⟨fun _ _ h=>h,av⟩ (by kernel_rfl) lJ rfl rfl ?_;intro dM a w G1 hG HT H fin;refine bK lV (cs:=D.cells) H (wg H rfl rfl rfl) rfl rfl (fun j v hj=>H.hp.aF (aJ hG (hga j v hj))) rfl ?_;clear H;intro a H;exact fin H iJ rfl
  ·refine fO [(11,44,_),(10,43,_)] rfl ⟨fun _ _ h=>h,fun _ _ h=>h,av⟩ (by kernel_rfl) lJ rfl rfl ?_;intro dM a w G1 hG HT H fin;refine s_call Y0 H (wg H rfl rfl rfl) rfl (adz _ _ H.ro D d.flow (hfl.mono hG) (by omega) (ady d.flow Ed)) rfl ?_;clear H;rintro v45 G45 a w rfl Tt H;exact fin H Tt (rfl)
  ·refine fO [(10,43,_)] rfl ⟨fun _ _ h=>h,av⟩ (by kernel_rfl) lJ rfl rfl ?_;intro dM a w G1 hG HT H fin;refine bK lV (cs:=D.cells) H (wg H rfl rfl rfl) rfl rfl (fun j v hj=>H.hp.aF (aJ hG (hga j v hj))) rfl ?_;clear H;intro a H;exact fin H iJ rfl
  ·refine fO [(13,46,_),(10,43,_)] rfl ⟨fun _ _ h=>h,fun _ _ h=>h,av⟩ (by kernel_rfl) lJ rfl rfl ?_;intro dM a w G1 hG HT H fin;refine s_call agL H (wg H rfl rfl rfl) rfl (amR _ _ H.ro D d.flow (hfl.mono hG) Ed) rfl ?_;clear H;rintro v47 Ns a w rfl Bu H;exact fin H Bu (rfl)
  ·refine fO [(12,45,_),(14,47,_),(10,43,_)] rfl ⟨fun _ _ h=>h,fun _ _ h=>h,fun _ _ h=>h,av⟩ (by kernel_rfl) lJ rfl rfl ?_;intro dM a w G1 hG HT H fin;refine FP H (wg H rfl rfl rfl) rfl rfl rfl rfl ?_;clear H;intro a H;exact fin H iJ (aM (by simp))
  ·refine fO [(10,43,_),(15,48,_)] rfl ⟨fun _ _ h=>h,fun _ _ h=>h,av⟩ (by kernel_rfl) lJ rfl rfl ?_;intro dM a w G1 hG HT H fin;exact kH H (Pt rfl rfl fun _ H=>fin H iJ rfl)
  ·refine fO [(16,49,_)] rfl ⟨fun _ _ h=>h,av⟩ (by kernel_rfl) lJ rfl rfl ?_;intro dM a w G1 hG HT H fin;exact kH H (Rm rfl fun _ H=>fin H iJ rfl)
  ·refine fO [(17,50,_)] rfl ⟨fun _ _ h=>h,av⟩ (by kernel_rfl) lJ rfl rfl ?_;intro dM a w G1 hG HT H fin;refine bK lV (cs:=D.cells) H (wg H rfl rfl rfl) rfl rfl (fun j v hj=>H.hp.aF (aJ hG (hga j v hj))) rfl ?_;clear H;intro a H;exact fin H iJ rfl
  ·refine fO [(18,51,_),(17,50,_)] rfl ⟨fun _ _ h=>h,fun _ _ h=>h,av⟩ (by kernel_rfl) lJ rfl rfl ?_;intro dM a w G1 hG HT H fin;refine s_call Y2 H (wg H rfl rfl rfl) rfl (YJ _ _ H.ro D d (hR.mono hG) (by omega) JY (by omega)) rfl ?_;clear H;rintro v52 Nt a w abd aiX H;rw [← hue] at abd;exact fin H aiX (abd)
  ·refine fO [(17,50,_)] rfl ⟨fun _ _ h=>h,av⟩ (by kernel_rfl) lJ rfl rfl ?_;intro dM a w G1 hG HT H fin;refine En H (wg H rfl rfl rfl) rfl rfl ?_;clear H;intro a H;exact fin H iJ rfl
  ·intro dM a w G1 _ dO hc hG HT hv;have H:=HT;clear dO;obtain ⟨u52,alI,aaz⟩:=hv 19 52 (hc 19 (by decide)) rfl;(try dsimp only at aaz);have H:=H.pX alI;have H:=H.bC (hv 20 53 (hc 20 (by decide)) rfl) rfl;have H:=H.bC (hv 17 50 (hc 17 (by decide)) rfl) rfl;have Hb:=H.full;have H:=Hb;clear hc;refine s_call YW H (wg H rfl rfl rfl) rfl (acN _ _ H.ro _ _ _ _ aaz (JR.mono hG)) rfl ?_;clear H;rintro v54 Xf a w ⟨hy1,XZ,rfl⟩ aiY H;rw [hy1 rfl] at H;refine aH ⟨rfl,?_⟩;exact nK (by kernel_rfl) lJ rfl rfl HT Hb hG hv aiY (rfl) H
  ·refine fO [(17,50,_),(21,54,_)] rfl ⟨fun _ _ h=>h,fun _ _ h=>h,av⟩ (by kernel_rfl) lJ rfl rfl ?_;intro dM a w G1 hG HT H fin;exact kH H (Pt rfl rfl fun _ H=>fin H iJ rfl)
  ·refine fO [(22,55,_)] rfl ⟨fun _ _ h=>h,av⟩ (by kernel_rfl) lJ rfl rfl ?_;intro dM a w G1 hG HT H fin;exact kH H (Rm rfl fun _ H=>fin H iJ rfl)
  ·refine fO [(23,56,_)] rfl ⟨fun _ _ h=>h,av⟩ (by kernel_rfl) lJ rfl rfl ?_;intro dM a w G1 hG HT H fin;refine bK lV (cs:=D.cells) H (wg H rfl rfl rfl) rfl rfl (fun j v hj=>H.hp.aF (aJ hG (hga j v hj))) rfl ?_;clear H;intro a H;exact fin H iJ rfl
  ·refine fO [(24,57,_),(23,56,_)] rfl ⟨fun _ _ h=>h,fun _ _ h=>h,av⟩ (by kernel_rfl) lJ rfl rfl ?_;intro dM a w G1 hG HT H fin;refine s_call ahs H (wg H rfl rfl rfl) rfl (anR _ _ H.ro D d (hR.mono hG) (by omega) JY (by omega)) rfl ?_;clear H;rintro v58 G58 a w rfl aiZ H;exact fin H aiZ (rfl)
  ·refine fO [(23,56,_)] rfl ⟨fun _ _ h=>h,av⟩ (by kernel_rfl) lJ rfl rfl ?_;intro dM a w G1 hG HT H fin;refine En H (wg H rfl rfl rfl) rfl rfl ?_;clear H;intro a H;exact fin H iJ rfl
  ·refine fO [(26,59,_),(23,56,_)] rfl ⟨fun _ _ h=>h,fun _ _ h=>h,av⟩ (by kernel_rfl) lJ rfl rfl ?_;intro dM a w G1 hG HT H fin;refine VX jN H (wg H rfl rfl rfl) rfl rfl ?_;clear H;intro a H;exact fin H iJ rfl
  ·refine fO [(27,60,_),(23,56,_)] rfl ⟨fun _ _ h=>h,fun _ _ h=>h,av⟩ (by kernel_rfl) lJ rfl rfl ?_;intro dM a w G1 hG HT H fin;refine FP H (wg H rfl rfl rfl) rfl rfl rfl rfl ?_;clear H;intro a H;exact fin H iJ rfl
  ·refine fO [(25,58,_),(28,61,_),(23,56,_)] rfl ⟨fun _ _ h=>h,fun _ _ h=>h,fun _ _ h=>h,av⟩ (by kernel_rfl) lJ rfl rfl ?_;intro dM a w G1 hG HT H fin;refine aoK aqc H (wg H rfl rfl rfl) rfl rfl rfl ?_;clear H;intro a H;exact fin H iJ (aM (by rw [Pk];simp))
  ·refine fO [(23,56,_),(29,62,_)] rfl ⟨fun _ _ h=>h,fun _ _ h=>h,av⟩ (by kernel_rfl) lJ rfl rfl ?_;intro dM a w G1 hG HT H fin;exact kH H (Pt rfl rfl fun _ H=>fin H iJ rfl)
  refine fO [(30,63,_)] rfl ⟨fun _ _ h=>h,av⟩ (by kernel_rfl) lJ rfl rfl ?_;intro dM a w G1 hG HT H fin;exact kH H (Ra rfl fun _ H=>fin H iJ rfl)
 clear H;intro a w G OD H hv;have H:=H.bC (hv 31 2 rfl rfl) rfl;clear hv;refine aH ⟨rfl,?_⟩;refine K9 _ _ ?_;clear K9;refine lr H results4 rfl ?_;exact H.rt (by first|rfl|(simp_all;done))
end
section
open Go.ChangeShapes Go.RowKit Go.Deep
theorem Et {ρ:Type} {dat:ρ→List Dat}:∀ {l:List ρ} {x:ρ},x∈l→dh (dat x)+1≤eu (l.map dat)
 | y :: l,x,h=>by
  rw [dW,eu]
  rcases nG.1 h with rfl|h
  ·omega
  have:=Et (dat:=dat) h;omega
section
variable {H:Type} {enc:TypeId × aj→H} {W:World} {base:Nat} {spare:Nat→Bool} {held:Bool}
theorem apr:uh prog 156 6 [(3,0,1),(3,1,1),(9,2,1),(3,3,1),(3,4,1),(23,5,1)]:=⟨by kernel_rfl,by kernel_rfl,by kernel_rfl⟩
theorem afw:prog.cellsOf 156=6:=by kernel_rfl
theorem aom {n:Nat} {cs:List aj} {D:DataW H} {Pl:List MemPlace} (h:DataW.trod enc prog W base spare held n 156 cs=some (D,Pl)):∃ r:bS,bM (rF W) r.dat cs∧dh r.dat+1≤8*Rows.uptoBulk D:=by
 obtain ⟨xs,m,hx,hl,hxl,hf⟩:=vO apr h
 match cs,hl,xs,hxl with
 | [c0,c1,c2,c3,c4,c5],_,[y0,y1,y2,y3,y4,y5],_ =>
  have h0:=hf 0 _ _ _ rfl;have h1:=hf 1 _ _ _ rfl;have h2:=hf 2 _ _ _ rfl;have h3:=hf 3 _ _ _ rfl;have h4:=hf 4 _ _ _ rfl;have h5:=hf 5 _ _ _ rfl
  simp only at hx
  have hD:Rows.uptoBulk D=Rows.uptoBulk y0.1+(Rows.uptoBulk y1.1+(Rows.uptoBulk y2.1+(Rows.uptoBulk y3.1+(Rows.uptoBulk y4.1+(Rows.uptoBulk y5.1+0)))))+1:=by rw [hx];simp only [dW,sZ,Rows.uptoBulk,Rows.uptoBulkAll]
  obtain ⟨k0,e0,d0,-⟩:=DataW.trod_int underlying3 h0;obtain ⟨k1,e1,d1,-⟩:=DataW.trod_int underlying3 h1;obtain ⟨k2,e2,d2,-⟩:=DataW.trod_string underlying9 h2;obtain ⟨k3,e3,d3,-⟩:=DataW.trod_int underlying3 h3;obtain ⟨k4,e4,d4,-⟩:=DataW.trod_int underlying3 h4;obtain ⟨k5,q5,e5,r5,d5⟩:=wZ (dat:=jX.dat) (sz:=2) (by omega) underlying23 Ym h5 (fun n cs' D Pl hh _=>acz hh)
  simp at e0 e1 e2 e3 e4 e5
  subst e0 e1 e2 e3 e4 e5
  have b0:Rows.uptoBulk y0.1=1:=by rw [d0];rfl
  have b1:Rows.uptoBulk y1.1=1:=by rw [d1];rfl
  have b2:Rows.uptoBulk y2.1=k2.size+1:=by rw [d2];show k2.data.toList.length+1=k2.data.size+1;rw [yT]
  have b3:Rows.uptoBulk y3.1=1:=by rw [d3];rfl
  have b4:Rows.uptoBulk y4.1=1:=by rw [d4];rfl
  refine ⟨⟨k0,k1,k2,k3,k4,k5⟩,?_,?_⟩
  ·exact ⟨_,_,rfl,(by simp [aB,Value.oneCell']),⟨_,_,rfl,(by simp [aB,Value.oneCell']),⟨_,_,rfl,(by simp [aB,Value.oneCell']),⟨_,_,rfl,(by simp [aB,Value.oneCell']),⟨_,_,rfl,(by simp [aB,Value.oneCell']),⟨_,_,rfl,r5,rfl⟩⟩⟩⟩⟩⟩
  simp only [bS.dat,dh,qx];omega
theorem apk:uh prog 194 4 [(3,0,1),(3,1,1),(9,2,1),(3,3,1)]:=⟨by kernel_rfl,by kernel_rfl,by kernel_rfl⟩
theorem afs:prog.cellsOf 194=4:=by kernel_rfl
theorem aoi {n:Nat} {cs:List aj} {D:DataW H} {Pl:List MemPlace} (h:DataW.trod enc prog W base spare held n 194 cs=some (D,Pl)):∃ r:qC,bM (rF W) r.dat cs∧dh r.dat+1≤8*Rows.uptoBulk D:=by
 obtain ⟨xs,m,hx,hl,hxl,hf⟩:=vO apk h
 match cs,hl,xs,hxl with
 | [c0,c1,c2,c3],_,[y0,y1,y2,y3],_ =>
  have h0:=hf 0 _ _ _ rfl;have h1:=hf 1 _ _ _ rfl;have h2:=hf 2 _ _ _ rfl;have h3:=hf 3 _ _ _ rfl
  simp only at hx
  have hD:Rows.uptoBulk D=Rows.uptoBulk y0.1+(Rows.uptoBulk y1.1+(Rows.uptoBulk y2.1+(Rows.uptoBulk y3.1+0)))+1:=by rw [hx];simp only [dW,sZ,Rows.uptoBulk,Rows.uptoBulkAll]
  obtain ⟨k0,e0,d0,-⟩:=DataW.trod_int underlying3 h0;obtain ⟨k1,e1,d1,-⟩:=DataW.trod_int underlying3 h1;obtain ⟨k2,e2,d2,-⟩:=DataW.trod_string underlying9 h2;obtain ⟨k3,e3,d3,-⟩:=DataW.trod_int underlying3 h3
  simp at e0 e1 e2 e3
  subst e0 e1 e2 e3
  have b0:Rows.uptoBulk y0.1=1:=by rw [d0];rfl
  have b1:Rows.uptoBulk y1.1=1:=by rw [d1];rfl
  have b2:Rows.uptoBulk y2.1=k2.size+1:=by rw [d2];show k2.data.toList.length+1=k2.data.size+1;rw [yT]
  have b3:Rows.uptoBulk y3.1=1:=by rw [d3];rfl
  refine ⟨⟨k0,k1,k2,k3⟩,?_,?_⟩
  ·exact ⟨_,_,rfl,(by simp [aB,Value.oneCell']),⟨_,_,rfl,(by simp [aB,Value.oneCell']),⟨_,_,rfl,(by simp [aB,Value.oneCell']),⟨_,_,rfl,(by simp [aB,Value.oneCell']),rfl⟩⟩⟩⟩
  simp only [qC.dat,dh,qx];omega
theorem apj:uh prog 159 2 [(3,0,1),(157,1,1)]:=⟨by kernel_rfl,by kernel_rfl,by kernel_rfl⟩
theorem afr:prog.cellsOf 159=2:=by kernel_rfl
theorem aoj {n:Nat} {cs:List aj} {D:DataW H} {Pl:List MemPlace} (h:DataW.trod enc prog W base spare held n 159 cs=some (D,Pl)):∃ r:dR,bM (rF W) r.dat cs∧dh r.dat+1≤8*Rows.uptoBulk D:=by
 obtain ⟨xs,m,hx,hl,hxl,hf⟩:=vO apj h
 match cs,hl,xs,hxl with
 | [c0,c1],_,[y0,y1],_ =>
  have h0:=hf 0 _ _ _ rfl;have h1:=hf 1 _ _ _ rfl
  simp only at hx
  have hD:Rows.uptoBulk D=Rows.uptoBulk y0.1+(Rows.uptoBulk y1.1+0)+1:=by rw [hx];simp only [dW,sZ,Rows.uptoBulk,Rows.uptoBulkAll]
  obtain ⟨k0,e0,d0,-⟩:=DataW.trod_int underlying3 h0;obtain ⟨k1,q1,e1,r1,d1⟩:=wZ (dat:=qC.dat) (sz:=4) (by omega) underlying157 afs h1 (fun n cs' D Pl hh _=>aoi hh)
  simp at e0 e1
  subst e0 e1
  have b0:Rows.uptoBulk y0.1=1:=by rw [d0];rfl
  refine ⟨⟨k0,k1⟩,?_,?_⟩
  ·exact ⟨_,_,rfl,(by simp [aB,Value.oneCell']),⟨_,_,rfl,r1,rfl⟩⟩
  simp only [dR.dat,dh,qx];omega
theorem apd:uh prog 164 6 [(3,0,1),(3,1,1),(9,2,1),(3,3,1),(9,4,1),(4,5,1)]:=⟨by kernel_rfl,by kernel_rfl,by kernel_rfl⟩
theorem afo:prog.cellsOf 164=6:=by kernel_rfl
theorem aod {n:Nat} {cs:List aj} {D:DataW H} {Pl:List MemPlace} (h:DataW.trod enc prog W base spare held n 164 cs=some (D,Pl)):∃ r:jl,bM (rF W) r.dat cs∧dh r.dat+1≤8*Rows.uptoBulk D:=by
 obtain ⟨xs,m,hx,hl,hxl,hf⟩:=vO apd h
 match cs,hl,xs,hxl with
 | [c0,c1,c2,c3,c4,c5],_,[y0,y1,y2,y3,y4,y5],_ =>
  have h0:=hf 0 _ _ _ rfl;have h1:=hf 1 _ _ _ rfl;have h2:=hf 2 _ _ _ rfl;have h3:=hf 3 _ _ _ rfl;have h4:=hf 4 _ _ _ rfl;have h5:=hf 5 _ _ _ rfl
  simp only at hx
  have hD:Rows.uptoBulk D=Rows.uptoBulk y0.1+(Rows.uptoBulk y1.1+(Rows.uptoBulk y2.1+(Rows.uptoBulk y3.1+(Rows.uptoBulk y4.1+(Rows.uptoBulk y5.1+0)))))+1:=by rw [hx];simp only [dW,sZ,Rows.uptoBulk,Rows.uptoBulkAll]
  obtain ⟨k0,e0,d0,-⟩:=DataW.trod_int underlying3 h0;obtain ⟨k1,e1,d1,-⟩:=DataW.trod_int underlying3 h1;obtain ⟨k2,e2,d2,-⟩:=DataW.trod_string underlying9 h2;obtain ⟨k3,e3,d3,-⟩:=DataW.trod_int underlying3 h3;obtain ⟨k4,e4,d4,-⟩:=DataW.trod_string underlying9 h4;obtain ⟨k5,e5,d5⟩:=DataW.trod_bool underlying4 h5
  simp at e0 e1 e2 e3 e4 e5
  subst e0 e1 e2 e3 e4 e5
  have b0:Rows.uptoBulk y0.1=1:=by rw [d0];rfl
  have b1:Rows.uptoBulk y1.1=1:=by rw [d1];rfl
  have b2:Rows.uptoBulk y2.1=k2.size+1:=by rw [d2];show k2.data.toList.length+1=k2.data.size+1;rw [yT]
  have b3:Rows.uptoBulk y3.1=1:=by rw [d3];rfl
  have b4:Rows.uptoBulk y4.1=k4.size+1:=by rw [d4];show k4.data.toList.length+1=k4.data.size+1;rw [yT]
  have b5:Rows.uptoBulk y5.1=1:=by rw [d5];rfl
  refine ⟨⟨k0,k1,k2,k3,k4,k5⟩,?_,?_⟩
  ·exact ⟨_,_,rfl,(by simp [aB,Value.oneCell']),⟨_,_,rfl,(by simp [aB,Value.oneCell']),⟨_,_,rfl,(by simp [aB,Value.oneCell']),⟨_,_,rfl,(by simp [aB,Value.oneCell']),⟨_,_,rfl,(by simp [aB,Value.oneCell']),⟨_,_,rfl,(by simp [aB,Value.oneCell']),rfl⟩⟩⟩⟩⟩⟩
  simp only [jl.dat,dh,qx];omega
theorem aps:uh prog 167 2 [(9,0,1),(9,1,1)]:=⟨by kernel_rfl,by kernel_rfl,by kernel_rfl⟩
theorem afy:prog.cellsOf 167=2:=by kernel_rfl
theorem aon {n:Nat} {cs:List aj} {D:DataW H} {Pl:List MemPlace} (h:DataW.trod enc prog W base spare held n 167 cs=some (D,Pl)):∃ r:oh,bM (rF W) r.dat cs∧dh r.dat+1≤8*Rows.uptoBulk D:=by
 obtain ⟨xs,m,hx,hl,hxl,hf⟩:=vO aps h
 match cs,hl,xs,hxl with
 | [c0,c1],_,[y0,y1],_ =>
  have h0:=hf 0 _ _ _ rfl;have h1:=hf 1 _ _ _ rfl
  simp only at hx
  have hD:Rows.uptoBulk D=Rows.uptoBulk y0.1+(Rows.uptoBulk y1.1+0)+1:=by rw [hx];simp only [dW,sZ,Rows.uptoBulk,Rows.uptoBulkAll]
  obtain ⟨k0,e0,d0,-⟩:=DataW.trod_string underlying9 h0;obtain ⟨k1,e1,d1,-⟩:=DataW.trod_string underlying9 h1
  simp at e0 e1
  subst e0 e1
  have b0:Rows.uptoBulk y0.1=k0.size+1:=by rw [d0];show k0.data.toList.length+1=k0.data.size+1;rw [yT]
  have b1:Rows.uptoBulk y1.1=k1.size+1:=by rw [d1];show k1.data.toList.length+1=k1.data.size+1;rw [yT]
  refine ⟨⟨k0,k1⟩,?_,?_⟩
  ·exact ⟨_,_,rfl,(by simp [aB,Value.oneCell']),⟨_,_,rfl,(by simp [aB,Value.oneCell']),rfl⟩⟩
  simp only [oh.dat,dh,qx];omega
theorem apo:uh prog 82 3 [(3,0,1),(9,1,1),(3,2,1)]:=⟨by kernel_rfl,by kernel_rfl,by kernel_rfl⟩
theorem afv:prog.cellsOf 82=3:=by kernel_rfl
theorem aok {n:Nat} {cs:List aj} {D:DataW H} {Pl:List MemPlace} (h:DataW.trod enc prog W base spare held n 82 cs=some (D,Pl)):∃ r:dU,bM (rF W) r.dat cs∧dh r.dat+1≤8*Rows.uptoBulk D:=by
 obtain ⟨xs,m,hx,hl,hxl,hf⟩:=vO apo h
 match cs,hl,xs,hxl with
 | [c0,c1,c2],_,[y0,y1,y2],_ =>
  have h0:=hf 0 _ _ _ rfl;have h1:=hf 1 _ _ _ rfl;have h2:=hf 2 _ _ _ rfl
  simp only at hx
  have hD:Rows.uptoBulk D=Rows.uptoBulk y0.1+(Rows.uptoBulk y1.1+(Rows.uptoBulk y2.1+0))+1:=by rw [hx];simp only [dW,sZ,Rows.uptoBulk,Rows.uptoBulkAll]
  obtain ⟨k0,e0,d0,-⟩:=DataW.trod_int underlying3 h0;obtain ⟨k1,e1,d1,-⟩:=DataW.trod_string underlying9 h1;obtain ⟨k2,e2,d2,-⟩:=DataW.trod_int underlying3 h2
  simp at e0 e1 e2
  subst e0 e1 e2
  have b0:Rows.uptoBulk y0.1=1:=by rw [d0];rfl
  have b1:Rows.uptoBulk y1.1=k1.size+1:=by rw [d1];show k1.data.toList.length+1=k1.data.size+1;rw [yT]
  have b2:Rows.uptoBulk y2.1=1:=by rw [d2];rfl
  refine ⟨⟨k0,k1,k2⟩,?_,?_⟩
  ·exact ⟨_,_,rfl,(by simp [aB,Value.oneCell']),⟨_,_,rfl,(by simp [aB,Value.oneCell']),⟨_,_,rfl,(by simp [aB,Value.oneCell']),rfl⟩⟩⟩
  simp only [dU.dat,dh,qx];omega
theorem apq:uh prog 36 4 [(31,0,1),(32,1,1),(33,2,1),(34,3,1)]:=⟨by kernel_rfl,by kernel_rfl,by kernel_rfl⟩
structure QV (s:wo) (n:Nat):Prop where
 st:eu (s.styles.map bS.dat)≤n
 li:eu (s.lists.map dR.dat)≤n
 cm:eu (s.comments.map jl.dat)≤n
 va:eu (s.vars.map oh.dat)≤n
theorem QV.zn {s:wo} {n:Nat} (h:QV s n) (hn:n≤4294967296):Ld s∧s.styles.length≤4294967296:=by
 obtain ⟨h1,h2,h3,h4⟩:=h;have l1:=nC (s.styles.map bS.dat);have l2:=nC (s.lists.map dR.dat);have l3:=nC (s.comments.map jl.dat);have l4:=nC (s.vars.map oh.dat);rw [bN] at l1 l2 l3 l4;refine ⟨⟨fun x hx=>?_,by omega,fun x hx y hy=>?_,by omega,fun x hx=>?_,by omega,fun x hx=>?_,fun x hx=>?_,fun x hx=>?_⟩,by omega⟩
 ·have:=Et (dat:=bS.dat) hx
  simp only [bS.dat,dh,qx] at this;omega
 ·have:=Et (dat:=dR.dat) hx
  simp only [dR.dat,dh,qx] at this
  have h5:=Et (dat:=qC.dat) hy
  simp only [qC.dat,dh,qx] at h5;omega
 ·have:=Et (dat:=jl.dat) hx
  simp only [jl.dat,dh,qx] at this;omega
 ·have:=Et (dat:=oh.dat) hx
  simp only [oh.dat,dh,qx] at this;omega
 ·have:=Et (dat:=bS.dat) hx;have h5:=nC (x.props.map jX.dat);rw [bN] at h5
  simp only [bS.dat,dh,qx] at this;omega
 have:=Et (dat:=dR.dat) hx;have h5:=nC (x.levels.map qC.dat);rw [bN] at h5
 simp only [dR.dat,dh,qx] at this;omega
theorem aol {n:Nat} {cs:List aj} {x:DataW H × List MemPlace} (h:DataW.trod enc prog W base spare held n 36 cs=some x):∃ (s:wo) (a b c d:aj),cs=[a,b,c,d]∧Dp (rF W) s a b c d∧QV s (8*Rows.uptoBulk x.1):=by
 obtain ⟨xs,m,hx,hl,hxl,hf⟩:=vO apq h
 match cs,hl,xs,hxl with
 | [c0,c1,c2,c3],_,[y0,y1,y2,y3],_ =>
  have h0:=hf 0 _ _ _ rfl;have h1:=hf 1 _ _ _ rfl;have h2:=hf 2 _ _ _ rfl;have h3:=hf 3 _ _ _ rfl;obtain ⟨k0,q0,e0,r0,d0⟩:=wZ (dat:=bS.dat) (sz:=6) (by omega) underlying31 afw h0 (fun n cs' D Pl hh _=>aom hh);obtain ⟨k1,q1,e1,r1,d1⟩:=wZ (dat:=dR.dat) (sz:=2) (by omega) underlying32 afr h1 (fun n cs' D Pl hh _=>aoj hh);obtain ⟨k2,q2,e2,r2,d2⟩:=wZ (dat:=jl.dat) (sz:=6) (by omega) underlying33 afo h2 (fun n cs' D Pl hh _=>aod hh);obtain ⟨k3,q3,e3,r3,d3⟩:=wZ (dat:=oh.dat) (sz:=2) (by omega) underlying34 afy h3 (fun n cs' D Pl hh _=>aon hh)
  simp at e0 e1 e2 e3
  subst e0 e1 e2 e3
  have hD:Rows.uptoBulk x.1=Rows.uptoBulk y0.1+(Rows.uptoBulk y1.1+(Rows.uptoBulk y2.1+(Rows.uptoBulk y3.1+0)))+1:=by rw [hx];simp only [dW,sZ,Rows.uptoBulk,Rows.uptoBulkAll]
  exact ⟨⟨k0,k1,k2,k3⟩,_,_,_,_,rfl,⟨r0,r1,r2,r3⟩,⟨by show eu (k0.map _)≤_;omega,by show eu (k1.map _)≤_;omega,by show eu (k2.map _)≤_;omega,by show eu (k3.map _)≤_;omega⟩⟩
theorem acQ:uh prog 38 11 [(22,0,1),(29,1,5),(30,6,1),(36,7,4)]:=⟨by kernel_rfl,by kernel_rfl,by kernel_rfl⟩
theorem Er {G:GH} {sz:Nat} {rs:List (List Dat)} {v:aj} (h:aB G (.sl sz rs) v):∃ x,v=bg x:=by
 obtain ⟨a,n,c,rfl⟩:=h.form;exact ⟨(a,n,c),rfl⟩
theorem aof {n:Nat} {cs:List aj} {x:DataW H × List MemPlace} (h:DataW.trod enc prog W base spare held n 38 cs=some x) (hb:Rows.uptoBulk x.1≤1048576):∃ (D:jP) (d:oC),cs=D.cells∧yO (rF W) D d∧IV d:=by
 obtain ⟨xs,m,hx,hl,hxl,hf⟩:=vO acQ h
 match cs,hl,xs,hxl with
 | [c0,c1,c2,c3,c4,c5,c6,c7,c8,c9,c10],_,[y0,y1,y2,y3],_ =>
  have h0:=hf 0 _ _ _ rfl;have h1:=hf 1 _ _ _ rfl;have h2:=hf 2 _ _ _ rfl;have h3:=hf 3 _ _ _ rfl;obtain ⟨l,q0,e0,r0,d0⟩:=aog h0;obtain ⟨hd,p,dd,ll,e1,r1,d1⟩:=P9 h1;obtain ⟨rv,q2,e2,r2,d2⟩:=wZ (dat:=dU.dat) (sz:=3) (by omega) underlying30 afv h2 (fun n cs' D Pl hh _=>aok hh);obtain ⟨s,a,b,c,d,e3,r3,d3⟩:=aol h3
  simp at e0 e1 e2 e3
  obtain ⟨rfl,rfl,rfl,rfl,rfl⟩:=e1;obtain ⟨rfl,rfl,rfl,rfl⟩:=e3;subst e0 e2
  have hD:Rows.uptoBulk x.1=Rows.uptoBulk y0.1+(Rows.uptoBulk y1.1+(Rows.uptoBulk y2.1+(Rows.uptoBulk y3.1+0)))+1:=by rw [hx];simp only [dW,sZ,Rows.uptoBulk,Rows.uptoBulkAll]
  obtain ⟨x0,rfl⟩:=Er r0;obtain ⟨x1,rfl⟩:=Er r1.props;obtain ⟨x2,rfl⟩:=Er r1.bJ;obtain ⟨x3,rfl⟩:=Er r1.layers;obtain ⟨x4,rfl⟩:=Er r2;obtain ⟨x5,rfl⟩:=Er r3.st;obtain ⟨x6,rfl⟩:=Er r3.li;obtain ⟨x7,rfl⟩:=Er r3.cm;obtain ⟨x8,rfl⟩:=Er r3.va;obtain ⟨hz1,hz2⟩:=d3.zn (by omega);have l2:=nC (rv.map dU.dat);rw [bN] at l2;refine ⟨⟨x0,x1,x2,x3,x4,x5,x6,x7,x8,hd.marks.ins,hd.marks.move⟩,⟨l,hd,rv,s⟩,rfl,⟨r0,r1,rfl,rfl,r2,r3⟩,⟨by show bB l≤_;omega,by show pU hd≤_;omega,by show rv.length≤_;omega,fun x hx=>?_,hz2,hz1⟩⟩;have:=Et (dat:=dU.dat) hx
  simp only [dU.dat,dh,qx] at this
  omega
end
end
end Go.Proofs.YthmanofbmnfemaaGreat
