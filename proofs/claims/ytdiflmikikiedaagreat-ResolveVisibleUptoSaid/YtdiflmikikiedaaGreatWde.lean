/-
  What the claim stands on, part 5: Chd Ck13 Nf Vc Ubf Av16 Frs Hds Np13 Nq13 Rs24 Iat Bi13 Mk24 Mg24 Gco De24 Dnn Rw24 Ni13 Mn Lay Srt Ms Ids Usd.
-/
import Derived.Test.YtdiflmikikiedaaGreatWdd
import Derived.Shelf.SlIterI.Nil
import Derived.Shelf.SortM.Plain
import Derived.Shelf.SortM.SortNone
namespace Go.Proofs.YtdiflmikikiedaaGreat
open Go.Proofs.Tryz
open Go.RowKit
theorem aix:∀ args w,(callFunc 69 args).run prog w=.ok (.enter 69 args) w:=enters func69 rfl (by kernel_rfl)
theorem Ar:Ty prog 36 4 96 [.slice none 0 0,.slice none 0 0,.slice none 0 0,.slice none 0 0] true:=⟨by kernel_rfl,by kernel_rfl⟩
theorem aiv:∀ args w,(callFunc 67 args).run prog w=.ok (.enter 67 args) w:=enters func67 rfl (by kernel_rfl)
theorem aiw:∀ args w,(callFunc 68 args).run prog w=.ok (.enter 68 args) w:=enters func68 rfl (by kernel_rfl)
theorem Ed:dH prog 38 1 1:=⟨by kernel_rfl⟩
theorem Rw (e:Int):dR [e]=e:=by
 by_cases h:e=0 <;> simp [dR,h]
structure jG where
 flow:List ay
 fin:dM
 revs:List dh
 lI:AU
structure oK (G:GH) (D:jV) (d:jG):Prop where
 fl:av G (.sl 11 (d.flow.map ay.dat)) (cB D.f)
 hd:jd G d.fin (cB D.p) (cB D.d) (cB D.y)
 ins:D.ins=d.fin.marks.ins
 mv:D.move=d.fin.marks.move
 rv:av G (.sl 3 (d.revs.map dh.dat)) (cB D.r)
 st:zF G d.lI (cB D.s1) (cB D.s2) (cB D.s3) (cB D.s4)
theorem zF.mono {G G':GH} (hm:∀ b o,G b=some o→G' b=some o) {s:AU} {a b c d:aj} (h:zF G s a b c d):zF G' s a b c d:=⟨h.st.mono hm,h.li.mono hm,h.cm.mono hm,h.va.mono hm⟩
theorem oK.mono {G G':GH} (hm:∀ b o,G b=some o→G' b=some o) {D:jV} {d:jG} (h:oK G D d):oK G' D d:=⟨h.fl.mono hm,h.hd.mono hm,h.ins,h.mv,h.rv.mono hm,h.st.mono hm⟩
structure Cb (d:jG):Prop where
 fl:bK d.flow≤1073741824
 hd:lW d.fin≤4294967296
 rn:d.revs.length≤4294967296
 rt:∀ x∈d.revs,x.author.size < 4611686018427387904
 sn:d.lI.styles.length≤4294967296
 st:Qb d.lI
abbrev jG.oO (d:jG):bO:=bC [] d.lI.styles d.lI.lists d.revs
def sO (m:yM):Bool:=decide ((m.ins≠0∨m.move≠0)∨0 < (m.bE.length:Int))
def jN (d:jG):Int:=dR [dR [JL d.lI,Fy d.revs],dR [iD d.oO 3 d.fin,dw (sO d.fin.marks) 21],(jF d.oO true false 0 d.flow ⟨0,[]⟩).1,dw (decide (16384 < (jF d.oO true false 0 d.flow ⟨0,[]⟩).2.n)) 9]
theorem aeT (G:GH) (w0:World) (hG:Hold G w0) (D:jV) (d:jG) (hR:oK G D d) (hz:Cb d) :
  Calls prog 21 #[D.val] w0 (aZ w0 G fun u G'=>u=vi (jN d)):=by
 obtain ⟨df,dp,dd,dy,dr,d1,d2,d3,d4,ins,mv⟩:=D;obtain ⟨hfl,hhd,hin,hmv,oV,hst⟩:=hR;dsimp only at hfl hhd hin hmv oV hst;subst hin;subst hmv;obtain ⟨zf,zh,zr,zt,zs,zg⟩:=hz;have hdl:=hhd.bE.len;rw [bG] at hdl
 have hdn:d.fin.marks.bE.length≤4294967296:=by
  have h1:=ET d.fin;have h2:=qH (d.fin.marks.bE.map gq.dat);rw [bG] at h2;omega
 refine eN [(0,_)] func21 rfl ntmps21 rfl rfl hG ?_;intro a H;refine cu (fun _ K1=>?_);refine dQ (cs:=[_,_,_,_,_,_,_,_,_,_,_]) H wn rfl rfl rfl ?_;clear H;intro b1 a w hb1 H;refine kH H (ak K1 rfl (SQ fun _ K2=>SQ fun _ K3=>?_));clear H K1;intro a H;refine dI hmx [[],[0],[0,1],[],[3],(ra 0 5),(ra 0 6),(ra 0 7),(ra 0 8)] [6,7,8] (by kernel_rfl) [_,.agg #[cB d1,cB d2,cB d3,cB d4],vi (JL d.lI),_,cB dr,vi (Fy d.revs)] H (aF (Z0 rfl (Rf J6 rfl)) ?_ ?_ (Z0 rfl (Rf Ee rfl)) (aF (Z1 3 11 rfl (Ro yJ 0 rfl)) ?_ (bS rfl) (bS rfl) (bR (bS rfl) dz))) ?_
 ·refine fq 0 8 rfl rfl fun _ a w G1 hG HT H fin=>?_;refine bL Ar (cs:=[_,_,_,_]) H wn rfl rfl (H.hp.cO 0 rfl rfl) rfl ?_;clear H;intro a H;exact fin H iJ rfl
 ·refine fq 1 9 rfl rfl fun _ a w G1 hG HT H fin=>?_;refine s_call aiv H wn rfl (aeR _ _ H.ro d.lI _ _ _ _ (hst.mono hG) zg) rfl ?_;clear H;rintro v10 Ce a w rfl qU H;exact fin H qU (rfl)
 ·refine fq 4 12 rfl rfl fun _ a w G1 hG HT H fin=>?_;refine s_call aiw H wn rfl (aeQ _ _ H.ro d.revs _ (oV.mono hG) zr zt) rfl ?_;clear H;rintro v13 EX a w rfl Kh H;exact fin H Kh (rfl)
 clear H;intro a w G nu H hv;have H:=H.aM (hv 2 10 rfl rfl) rfl;have H:=H.aM (hv 5 13 rfl rfl) rfl;clear hv;refine iE qI iA [_,_] [_,_] H wn rfl rfl rfl rfl rfl (by intro i q h;match i,h with|0,h=>exact h|1,h=>exact h|n+2,h=>simp at h) rfl rfl ?_;clear H;intro b14 a w Np H;obtain ⟨Aw,yY,Sz,H⟩:=H.eH;have hg1:=fun b o h=>yY b o (nu b o h);replace hfl:=hfl.mono hg1;replace hhd:=hhd.mono hg1;replace oV:=oV.mono hg1;replace hst:=hst.mono hg1;refine s_call rQ H wn rfl (rT _ _ H.ro _ _ (zu Sz)) rfl ?_;clear H;rintro v15 _ a w ⟨rfl,rfl⟩ - H;refine kH H (Ra rfl ?_);clear H;intro a H;refine aD ⟨rfl,?_⟩;refine K3 _ _ ?_;clear K3;refine kP H (SR fun _ K4=>Rm rfl (Rc rfl (Kz K4 (Cd rfl ?_ ?_)))) <;> clear H K4
 ·intro eX a H
  try have nA:=dT eX
  have hE:jN d=dR [JL d.lI,Fy d.revs]:=by rw [jN,dR,au nA]
  exact kP H (SR fun _ K5=>Rm rfl (ak K5 rfl (LR results21 rfl fun H=>H.rt (by rw [hE]))))
 intro eX a H
 try have nA:=dF eX
 have e1:=nV.1 nA;have s1:=mg e1 _ gJ;have s2:=mg e1 _ (iQ _ gJ);have t1:=mg s1 _ gJ;have t2:=mg s1 _ (iQ _ gJ);refine gU ?_;refine K2 _ _ ?_;clear K2;refine cu (fun _ K6=>?_);refine bL kG (cs:=[_,_,_,_,_,_,_,_,_,_,_]) H wn rfl rfl (H.hp.cO 0 rfl rfl) rfl ?_;clear H;intro a H;refine gH aix (Li:=[_]) (L:=[]) H wn rfl (anI _ _ (Hp.owns (Li:=[_]) H.hp) ⟨df,dp,dd,dy,dr,d1,d2,d3,d4,d.fin.marks.ins,d.fin.marks.move⟩ d.lI.styles d.lI.lists d.revs hst.st hst.li oV (ard t1) (anf t2) (aoX s2) zs zg.ln zr) rfl ?_;clear H;rintro v20 EZ _ a w ⟨b,ms,ml,mr,mb,mu,rfl,rfl,hck⟩ qB H;dsimp only [lca,bJ] at H;have H:=H.dY (Pl:=[_,_,_,_]) (dK:=[_,_,_,_]) [3,0,1,2] (by decide) rfl;obtain ⟨Gu,hmu,hu,H⟩:=H.eH;replace hck:=hck.with (us:=[]) hmu hu;replace hfl:=(hfl.mono qB).mono hmu;replace hhd:=(hhd.mono qB).mono hmu;refine kH H (ak K6 rfl (SR fun _ K7=>Rf Ed rfl (Rf lZ rfl ?_)));clear H K6;intro a H;refine bL Dx (cs:=[_,_,_,_]) H wn rfl rfl (H.hp.cO 0 rfl rfl) rfl ?_;clear H;intro a H;refine dS Dx H wn rfl ?_;clear H;intro b5 a w hb5 H;refine bD Dx 0 (vs:=[_,_,_,_]) _ H wn rfl rfl rfl rfl rfl rfl rfl rfl ?_;clear H;intro w H;dsimp only [List.set,setRow] at H;refine K7 _ _ ?_;clear K7;refine bN (fun _ K8=>?_);refine bN (fun _ K9=>?_)
 by_cases c0:d.fin.marks.ins≠0
 ·skip;have c1:d.fin.marks.ins≠0∨d.fin.marks.move≠0:=Or.inl c0;refine dI hmx [[],[],[1],[0,1,2],[],[4],[4,5],(ra 0 7),(ra 0 8),(ra 0 9),(ra 0 10),(ra 0 11),(ra 0 12),(ra 0 13),(ra 0 14),(ra 0 15),(ra 0 16),(ra 0 17),(ra 0 18),(ra 0 19),(ra 0 20),(ra 0 21)] [19,20,21] (by kernel_rfl) [_,_,qV d.fin (cB dp) (cB dd) (cB dy),vi (iD d.oO 3 d.fin),_,vi d.fin.marks.ins,_,_,undef,undef,undef,.bool (decide (d.fin.marks.ins≠0∨d.fin.marks.move≠0)),_,undef,undef,undef,undef,.bool (sO d.fin.marks),vi (dw (sO d.fin.marks) 21)] H (aF (Z0 rfl (Rm rfl)) (Z0 rfl (Rf Ed rfl)) ?_ ?_ (aF (Z0 rfl (Rf rR rfl)) (Z1 4 28 rfl (Ro aH 0 rfl)) (Z1 5 29 rfl (Rc rfl)) (Z1 6 30 rfl (Rm rfl)) (aF (aV 7 (aG c0) rfl rfl) (aV 7 (aG c0) rfl rfl) (aV 7 (aG c0) rfl rfl) ?_ (aF (Z1 11 35 rfl (Rm rfl)) (aV 12 (aG c1) rfl rfl) (aV 12 (aG c1) rfl rfl) (aV 12 (aG c1) rfl rfl) (aF (aV 12 (aG c1) rfl rfl) ?_ ?_ (bS rfl) (bR (bS rfl) (bR (bS rfl) dz))))))) ?_
  ·refine fq 1 25 rfl rfl fun _ a w G1 hG HT H fin=>?_;refine bL eu (cs:=[_,_,_,_,_]) H wn rfl rfl (H.hp.cO 1 rfl rfl) rfl ?_;clear H;intro a H;exact fin H iJ rfl
  ·refine dJ 0 24 2 26 rfl rfl fun _ a w G1 hG HT H fin=>?_;refine gH Ii (Li:=[_,_]) (L:=gB b ms ml mr mb mu 0 :: (mb,fD []) :: []) H wn rfl (Iw _ _ _ d.lI.styles d.lI.lists d.revs b ms ml mr mb mu _ (hck.mono hG) (Hp.owns (Li:=[_,_]) H.hp) 3 d.fin _ _ _ (hhd.mono hG) zh) rfl ?_;clear H;rintro v27 _ _ a w ⟨rfl,rfl,rfl⟩ Ki H;dsimp only [lca,bJ] at H;exact fin H Ki (rfl)
  ·refine dJ 7 31 10 34 rfl rfl fun _ a w G1 hG HT H fin=>?_;refine kH H (Pt (aG c0) rfl ?_);clear H;intro a H;exact fin H iJ (by show _=_;first|exact dL (aG c1).symm|exact dL (by simp [c0]))
  ·refine dJ 12 36 16 40 rfl rfl fun _ a w G1 hG HT H fin=>?_;refine kH H (Pt (aG c1) rfl ?_);clear H;intro a H;exact fin H iJ (by show _=_;first|exact dL (jM (Or.inl c1)).symm|exact dL (by simp [sO,c1]))
  ·refine fq 17 41 rfl rfl fun _ a w G1 hG HT H fin=>?_;refine s_call jO H wn rfl (jQ _ _ H.ro _ 21) rfl ?_;clear H;rintro v42 Mi a w ⟨rfl,-⟩ Kj H;exact fin H Kj (rfl)
  clear H;intro a w G iL H hv;have H:=H.aM (hv 3 27 rfl rfl) rfl;have H:=H.aM (hv 18 42 rfl rfl) rfl;clear hv;refine iE qI iA [_,_] [_,_] H wn rfl rfl rfl rfl rfl (by intro i q h;match i,h with|0,h=>exact h|1,h=>exact h|n+2,h=>simp at h) rfl rfl ?_;clear H;intro WY a w Zk H;obtain ⟨Mj,Ep,Ky,H⟩:=H.eH;have Em:=fun b o h=>Ep b o (iL b o h);replace hfl:=hfl.mono Em;replace hck:=hck.mono Em;refine s_call rQ H wn rfl (rT _ _ H.ro _ _ (zu Ky)) rfl ?_;clear H;rintro v44 _ a w ⟨rfl,rfl⟩ - H;refine kH H (Ra rfl ?_);clear H;intro a H;refine aD ⟨rfl,?_⟩;refine K9 _ _ ?_;clear K9;refine kP H (SR fun _ aR=>Rm rfl (Rc rfl (Kz aR (Cd rfl ?_ ?_)))) <;> clear H aR
  ·intro h46 a H
   try have p46:=dT h46
   have hE:jN d=dR [iD d.oO 3 d.fin,dw (sO d.fin.marks) 21]:=by rw [jN,dR,ah (by simpa using e1),dR,au p46]
   exact kP H (SR fun _ bQ=>Rm rfl (ak bQ rfl (LR results21 rfl fun H=>H.rt (by rw [hE]))))
  intro h46 a H
  try have p46:=dF h46
  have e2:=nV.1 p46;refine kP H (Kc K8 (SQ fun _ bY=>SR fun _ cZ=>Rm rfl (aY vG jc 1 rfl rfl ?_)));clear H K8;intro a H;refine jm EO [_,_,_] H wn rfl rfl rfl rfl ?_;clear H;intro a H;refine gH JX (Li:=[_,_]) (L:=gB b ms ml mr mb mu 0 :: (mb,fD []) :: []) H wn rfl (N8 4294967297 (by omega) _ _ _ d.lI.styles d.lI.lists d.revs b ms ml mr mb mu ⟨0,[]⟩ d.flow _ true false 0 hck (Hp.owns (Li:=[_,_]) H.hp) hfl (by omega) (by omega) (by omega) (by decide) (by dsimp only;omega)) rfl ?_;clear H;rintro v52 _ _ a w ⟨rfl,s3,rfl,rfl,h3⟩ - H;dsimp only [lca,bJ] at H;refine kH H (ak cZ rfl (SR fun _ dG=>Rm rfl (Rc rfl (Kz dG (Cd rfl ?_ ?_))))) <;> clear H cZ dG
  ·intro gL a H
   try have p54:=dT gL
   have hE:jN d=(jF d.oO true false 0 d.flow ⟨0,[]⟩).1:=by rw [jN,dR,ah (by simpa using e1),dR,ah (by simpa using e2),dR,au p54]
   exact kP H (SR fun _ dZ=>Rm rfl (ak dZ rfl (LR results21 rfl fun H=>H.rt (by rw [hE]))))
  intro gL a H
  try have p54:=dF gL
  have e3:=nV.1 p54;have hs3:=h3 e3;subst hs3;refine kP H (Kc bY (SR fun _ eB=>Rm rfl (Rk rfl (aY FE aH 2 rfl rfl (Rc rfl ?_)))));clear H bY;intro a H;refine s_call jO H wn rfl (jQ _ _ H.ro _ 9) rfl ?_;clear H;rintro v61 _ a w ⟨rfl,rfl⟩ - H
  have hE:jN d=dw (decide (16384 < (jF d.oO true false 0 d.flow ⟨0,[]⟩).2.n)) 9:=by rw [jN,dR,ah (by simpa using e1),dR,ah (by simpa using e2),dR,ah (by simpa using e3)];exact Rw _
  exact kH H (ak eB rfl (LR results21 rfl fun H=>H.rt (by rw [hE])))
 skip
 by_cases c1:d.fin.marks.ins≠0∨d.fin.marks.move≠0
 ·skip;refine dI hmx [[],[],[1],[0,1,2],[],[4],[4,5],(ra 0 7),(ra 0 8),(ra 0 9),(ra 0 10),(ra 0 11),(ra 0 12),(ra 0 13),(ra 0 14),(ra 0 15),(ra 0 16),(ra 0 17),(ra 0 18),(ra 0 19),(ra 0 20),(ra 0 21)] [19,20,21] (by kernel_rfl) [_,_,qV d.fin (cB dp) (cB dd) (cB dy),vi (iD d.oO 3 d.fin),_,vi d.fin.marks.ins,_,_,_,vi d.fin.marks.move,_,.bool (decide (d.fin.marks.ins≠0∨d.fin.marks.move≠0)),_,undef,undef,undef,undef,.bool (sO d.fin.marks),vi (dw (sO d.fin.marks) 21)] H (aF (Z0 rfl (Rm rfl)) (Z0 rfl (Rf Ed rfl)) ?_ ?_ (aF (Z0 rfl (Rf rR rfl)) (Z1 4 28 rfl (Ro aH 0 rfl)) (Z1 5 29 rfl (Rc rfl)) (Z1 6 30 rfl (Rm rfl)) (aF (Z1 7 31 rfl (YF Bd (aS c0) rfl)) (Z2 8 32 7 31 rfl (YO aH 0 (aS c0) rfl)) (Z2 9 33 7 31 rfl (YC (aS c0) rfl)) ?_ (aF (Z1 11 35 rfl (Rm rfl)) (aV 12 (aG c1) rfl rfl) (aV 12 (aG c1) rfl rfl) (aV 12 (aG c1) rfl rfl) (aF (aV 12 (aG c1) rfl rfl) ?_ ?_ (bS rfl) (bR (bS rfl) (bR (bS rfl) dz))))))) ?_
  ·refine fq 1 25 rfl rfl fun _ a w G1 hG HT H fin=>?_;refine bL eu (cs:=[_,_,_,_,_]) H wn rfl rfl (H.hp.cO 1 rfl rfl) rfl ?_;clear H;intro a H;exact fin H iJ rfl
  ·refine dJ 0 24 2 26 rfl rfl fun _ a w G1 hG HT H fin=>?_;refine gH Ii (Li:=[_,_]) (L:=gB b ms ml mr mb mu 0 :: (mb,fD []) :: []) H wn rfl (Iw _ _ _ d.lI.styles d.lI.lists d.revs b ms ml mr mb mu _ (hck.mono hG) (Hp.owns (Li:=[_,_]) H.hp) 3 d.fin _ _ _ (hhd.mono hG) zh) rfl ?_;clear H;rintro v27 _ _ a w ⟨rfl,rfl,rfl⟩ Ki H;dsimp only [lca,bJ] at H;exact fin H Ki (rfl)
  ·refine dJ 7 31 10 34 rfl rfl fun _ a w G1 hG HT H fin=>?_;refine kH H (Pf (aS c0) rfl ?_);clear H;intro a H;exact fin H iJ (by show _=_;first|exact dL (aG c1).symm|exact dL (by simp [c0]))
  ·refine dJ 12 36 16 40 rfl rfl fun _ a w G1 hG HT H fin=>?_;refine kH H (Pt (aG c1) rfl ?_);clear H;intro a H;exact fin H iJ (by show _=_;first|exact dL (jM (Or.inl c1)).symm|exact dL (by simp [sO,c1]))
  ·refine fq 17 41 rfl rfl fun _ a w G1 hG HT H fin=>?_;refine s_call jO H wn rfl (jQ _ _ H.ro _ 21) rfl ?_;clear H;rintro v42 Mi a w ⟨rfl,-⟩ Kj H;exact fin H Kj (rfl)
  clear H;intro a w G iL H hv;have H:=H.aM (hv 3 27 rfl rfl) rfl;have H:=H.aM (hv 18 42 rfl rfl) rfl;clear hv;refine iE qI iA [_,_] [_,_] H wn rfl rfl rfl rfl rfl (by intro i q h;match i,h with|0,h=>exact h|1,h=>exact h|n+2,h=>simp at h) rfl rfl ?_;clear H;intro WY a w Zk H;obtain ⟨Mj,Ep,Ky,H⟩:=H.eH;have Em:=fun b o h=>Ep b o (iL b o h);replace hfl:=hfl.mono Em;replace hck:=hck.mono Em;refine s_call rQ H wn rfl (rT _ _ H.ro _ _ (zu Ky)) rfl ?_;clear H;rintro v44 _ a w ⟨rfl,rfl⟩ - H;refine kH H (Ra rfl ?_);clear H;intro a H;refine aD ⟨rfl,?_⟩;refine K9 _ _ ?_;clear K9;refine kP H (SR fun _ dW=>Rm rfl (Rc rfl (Kz dW (Cd rfl ?_ ?_)))) <;> clear H dW
  ·intro h46 a H
   try have p46:=dT h46
   have hE:jN d=dR [iD d.oO 3 d.fin,dw (sO d.fin.marks) 21]:=by rw [jN,dR,ah (by simpa using e1),dR,au p46]
   exact kP H (SR fun _ fC=>Rm rfl (ak fC rfl (LR results21 rfl fun H=>H.rt (by rw [hE]))))
  intro h46 a H
  try have p46:=dF h46
  have e2:=nV.1 p46;refine kP H (Kc K8 (SQ fun _ gQ=>SR fun _ fM=>Rm rfl (aY vG jc 1 rfl rfl ?_)));clear H K8;intro a H;refine jm EO [_,_,_] H wn rfl rfl rfl rfl ?_;clear H;intro a H;refine gH JX (Li:=[_,_]) (L:=gB b ms ml mr mb mu 0 :: (mb,fD []) :: []) H wn rfl (N8 4294967297 (by omega) _ _ _ d.lI.styles d.lI.lists d.revs b ms ml mr mb mu ⟨0,[]⟩ d.flow _ true false 0 hck (Hp.owns (Li:=[_,_]) H.hp) hfl (by omega) (by omega) (by omega) (by decide) (by dsimp only;omega)) rfl ?_;clear H;rintro v52 _ _ a w ⟨rfl,s3,rfl,rfl,h3⟩ - H;dsimp only [lca,bJ] at H;refine kH H (ak fM rfl (SR fun _ gV=>Rm rfl (Rc rfl (Kz gV (Cd rfl ?_ ?_))))) <;> clear H fM gV
  ·intro gL a H
   try have p54:=dT gL
   have hE:jN d=(jF d.oO true false 0 d.flow ⟨0,[]⟩).1:=by rw [jN,dR,ah (by simpa using e1),dR,ah (by simpa using e2),dR,au p54]
   exact kP H (SR fun _ jo=>Rm rfl (ak jo rfl (LR results21 rfl fun H=>H.rt (by rw [hE]))))
  intro gL a H
  try have p54:=dF gL
  have e3:=nV.1 p54;have hs3:=h3 e3;subst hs3;refine kP H (Kc gQ (SR fun _ lD=>Rm rfl (Rk rfl (aY FE aH 2 rfl rfl (Rc rfl ?_)))));clear H gQ;intro a H;refine s_call jO H wn rfl (jQ _ _ H.ro _ 9) rfl ?_;clear H;rintro v61 _ a w ⟨rfl,rfl⟩ - H
  have hE:jN d=dw (decide (16384 < (jF d.oO true false 0 d.flow ⟨0,[]⟩).2.n)) 9:=by rw [jN,dR,ah (by simpa using e1),dR,ah (by simpa using e2),dR,ah (by simpa using e3)];exact Rw _
  exact kH H (ak lD rfl (LR results21 rfl fun H=>H.rt (by rw [hE])))
 skip;refine dI hmx [[],[],[1],[0,1,2],[],[4],[4,5],(ra 0 7),(ra 0 8),(ra 0 9),(ra 0 10),(ra 0 11),(ra 0 12),(ra 0 13),(ra 0 14),(ra 0 15),(ra 0 16),(ra 0 17),(ra 0 18),(ra 0 19),(ra 0 20),(ra 0 21)] [19,20,21] (by kernel_rfl) [_,_,qV d.fin (cB dp) (cB dd) (cB dy),vi (iD d.oO 3 d.fin),_,vi d.fin.marks.ins,_,_,_,vi d.fin.marks.move,_,.bool (decide (d.fin.marks.ins≠0∨d.fin.marks.move≠0)),_,_,cB dd,vi d.fin.marks.bE.length,_,.bool (sO d.fin.marks),vi (dw (sO d.fin.marks) 21)] H (aF (Z0 rfl (Rm rfl)) (Z0 rfl (Rf Ed rfl)) ?_ ?_ (aF (Z0 rfl (Rf rR rfl)) (Z1 4 28 rfl (Ro aH 0 rfl)) (Z1 5 29 rfl (Rc rfl)) (Z1 6 30 rfl (Rm rfl)) (aF (Z1 7 31 rfl (YF Bd (aS c0) rfl)) (Z2 8 32 7 31 rfl (YO aH 0 (aS c0) rfl)) (Z2 9 33 7 31 rfl (YC (aS c0) rfl)) ?_ (aF (Z1 11 35 rfl (Rm rfl)) (Z1 12 36 rfl (YF pU (aS c1) rfl)) (Z2 13 37 12 36 rfl (YO qj 0 (aS c1) rfl)) ?_ (aF (Z2 15 39 12 36 rfl (YC (aS c1) rfl)) ?_ ?_ (bS rfl) (bR (bS rfl) (bR (bS rfl) dz))))))) ?_
 ·refine fq 1 25 rfl rfl fun _ a w G1 hG HT H fin=>?_;refine bL eu (cs:=[_,_,_,_,_]) H wn rfl rfl (H.hp.cO 1 rfl rfl) rfl ?_;clear H;intro a H;exact fin H iJ rfl
 ·refine dJ 0 24 2 26 rfl rfl fun _ a w G1 hG HT H fin=>?_;refine gH Ii (Li:=[_,_]) (L:=gB b ms ml mr mb mu 0 :: (mb,fD []) :: []) H wn rfl (Iw _ _ _ d.lI.styles d.lI.lists d.revs b ms ml mr mb mu _ (hck.mono hG) (Hp.owns (Li:=[_,_]) H.hp) 3 d.fin _ _ _ (hhd.mono hG) zh) rfl ?_;clear H;rintro v27 _ _ a w ⟨rfl,rfl,rfl⟩ Ki H;dsimp only [lca,bJ] at H;exact fin H Ki (rfl)
 ·refine dJ 7 31 10 34 rfl rfl fun _ a w G1 hG HT H fin=>?_;refine kH H (Pf (aS c0) rfl ?_);clear H;intro a H;exact fin H iJ (by show _=_;first|exact dL (aG c1).symm|exact dL (by simp [c0]))
 ·refine dJ 14 38 12 36 rfl rfl fun _ a w G1 hG HT H fin=>?_;refine kH H (YL lJ (aS c1) rfl ?_);clear H;intro a H;exact fin H iJ (by show _=_;first|rfl|exact aB (fun n:Nat=>vi n) hdl)
 ·refine dJ 12 36 16 40 rfl rfl fun _ a w G1 hG HT H fin=>?_;refine kH H (Pf (aS c1) rfl ?_);clear H;intro a H;exact fin H iJ (by show _=_;first|exact dL (jM (Or.inl c1)).symm|exact dL (by simp [sO,c1]))
 ·refine fq 17 41 rfl rfl fun _ a w G1 hG HT H fin=>?_;refine s_call jO H wn rfl (jQ _ _ H.ro _ 21) rfl ?_;clear H;rintro v42 Mi a w ⟨rfl,-⟩ Kj H;exact fin H Kj (rfl)
 clear H;intro a w G iL H hv;have H:=H.aM (hv 3 27 rfl rfl) rfl;have H:=H.aM (hv 18 42 rfl rfl) rfl;clear hv;refine iE qI iA [_,_] [_,_] H wn rfl rfl rfl rfl rfl (by intro i q h;match i,h with|0,h=>exact h|1,h=>exact h|n+2,h=>simp at h) rfl rfl ?_;clear H;intro WY a w Zk H;obtain ⟨Mj,Ep,Ky,H⟩:=H.eH;have Em:=fun b o h=>Ep b o (iL b o h);replace hfl:=hfl.mono Em;replace hck:=hck.mono Em;refine s_call rQ H wn rfl (rT _ _ H.ro _ _ (zu Ky)) rfl ?_;clear H;rintro v44 _ a w ⟨rfl,rfl⟩ - H;refine kH H (Ra rfl ?_);clear H;intro a H;refine aD ⟨rfl,?_⟩;refine K9 _ _ ?_;clear K9;refine kP H (SR fun _ kX=>Rm rfl (Rc rfl (Kz kX (Cd rfl ?_ ?_)))) <;> clear H kX
 ·intro h46 a H
  try have p46:=dT h46
  have hE:jN d=dR [iD d.oO 3 d.fin,dw (sO d.fin.marks) 21]:=by rw [jN,dR,ah (by simpa using e1),dR,au p46]
  exact kP H (SR fun _ kC=>Rm rfl (ak kC rfl (LR results21 rfl fun H=>H.rt (by rw [hE]))))
 intro h46 a H
 try have p46:=dF h46
 have e2:=nV.1 p46;refine kP H (Kc K8 (SQ fun _ lK=>SR fun _ lM=>Rm rfl (aY vG jc 1 rfl rfl ?_)));clear H K8;intro a H;refine jm EO [_,_,_] H wn rfl rfl rfl rfl ?_;clear H;intro a H;refine gH JX (Li:=[_,_]) (L:=gB b ms ml mr mb mu 0 :: (mb,fD []) :: []) H wn rfl (N8 4294967297 (by omega) _ _ _ d.lI.styles d.lI.lists d.revs b ms ml mr mb mu ⟨0,[]⟩ d.flow _ true false 0 hck (Hp.owns (Li:=[_,_]) H.hp) hfl (by omega) (by omega) (by omega) (by decide) (by dsimp only;omega)) rfl ?_;clear H;rintro v52 _ _ a w ⟨rfl,s3,rfl,rfl,h3⟩ - H;dsimp only [lca,bJ] at H;refine kH H (ak lM rfl (SR fun _ jL=>Rm rfl (Rc rfl (Kz jL (Cd rfl ?_ ?_))))) <;> clear H lM jL
 ·intro gL a H
  try have p54:=dT gL
  have hE:jN d=(jF d.oO true false 0 d.flow ⟨0,[]⟩).1:=by rw [jN,dR,ah (by simpa using e1),dR,ah (by simpa using e2),dR,au p54]
  exact kP H (SR fun _ oL=>Rm rfl (ak oL rfl (LR results21 rfl fun H=>H.rt (by rw [hE]))))
 intro gL a H
 try have p54:=dF gL
 have e3:=nV.1 p54;have hs3:=h3 e3;subst hs3;refine kP H (Kc lK (SR fun _ pI=>Rm rfl (Rk rfl (aY FE aH 2 rfl rfl (Rc rfl ?_)))));clear H lK;intro a H;refine s_call jO H wn rfl (jQ _ _ H.ro _ 9) rfl ?_;clear H;rintro v61 _ a w ⟨rfl,rfl⟩ - H
 have hE:jN d=dw (decide (16384 < (jF d.oO true false 0 d.flow ⟨0,[]⟩).2.n)) 9:=by rw [jN,dR,ah (by simpa using e1),dR,ah (by simpa using e2),dR,ah (by simpa using e3)];exact Rw _
 exact kH H (ak pI rfl (LR results21 rfl fun H=>H.rt (by rw [hE])))
def Ov (body note:Bool) (t k i:Int):Prop:=(k=3→body=true)∧(k=6→note=false)∧(k=7→t < 4)∧(k=8→1≤i∧i≤1073741824)
mutual
def nP (C:bO) (body note:Bool) (t:Int):ay→Prop
 | .mk k c i tx h f r=>kD (.mk k c i tx h f r)=0∧Ov body note t k i∧iD C k h=0∧(k=6→jy C false true t f)∧(k=7→(r.length≠0∧r.length≤256)∧mD C note (t+1) r)
def tY (C:bO) (note:Bool) (t:Int):aW→Prop
 | .mk h cs=>Dn C h cs.length=0∧ny C note t cs
def tX (C:bO) (note:Bool) (t:Int):aX→Prop
 | .mk _ h f=>iD C 10 h=0∧jy C false note t f
def jy (C:bO) (body note:Bool) (t:Int):List ay→Prop
 | []=>True
 | x :: l=>nP C body note t x∧jy C body note t l
def mD (C:bO) (note:Bool) (t:Int):List aW→Prop
 | []=>True
 | x :: l=>tY C note t x∧mD C note t l
def ny (C:bO) (note:Bool) (t:Int):List aX→Prop
 | []=>True
 | x :: l=>tX C note t x∧ny C note t l
end
theorem Dj {C:bO} {body note:Bool} {t:Int}:∀ {l:List ay},jy C body note t l↔∀ x∈l,nP C body note t x
 | []=>by simp [jy]
 | x :: l=>by rw [jy,Dj (l:=l)];simp
theorem Ot {C:bO} {note:Bool} {t:Int}:∀ {l:List aW},mD C note t l↔∀ x∈l,tY C note t x
 | []=>by simp [mD]
 | x :: l=>by rw [mD,Ot (l:=l)];simp
theorem Oo {C:bO} {note:Bool} {t:Int}:∀ {l:List aX},ny C note t l↔∀ x∈l,tX C note t x
 | []=>by simp [ny]
 | x :: l=>by rw [ny,Oo (l:=l)];simp
mutual
/-- The units that a check counts. -/
def uI:ay→Nat
 | .mk k _ _ tx _ f r=>(if k=1 then tq tx else 1)+(if k=6 then jK f else if k=7 then nT r else 0)
def uR:aW→Nat
 | .mk _ cs=>oJ cs
def uC:aX→Nat
 | .mk _ _ f=>jK f
def jK:List ay→Nat
 | []=>0
 | x :: l=>uI x+jK l
def nT:List aW→Nat
 | []=>0
 | x :: l=>uR x+nT l
def oJ:List aX→Nat
 | []=>0
 | x :: l=>uC x+oJ l
end
def jW (us bH ids:List Int):Prop:=(∀ i∈ids,(1≤i∧i≤1073741824)∧i∉us∧i∉bH)∧ids.Nodup
theorem jW.nil (us bH:List Int):jW us bH []:=⟨fun _ h=>(by cases h),List.nodup_nil⟩
theorem jW.app {us bH a b:List Int}:jW us bH (a++b)↔jW us bH a∧jW us (bH++a) b:=by
 unfold jW
 rw [List.nodup_append]
 constructor
 ·rintro ⟨h,h1,h2,h3⟩;exact ⟨⟨fun i hi=>h i (List.mem_append_left _ hi),h1⟩,fun i hi=>⟨(h i (List.mem_append_right _ hi)).1,(h i (List.mem_append_right _ hi)).2.1,fun hm=>(nH.1 hm).elim (h i (List.mem_append_right _ hi)).2.2 fun ha=>h3 i ha i hi rfl⟩,h2⟩
 rintro ⟨⟨h,h1⟩,h2,h3⟩;exact ⟨fun i hi=>(nH.1 hi).elim (h i) fun hb=>⟨(h2 i hb).1,(h2 i hb).2.1,fun hm=>(h2 i hb).2.2 (List.mem_append_left _ hm)⟩,h1,h3,fun i hi j hj e=>(h2 j hj).2.2 (List.mem_append_right _ (e ▸ hi))⟩
theorem jW.sub {us bH a b:List Int} (h:jW us bH a) (hs:b.Sublist a):jW us bH b:=⟨fun i hi=>h.1 i (hs.subset hi),hs.nodup h.2⟩
theorem D8 {r:CR} {f:CS→CR} {s':CS}:gF r f=(0,s')↔∃ m,r=(0,m)∧f m=(0,s'):=by
 constructor
 ·intro h;obtain ⟨h1,h2⟩:=mI h;exact ⟨r.2,Prod.ext h1 rfl,h2⟩
 rintro ⟨m,rfl,h⟩;rw [HZ rfl];exact h
theorem xU {e:Int} {s m:CS}:((e,s):CR)=(0,m)↔e=0∧m=s:=by rw [iG,@eq_comm _ s m]
theorem TS {C:bO} {s m:CS} {x:Int}:kM C s x=(0,m)↔jW C.us s.bH [x]∧m=⟨s.n,s.bH++[x]⟩:=by
 unfold kM
 rw [xU]
 have he:qE C.us s.bH x=0↔jW C.us s.bH [x]:=by
  unfold qE jW
  by_cases h0:¬ (1≤x∧x≤1073741824)∨x∈C.us
  ·rw [au h0];refine ⟨fun h=>(by cases h),fun h=>?_⟩;have:=h.1 x (List.mem_singleton_self _);exact absurd h0 (by rintro (h1|h1);exact h1 this.1;exact this.2.1 h1)
  rw [ah h0]
  by_cases h1:x∈s.bH
  ·rw [au h1];exact ⟨fun h=>(by cases h),fun h=>absurd h1 (h.1 x (List.mem_singleton_self _)).2.2⟩
  rw [ah h1];refine ⟨fun _=>⟨fun i hi=>?_,by simp⟩,fun _=>rfl⟩;rw [uE.1 hi];exact ⟨nV.1 fun h=>h0 (.inl h),fun h=>h0 (.inr h),h1⟩
 rw [he]
 constructor
 ·rintro ⟨h,rfl⟩;exact ⟨h,by rw [kL,au (he.2 h)]⟩
 rintro ⟨h,rfl⟩;exact ⟨h,by rw [kL,au (he.2 h)]⟩
theorem yL {b:Bool} {e:Int} (he:e≠0):dw b e=0↔b=false:=by cases b <;> simp [dw,he]
theorem aow {C:bO} {body note:Bool} {t k i:Int} {s m:CS}:mV C body note t k i s=(0,m)↔Ov body note t k i∧jW C.us s.bH (if k=6∨k=7 then [i] else [])∧m=⟨s.n,s.bH++(if k=6∨k=7 then [i] else [])⟩:=by
 unfold mV Ov
 by_cases h3:k=3
 ·subst h3;rw [au rfl,xU,yL (by decide)];cases body <;> simp [jW.nil]
 rw [ah h3]
 by_cases h6:k=6
 ·subst h6;rw [au rfl,D8]
  simp only [xU,yL (show (19:Int)≠0 by decide),TS]
  constructor
  ·rintro ⟨_,⟨h1,rfl⟩,h2,h4⟩;exact ⟨⟨fun h=>absurd h (by decide),fun _=>h1,fun h=>absurd h (by decide),fun h=>absurd h (by decide)⟩,by simpa using h2,by simpa using h4⟩
  rintro ⟨⟨-,h1,-,-⟩,h2,h4⟩;exact ⟨s,⟨h1 trivial,rfl⟩,by simpa using h2,by simpa using h4⟩
 rw [ah h6]
 by_cases h7:k=7
 ·subst h7;rw [au rfl,D8]
  simp only [xU,yL (show (17:Int)≠0 by decide),TS,ni,Int.not_le]
  constructor
  ·rintro ⟨_,⟨h1,rfl⟩,h2,h4⟩;exact ⟨⟨fun h=>absurd h (by decide),fun h=>absurd h (by decide),fun _=>h1,fun h=>absurd h (by decide)⟩,by simpa using h2,by simpa using h4⟩
  rintro ⟨⟨-,-,h1,-⟩,h2,h4⟩;exact ⟨s,⟨h1 trivial,rfl⟩,by simpa using h2,by simpa using h4⟩
 rw [ah h7,ah (show ¬ (k=6∨k=7) by omega),jf]
 by_cases h8:k=8
 ·rw [au h8,xU,yL (by decide)]
  simp [h3,h6,h7,h8,jW.nil]
 rw [ah h8,xU];simp [h3,h6,h7,h8,jW.nil]
theorem apd {n:Nat} {f:CS→CR} {s s':CS}:mE n f s=(0,s')↔(n≠0∧n≤256)∧f s=(0,s'):=by
 unfold mE
 split
 ·rename_i h;simp [h]
 rename_i h
 split
 ·rename_i h2;simp [show ¬ n≤256 by omega]
 rename_i h2;simp [h,show n≤256 by omega]
mutual
theorem aeX (C:bO) (body note:Bool) (t:Int):∀ (x:ay) (s s':CS),fH C body note t x s=(0,s')↔nP C body note t x∧jW C.us s.bH (qD x)∧s'=⟨s.n+(uI x:Nat),s.bH++qD x⟩
 | .mk k c i tx h f r,s,s'=>by
  have hf:=JM C false true t f;have hr:=Xo C note (t+1) r;rw [fH,nP,qD,uI]
  simp only [D8,xU,aow]
  by_cases h6:k=6
  ·subst h6
   simp only [if_true,hf,jW.app,true_or,ah (show ¬ (6:Int)=7 by decide),ah (show ¬ (6:Int)=1 by decide),jf]
   constructor
   ·rintro ⟨_,⟨h1,rfl⟩,_,⟨h2,h3,rfl⟩,_,⟨h4,rfl⟩,h5,h7,rfl⟩;exact ⟨⟨h1,h2,h4,fun _=>h5,fun h=>absurd h (by decide)⟩,⟨h3,h7⟩,by rw [iW];congr 1;push_cast;omega⟩
   rintro ⟨⟨h1,h2,h4,h5,-⟩,⟨h3,h7⟩,rfl⟩;exact ⟨s,⟨h1,rfl⟩,_,⟨h2,h3,rfl⟩,_,⟨h4,rfl⟩,h5 trivial,h7,by rw [iW];congr 1;push_cast;omega⟩
  by_cases h7:k=7
  ·subst h7
   simp only [if_true,apd,hr,jW.app,or_true,ah (show ¬ (7:Int)=6 by decide),ah (show ¬ (7:Int)=1 by decide),mZ]
   constructor
   ·rintro ⟨_,⟨h1,rfl⟩,_,⟨h2,h3,rfl⟩,_,⟨h4,rfl⟩,h0,h5,h8,rfl⟩;exact ⟨⟨h1,h2,h4,fun h=>absurd h (by decide),fun _=>⟨h0,h5⟩⟩,⟨h3,h8⟩,by rw [iW];congr 1;push_cast;omega⟩
   rintro ⟨⟨h1,h2,h4,-,h5⟩,⟨h3,h8⟩,rfl⟩;exact ⟨s,⟨h1,rfl⟩,_,⟨h2,h3,rfl⟩,_,⟨h4,rfl⟩,(h5 trivial).1,(h5 trivial).2,h8,by rw [iW];congr 1;push_cast;omega⟩
  simp only [ah h6,ah h7,ah (show ¬ (k=6∨k=7) by omega),jf,xU]
  constructor
  ·rintro ⟨_,⟨h1,rfl⟩,_,⟨h2,h3,rfl⟩,_,⟨h4,rfl⟩,-,rfl⟩;exact ⟨⟨h1,h2,h4,fun h=>absurd h h6,fun h=>absurd h h7⟩,jW.nil _ _,by simp⟩
  rintro ⟨⟨h1,h2,h4,-,-⟩,h3,rfl⟩;exact ⟨s,⟨h1,rfl⟩,_,⟨h2,jW.nil _ _,rfl⟩,_,⟨h4,rfl⟩,aC,by simp⟩
theorem aeY (C:bO) (note:Bool) (t:Int):∀ (x:aW) (s s':CS),zk C note t x s=(0,s')↔tY C note t x∧jW C.us s.bH (uQ x)∧s'=⟨s.n+(uR x:Nat),s.bH++uQ x⟩
 | .mk h cs,s,s'=>by
  have hc:=Xn C note t cs;rw [zk,tY,uQ,uR]
  simp only [D8,xU,hc]
  constructor
  ·rintro ⟨_,⟨h1,rfl⟩,h2,h3⟩;exact ⟨⟨h1,h2⟩,h3⟩
  rintro ⟨⟨h1,h2⟩,h3⟩;exact ⟨s,⟨h1,rfl⟩,h2,h3⟩
theorem aeW (C:bO) (note:Bool) (t:Int):∀ (x:aX) (s s':CS),cellC C note t x s=(0,s')↔tX C note t x∧jW C.us s.bH (vY x)∧s'=⟨s.n+(uC x:Nat),s.bH++vY x⟩
 | .mk i h f,s,s'=>by
  have hf:=JM C false note t f;rw [cellC,tX,vY,uC,show i :: jg f=[i]++jg f from rfl]
  simp only [D8,xU,hf,TS,jW.app]
  constructor
  ·rintro ⟨_,⟨h1,rfl⟩,_,⟨h2,rfl⟩,h3,h4,rfl⟩;exact ⟨⟨h2,h3⟩,⟨h1,h4⟩,by rw [iW]⟩
  rintro ⟨⟨h2,h3⟩,⟨h1,h4⟩,rfl⟩;exact ⟨_,⟨h1,rfl⟩,_,⟨h2,rfl⟩,h3,h4,by rw [iW]⟩
theorem JM (C:bO) (body note:Bool) (t:Int):∀ (l:List ay) (s s':CS),jF C body note t l s=(0,s')↔jy C body note t l∧jW C.us s.bH (jg l)∧s'=⟨s.n+(jK l:Nat),s.bH++jg l⟩
 | [],s,s'=>by rw [jF,jy,jg,jK,xU];simp [jW.nil]
 | x :: r,s,s'=>by
  have h1:=aeX C body note t x;have h2:=JM C body note t r;rw [jF,jy,jg,jK]
  simp only [D8,h1,h2,jW.app]
  constructor
  ·rintro ⟨_,⟨q1,q2,rfl⟩,q3,q4,rfl⟩;exact ⟨⟨q1,q3⟩,⟨q2,q4⟩,by rw [iW];congr 1;push_cast;omega⟩
  rintro ⟨⟨q1,q3⟩,⟨q2,q4⟩,rfl⟩;exact ⟨_,⟨q1,q2,rfl⟩,q3,q4,by rw [iW];congr 1;push_cast;omega⟩
theorem Xo (C:bO) (note:Bool) (t:Int):∀ (l:List aW) (s s':CS),iR C note t l s=(0,s')↔mD C note t l∧jW C.us s.bH (mP l)∧s'=⟨s.n+(nT l:Nat),s.bH++mP l⟩
 | [],s,s'=>by rw [iR,mD,mP,nT,xU];simp [jW.nil]
 | x :: r,s,s'=>by
  have h1:=aeY C note t x;have h2:=Xo C note t r;rw [iR,mD,mP,nT]
  simp only [D8,h1,h2,jW.app]
  constructor
  ·rintro ⟨_,⟨q1,q2,rfl⟩,q3,q4,rfl⟩;exact ⟨⟨q1,q3⟩,⟨q2,q4⟩,by rw [iW];congr 1;push_cast;omega⟩
  rintro ⟨⟨q1,q3⟩,⟨q2,q4⟩,rfl⟩;exact ⟨_,⟨q1,q2,rfl⟩,q3,q4,by rw [iW];congr 1;push_cast;omega⟩
theorem Xn (C:bO) (note:Bool) (t:Int):∀ (l:List aX) (s s':CS),qp C note t l s=(0,s')↔ny C note t l∧jW C.us s.bH (nO l)∧s'=⟨s.n+(oJ l:Nat),s.bH++nO l⟩
 | [],s,s'=>by rw [qp,ny,nO,oJ,xU];simp [jW.nil]
 | x :: r,s,s'=>by
  have h1:=aeW C note t x;have h2:=Xn C note t r;rw [qp,ny,nO,oJ]
  simp only [D8,h1,h2,jW.app]
  constructor
  ·rintro ⟨_,⟨q1,q2,rfl⟩,q3,q4,rfl⟩;exact ⟨⟨q1,q3⟩,⟨q2,q4⟩,by rw [iW];congr 1;push_cast;omega⟩
  rintro ⟨⟨q1,q3⟩,⟨q2,q4⟩,rfl⟩;exact ⟨_,⟨q1,q2,rfl⟩,q3,q4,by rw [iW];congr 1;push_cast;omega⟩
end
theorem ajs {a b c d:Int}:dR [a,b,c,d]=0↔a=0∧b=0∧c=0∧d=0:=by
 constructor
 ·intro h;have z:=mg h;exact ⟨z _ (by simp),z _ (by simp),z _ (by simp),z _ (by simp)⟩
 rintro ⟨rfl,rfl,rfl,rfl⟩;rfl
theorem Ru {a b:Int}:dR [a,b]=0↔a=0∧b=0:=by
 constructor
 ·intro h;have z:=mg h;exact ⟨z _ (by simp),z _ (by simp)⟩
 rintro ⟨rfl,rfl⟩;rfl
theorem MK (d:jG):jN d=0↔(JL d.lI=0∧Fy d.revs=0)∧(iD d.oO 3 d.fin=0∧sO d.fin.marks=false)∧jy d.oO true false 0 d.flow∧jW [] [] (jg d.flow)∧jK d.flow≤16384:=by
 unfold jN
 rw [ajs,Ru,Ru,yL (by decide),yL (by decide),ni]
 constructor
 ·rintro ⟨h1,h2,h3,h4⟩;obtain ⟨q1,q2,q3⟩:=(JM d.oO true false 0 d.flow ⟨0,[]⟩ _).1 (Qz h3);rw [q3] at h4;dsimp only at h4;exact ⟨h1,h2,q1,q2,by omega⟩
 rintro ⟨h1,h2,q1,q2,q3⟩;have h:=(JM d.oO true false 0 d.flow ⟨0,[]⟩ _).2 ⟨q1,q2,rfl⟩;rw [h];exact ⟨h1,h2,rfl,by dsimp only;omega⟩
def qZ (z y:ay):ay:=.mk z.kind z.code z.id (z.text++y.text) z.head z.flow z.rows
def vD (y:ay):Prop:=(y.kind=7∧y.rows.length=0)∨(y.kind=1∧y.text.size=0)
def tV (z y:ay):Prop:=y.kind=1∧z.kind=1∧z.head=y.head
instance (y:ay):Decidable (vD y):=inferInstanceAs (Decidable (_∨_))
instance (z y:ay):Decidable (tV z y):=inferInstanceAs (Decidable (_∧_∧_))
def addN (out:List ay) (y:ay):List ay :=
 if vD y then out else match out.getLast? with
  | none=>out++[y]
  | some z=>if tV z y then out.dropLast++[qZ z y] else out++[y]
theorem Qe {out:List ay} {y:ay} (h:vD y):addN out y=out:=au h
theorem D6 {out:List ay} {y:ay} (h:¬ vD y) (hj:∀ o z,out=o++[z]→¬ tV z y):addN out y=out++[y]:=by
 unfold addN
 rw [ah h]
 split
 ·rfl
 rename_i z hz
 obtain ⟨o,rfl⟩:=List.getLast?_eq_some_iff.1 hz;rw [ah (hj o z rfl)]
theorem MC {o:List ay} {z y:ay} (h:¬ vD y) (hj:tV z y):addN (o++[z]) y=o++[qZ z y]:=by
 unfold addN
 rw [ah h,List.getLast?_concat];dsimp only;rw [au hj,List.dropLast_concat]
theorem WR (out:List ay) (y:ay):addN out y=out∨addN out y=out++[y]∨∃ o z,out=o++[z]∧z.kind=1∧y.kind=1∧addN out y=o++[qZ z y]:=by
 by_cases h:vD y
 ·exact .inl (Qe h)
 by_cases hj:∃ o z,out=o++[z]∧tV z y
 ·obtain ⟨o,z,rfl,hj⟩:=hj;exact .inr (.inr ⟨o,z,rfl,hj.2.1,hj.1,MC h hj⟩)
 exact .inr (.inl (D6 h fun o z e hz=>hj ⟨o,z,e,hz⟩))
mutual
/-- What becomes of an item in a normal form, of rows, of cells. -/
def nI:ay→ay
 | .mk k c i t h f r=>.mk k c i t h ((ru f).foldl addN []) (wu r)
def ru:List ay→List ay
 | []=>[]
 | x :: l=>nI x :: ru l
def nR:aW→aW
 | .mk h c=>.mk h (wo c)
def wu:List aW→List aW
 | []=>[]
 | x :: l=>nR x :: wu l
def nC:aX→aX
 | .mk i h f=>.mk i h ((ru f).foldl addN [])
def wo:List aX→List aX
 | []=>[]
 | x :: l=>nC x :: wo l
end
theorem Oh:∀ l:List ay,ru l=l.map nI
 | []=>by simp [ru]
 | x :: l=>by simp [ru,Oh l]
theorem Oi:∀ l:List aW,wu l=l.map nR
 | []=>by simp [wu]
 | x :: l=>by simp [wu,Oi l]
theorem Ur:∀ l:List aX,wo l=l.map nC
 | []=>by simp [wo]
 | x :: l=>by simp [wo,Ur l]
def tZ (l:List ay) (k:Nat):List ay:=((l.take k).map nI).foldl addN []
def og (l:List ay):List ay:=tZ l l.length
theorem aaQ (x:ay):nI x=.mk x.kind x.code x.id x.text x.head (og x.flow) (x.rows.map nR):=by
 cases x;rw [nI,Oh,Oi];simp [og,tZ,ay.kind,ay.code,ay.id,ay.text,ay.head,ay.flow,ay.rows]
theorem aaR (x:aW):nR x=.mk x.head (x.cells.map nC):=by cases x;rw [nR,Ur];rfl
theorem anv (x:aX):nC x=.mk x.id x.head (og x.flow):=by cases x;rw [nC,Oh];simp [og,tZ,aX.id,aX.head,aX.flow]
theorem abj {l:List ay} {k:Nat} (h:k < l.length):tZ l (k+1)=addN (tZ l k) (nI l[k]):=by
 unfold tZ;rw [iU h,lY,List.foldl_append];rfl
theorem ark (out:List ay) (y:ay):lU (addN out y)≤lU out+(y.text.size+1):=by
 rcases WR out y with e|e|⟨o,z,rfl,-,-,e⟩ <;> rw [e]
 ·omega
 ·rw [GU];simp [lU]
 rw [GU,GU];have:(qZ z y).text.size=z.text.size+y.text.size:=ByteArray.size_append
 simp only [lU,this];omega
theorem Ux {l:List ay}:∀ {k:Nat},k≤l.length→lU (tZ l k)≤lU (l.take k)
 | 0,_=>by simp [tZ,lU]
 | k+1,h=>by
  have ih:=Ux (l:=l) (k:=k) (by omega);have h1:=ark (tZ l k) (nI l[k])
  have h2:(nI l[k]).text=l[k].text:=by rw [aaQ];rfl
  rw [h2] at h1;rw [abj (by omega),iU (by omega),GU]
  simp only [lU];omega
theorem aoa {l:List ay} {k:Nat} (h:k≤l.length):(tZ l k).length≤lU l:=by
 have h1:=Oa (tZ l k);have h2:=Ux h;have h3:=Vl l k
 omega
mutual
/-- Tables whose rows all have cells. -/
def IZ:ay→Prop
 | .mk _ _ _ _ _ f r=>wz f∧Di r
def wz:List ay→Prop
 | []=>True
 | x :: l=>IZ x∧wz l
def EG:aW→Prop
 | .mk _ c=>c≠[]∧EF c
def Di:List aW→Prop
 | []=>True
 | x :: l=>EG x∧Di l
def ED:aX→Prop
 | .mk _ _ f=>wz f
def EF:List aX→Prop
 | []=>True
 | x :: l=>ED x∧EF l
end
theorem aaW:∀ {l:List ay},wz l→∀ x∈l,IZ x
 | [],_,_,h=>by cases h
 | y :: l,h,x,hx=>by
  rw [wz] at h
  rcases jS.1 hx with rfl|hx
  ·exact h.1
  exact aaW h.2 x hx
theorem Ut:∀ {l:List aW},Di l→∀ x∈l,EG x
 | [],_,_,h=>by cases h
 | y :: l,h,x,hx=>by
  rw [Di] at h
  rcases jS.1 hx with rfl|hx
  ·exact h.1
  exact Ut h.2 x hx
theorem aaV:∀ {l:List aX},EF l→∀ x∈l,ED x
 | [],_,_,h=>by cases h
 | y :: l,h,x,hx=>by
  rw [EF] at h
  rcases jS.1 hx with rfl|hx
  ·exact h.1
  exact aaV h.2 x hx
theorem anB (x:ay):IZ x=(wz x.flow∧Di x.rows):=by cases x;rw [IZ];rfl
theorem aaX (x:aW):EG x=(x.cells≠[]∧EF x.cells):=by cases x;rw [EG];rfl
theorem anA (x:aX):ED x=wz x.flow:=by cases x;rw [ED];rfl
theorem Qj {a b:ByteArray} {i:Nat} (h:i < a.size):gK (a++b) i=gK a i:=by
 rw [lN h,lN (by rw [ByteArray.size_append];omega),ByteArray.getElem_append_left h]
theorem Qk (a b:ByteArray) (j:Nat):gK (a++b) (a.size+j)=gK b j:=by
 by_cases h:j < b.size
 ·rw [lN h,lN (by rw [ByteArray.size_append];omega),ByteArray.getElem_append_right (by omega)]
  congr 2
  simp
 unfold gK
 rw [dif_neg (by rw [ByteArray.size_append];omega),dif_neg h]
theorem XG {a b:ByteArray} {t n:Nat}:∀ (f k:Nat) (low high p:Int),(qx a t n f k low high p).2.2=true→qx (a++b) t n f k low high p=qx a t n f k low high p
 | 0,_,_,_,_,_=>rfl
 | f+1,k,low,high,p,h=>by
  unfold qx at h ⊢
  by_cases h1:n≤k
  ·rw [au h1,au h1]
  rw [ah h1] at h;rw [ah h1,ah h1]
  by_cases h2:a.size≤t+k∨gK a (t+k) < low∨high < gK a (t+k)
  ·rw [au h2] at h;cases h
  rw [ah h2] at h
  have h3:t+k < a.size:=by omega
  rw [Qj h3,ah h2,ah (by rw [ByteArray.size_append];omega)];exact XG f (k+1) _ _ _ h
theorem XH (a b:ByteArray) (j n:Nat):∀ (f k:Nat) (low high p:Int),qx (a++b) (a.size+j) n f k low high p=qx b j n f k low high p
 | 0,_,_,_,_=>rfl
 | f+1,k,low,high,p=>by
  unfold qx
  have e:gK (a++b) (a.size+j+k)=gK b (j+k):=by rw [Nat.add_assoc];exact Qk a b (j+k)
  have e2:((a++b).size≤a.size+j+k)↔(b.size≤j+k):=by rw [ByteArray.size_append];omega
  rw [e,XH a b j n f]
  simp only [e2]
theorem XJ {a b:ByteArray} {i:Nat} (hi:i < a.size) (h:(kZ a i).2.2=true):kZ (a++b) i=kZ a i:=by
 unfold kZ at h ⊢
 simp only [Qj hi] at h ⊢
 split
 ·rfl
 rename_i h1
 rw [ah h1] at h
 split
 ·rfl
 rename_i h2
 rw [ah h2] at h;exact XG _ _ _ _ _ h
theorem XK (a b:ByteArray) (j:Nat):kZ (a++b) (a.size+j)=kZ b j:=by
 unfold kZ
 simp only [Qk,XH]
theorem aju (a b:ByteArray):∀ (n j:Nat),b.size - j=n→tC b j < 0→tC (a++b) (a.size+j) < 0:=by
 intro n
 induction n using Nat.strongRecOn with
 | _ n ih =>
  intro j hn h;rw [tC]
  by_cases hj:j < b.size
  ·rw [tC,dif_pos hj] at h;rw [dif_pos (by rw [ByteArray.size_append];omega)]
   by_cases hd:(kZ b j).2.2=true
   ·rw [dif_pos hd] at h;have hs:=(MV b j hj).2 hd;rw [dif_pos (by rw [XK];exact hd),XK,Nat.add_assoc];exact ih _ (by omega) (j+(kZ b j).2.1) rfl h
   rw [dif_neg hd] at h;omega
  rw [dif_neg (by rw [ByteArray.size_append];omega)];decide
theorem ajt (a b:ByteArray) (hb:tC b 0 < 0):∀ (n i:Nat),a.size - i=n→i≤a.size→tC a i < 0→tC (a++b) i < 0:=by
 intro n
 induction n using Nat.strongRecOn with
 | _ n ih =>
  intro i hn hi h
  by_cases hj:i < a.size
  ·rw [tC,dif_pos hj] at h;rw [tC,dif_pos (by rw [ByteArray.size_append];omega)]
   by_cases hd:(kZ a i).2.2=true
   ·rw [dif_pos hd] at h;have hs:=(MV a i hj).2 hd;rw [dif_pos (by rw [XJ hj hd];exact hd),XJ hj hd];exact ih _ (by omega) (i+(kZ a i).2.1) rfl hs.2 h
   rw [dif_neg hd] at h;omega
  obtain rfl:i=a.size:=by omega
  exact aju a b b.size 0 rfl hb
theorem acV {a b:ByteArray} (ha:rG a=true) (hb:rG b=true):rG (a++b)=true:=by
 unfold rG at *
 exact jM (ajt a b (nK hb) a.size 0 rfl (gW _) (nK ha))
theorem Xw (a b:ByteArray):∀ (n j:Nat),b.size - j=n→qw (a++b) (a.size+j)=qw b j
 | 0,j,h=>by
  rw [qw.eq_def (a++b),qw.eq_def b,ah (show ¬ a.size+j < (a++b).size by rw [ByteArray.size_append];omega),ah (show ¬ j < b.size by omega)]
 | n+1,j,h=>by
  have ih:=Xw a b n (j+1) (by omega);rw [qw.eq_def (a++b),qw.eq_def b,au (show a.size+j < (a++b).size by rw [ByteArray.size_append];omega),au (show j < b.size by omega),Qk,Nat.add_assoc,ih]
theorem Xv (a b:ByteArray):∀ (n i:Nat),a.size - i=n→i≤a.size→qw (a++b) i=qw a i+qw b 0
 | 0,i,h,hi=>by
  obtain rfl:i=a.size:=by omega
  rw [qw.eq_def a a.size,ah (Nat.lt_irrefl _),gI];exact Xw a b b.size 0 rfl
 | n+1,i,h,hi=>by
  have ih:=Xv a b n (i+1) (by omega) (by omega);rw [qw.eq_def (a++b),qw.eq_def a i,au (show i < (a++b).size by rw [ByteArray.size_append];omega),au (show i < a.size by omega),Qj (show i < a.size by omega),ih,Nat.add_assoc]
theorem afz {a b:ByteArray} (ha:rG a=true) (hb:rG b=true):tq (a++b)=tq a+tq b:=by
 unfold tq
 rw [au ha,au hb,au (acV ha hb)];exact Xv a b a.size 0 rfl (gW _)
def DY (s:CS) (z:Nat) (r:CR):Prop:=r.2.bH.length≤s.bH.length+z
theorem DY.and {s:CS} {z y q:Nat} {r:CR} {f:CS→CR} (h:DY s z r) (hq:z+y≤q) (hf:∀ s,DY s y (f s)):DY s q (gF r f):=by
 unfold DY at *
 unfold gF
 split
 ·omega
 have:=hf r.2
 omega
theorem DY.zero (s:CS) (e:Int) (q:Nat):DY s q (e,s):=by unfold DY;dsimp only;omega
structure LY where
 code:Int
 id:Int
 name:ByteArray
 flow:Int
 at_:Int
def LY.dat (x:LY):List Dat:=[li x.code,li x.id,.lf (.string x.name),li x.flow,li x.at_]
abbrev LY.cells (x:LY):List aj:=[vi x.code,vi x.id,.string x.name,vi x.flow,vi x.at_]
def VI (P:Program) (fv:aj) (Gi:GH) (xs:List AP) (J:Nat→GH→OL→Prop):Prop :=
 ∀ k args G L w,wG xs k args G→(∀ b o,Gi b=some o→G b=some o)→J k G L→gD G L w→sj P fv args w (fV w G L fun _ G' L'=>J (k+1) G' L')
theorem BQ:Ty prog 137 1 8 [.nilFunc] false:=⟨by kernel_rfl,by kernel_rfl⟩
theorem Yp:∀ args w,(callFunc 81 args).run prog w=.ok (.enter 81 args) w:=enters func81 rfl (by kernel_rfl)
theorem LH:Ty prog 41 1 24 [.slice none 0 0] false:=⟨by kernel_rfl,by kernel_rfl⟩
def LQ (A:List lC):Int:=A.foldl (fun n f=>n+yx f.items) 0
theorem QZ:∀ args w,(callFunc 88 args).run prog w=.ok (.enter 88 args) w:=enters func88 rfl (by kernel_rfl)
mutual
/-- The heads of items, rows and cells, in document order. -/
def Km:ay→List dM
 | .mk k _ _ _ h f r=>h :: ((if k=6 then oU f else [])++(if k=7 then Bl r else []))
def oU:List ay→List dM
 | []=>[]
 | x :: r=>Km x++oU r
def Kq:aW→List dM
 | .mk h c=>h :: Cz c
def Bl:List aW→List dM
 | []=>[]
 | x :: r=>Kq x++Bl r
def Kg:aX→List dM
 | .mk _ h f=>h :: oU f
def Cz:List aX→List dM
 | []=>[]
 | x :: r=>Kg x++Cz r
end
theorem akf (x:ay):Km x=x.head :: ((if x.kind=6 then oU x.flow else [])++(if x.kind=7 then Bl x.rows else [])):=by cases x;rw [Km];rfl
theorem akm (x:aW):Kq x=x.head :: Cz x.cells:=by cases x;rw [Kq];rfl
theorem ajO (x:aX):Kg x=x.head :: oU x.flow:=by cases x;rw [Kg];rfl
def FY (h:dM):AP:=fun args G=>∃ p d y:Option Addr × Nat × Nat,args=[.agg #[cB p,vi h.marks.ins,vi h.marks.move,cB d,cB y]]∧jd G h (cB p) (cB d) (cB y)
theorem SV {G:GH} {h:dM} {pA dA yA:Option Addr} {pn pc dn dc yn yc:Nat} (hr:jd G h (.slice pA pn pc) (.slice dA dn dc) (.slice yA yn yc)):FY h [.agg #[.slice pA pn pc,vi h.marks.ins,vi h.marks.move,.slice dA dn dc,.slice yA yn yc]] G:=⟨(pA,pn,pc),(dA,dn,dc),(yA,yn,yc),rfl,hr⟩
def PO (n:Nat):Prop:=∀ (fv:aj) (Gi:GH) (xs:List AP) (J:Nat→GH→OL→Prop) (G:GH) (L:OL) (w0:World) (j:Nat) (l:List ay) (v:aj),
 (∀ b o,Gi b=some o→G b=some o)→VI prog fv Gi xs J→E9 J→J j G L→gD G L w0→av G (.sl 11 (l.map ay.dat)) v→bK l < n→(∀ i a,(oU l)[i]?=some a→xs[j+i]?=some (FY a)) →
 Calls prog 88 #[v,fv] w0 (fV w0 G L fun _ G' L'=>J (j+(oU l).length) G' L')
set_option maxHeartbeats 4000000 in
theorem akT {n:Nat} (ih:PO n) (hn:n≤4294967296):PO (n+1):=by
 intro fv Gi xs J G L w0 j0 l v hGi hcb tJ hJ0 hO hv hz hx0;obtain ⟨A,c,rfl,hc1,hc2,hg⟩:=hv.slice;rw [bG] at *;have hll:=DI l;refine iX (N:=59) (T:=[(0,_),(1,_)]) func88 rfl ntmps88 rfl rfl hO ?_;intro a H;refine kP H (SR fun _ K1=>Rm rfl (Rl iF rfl (Rm rfl (Kz K1 (SB ?_)))));clear H K1;intro a H;skip;refine eU (ι:=Nat × Nat × OL × GH) (Tc:=[(1,_),(10,_),(11,_)]) (Lc:=[]) (fun gh=>[(12,vi gh.1)]) (fun gh=>[]++gh.2.2.1) (fun gh=>gh.2.2.2) (fun gh=>gh.1≤l.length∧(∀ b o,G b=some o→gh.2.2.2 b=some o)∧Now xs FY J (j0+(oU l).length) gh.2.1 (oU (l.drop gh.1)) gh.2.2.2 gh.2.2.1) (fun gh=>l.length - gh.1) ((0,j0,L,G)) (by exact (H).sub ⟨rfl,rfl,rfl,rfl,aC⟩) ?_ ?_
 ·exact ⟨by omega,fun _ _ h=>h,⟨hJ0,hx0,rfl⟩⟩
 clear H;rintro ⟨k,j,Lt,g1⟩ a w hI H;dsimp only at hI H;obtain ⟨hk,hgm,eP⟩:=hI;dsimp only [lca,bJ] at H;refine kP H (SR fun _ K2=>Rc rfl (Kz K2 (SQ fun _ K3=>Cd rfl ?_ ?_))) <;> clear H K2
 ·intro gG a H
  try have rz:=dT gG
  have hk2:k < l.length:=by omega
  obtain ⟨b,o,pA,pn,pc,dA,dn,dc,yA,yn,yc,fA,fn,fc,rA,rn,rc,rfl,hrow,hhd,hfl,hrw⟩:=Bh hk2 hg;replace hrow:=fun j u hj=>aJ hgm (hrow j u hj);replace hhd:=hhd.mono hgm;replace hfl:=hfl.mono hgm;replace hrw:=hrw.mono hgm;have hrn:=hrw.len;rw [bG] at hrn;subst hrn;have hsz1:=Pm hk2;rw [ng hk2] at eP
  simp only [oU,akf,iW,nJ] at eP
  obtain ⟨x,hx⟩:∃ x,x=l[k]:=⟨_,rfl⟩;rw [← hx] at eP hrow hhd hfl hrw hsz1;have hrl:=Jv x.rows;refine kP H (Kc K3 (SQ fun _ K4=>SB (SR fun _ K5=>Ri iF fG rfl rfl ?_)));clear H K3;intro a H;refine bL fG (cs:=[_,_,_,_,_,_,_,_,_,_,_]) H wn rfl rfl (fun j v hj=>H.hp.aI (hrow j v hj)) rfl ?_;clear H;intro a H;refine dS fG H wn rfl ?_;clear H;intro b5 a w hb5 H;refine bD fG 0 (vs:=[_,_,_,_,_,_,_,_,_,_,_]) _ H wn rfl rfl rfl rfl rfl rfl rfl rfl ?_;clear H;intro w H;dsimp only [List.set,setRow] at H;refine K5 _ _ ?_;clear K5;refine kP H (SR fun _ K6=>Rm rfl (Rf vI rfl ?_));clear H;intro a H;refine bL eu (cs:=[_,_,_,_,_]) H wn rfl rfl (H.hp.cO 0 rfl rfl) rfl ?_;clear H;intro a H;refine Aj (Li:=[_]) (L:=Lt) H wn rfl rfl (hcb _ _ _ _ _ ⟨_,eP.head,SV hhd⟩ (fun b o h=>hgm b o (hGi b o h)) eP.now (Hp.owns (Li:=[_]) H.hp)) rfl ?_;clear H;intro v19 Hl PY a w akg rW H;have wZ:=eP.step akg;refine K6 _ _ ?_;clear K6;refine kP H (SR fun _ K7=>aY jZ aH 0 rfl rfl (Kz K7 (SB (SR fun _ K8=>Rc rfl (ak K8 rfl (Cd rfl ?_ ?_)))))) <;> clear H K7 K8
  ·intro h22 a H
   try have iZ:=dT h22
   rw [au iZ,ah (by omega),mZ] at wZ;refine kP H (SC (aY zK jc 0 rfl rfl (Rm rfl ?_)));clear H;intro a H;refine gH QZ (Li:=[_]) (L:=PY) H wn rfl (ih fv Gi xs J _ _ _ (j+1) x.flow _ (fun b o h=>rW b o (hgm b o (hGi b o h))) hcb tJ wZ.now (Hp.owns (Li:=[_]) H.hp) (hfl.mono rW) (by omega) wZ.part) rfl ?_;clear H;intro v27 PG adM a w akh NG H;refine kH H (Kn K4 (SC (Rd rfl (Rm rfl ?_))));clear H K4;intro a H;refine aD ?_;refine dD ((k+1,j+1+(oU x.flow).length,adM,PG)) (by exact (H.dY (Pl:=[_]) (dK:=[]) [] (by decide) rfl).sub ⟨rfl,rfl,rfl,rfl,aC⟩) ?_
   (try dsimp only);exact ⟨by omega,fun b o h=>NG b o (rW b o (hgm b o h)),wZ.jump akh⟩
  intro h22 a H
  try have iZ:=dF h22
  rw [ah iZ,mZ] at wZ;refine kP H (SR fun _ K9=>Rc rfl (ak K9 rfl (Cd rfl ?_ ?_))) <;> clear H K9
  ·intro fQ a H
   try have p28:=dT fQ
   rw [au p28] at wZ;refine kP H (SR fun _ aR=>aY qP rF 0 rfl rfl (Rl mX rfl (Rm rfl (Kz aR (SB ?_)))));clear H aR;intro a H;skip;refine eU (ι:=Nat × Nat × OL × GH) (Tc:=[(1,_),(10,_),(11,_),(12,_),(31,_),(32,_)]) (Lc:=[(_,_)]) (fun gh=>[(33,vi gh.1)]) (fun gh=>[]++gh.2.2.1) (fun gh=>gh.2.2.2) (fun gh=>gh.1≤x.rows.length∧(∀ b o,Hl b=some o→gh.2.2.2 b=some o)∧Now xs FY J (j0+(oU l).length) gh.2.1 (Bl (x.rows.drop gh.1)++oU (l.drop (k+1))) gh.2.2.2 gh.2.2.1) (fun gh=>x.rows.length - gh.1) ((0,j+1,PY,Hl)) (by exact (H).sub ⟨rfl,rfl,rfl,rfl,rfl,rfl,rfl,aC⟩) ?_ ?_
   ·exact ⟨by omega,fun _ _ h=>h,wZ⟩
   clear H;rintro ⟨rk,j3,Lt3,g3⟩ a w hI H;dsimp only at hI H;obtain ⟨hrk,hg3,sN⟩:=hI;dsimp only [lca,bJ] at H;refine kP H (SR fun _ bQ=>Rc rfl (Kz bQ (SQ fun _ bY=>Cd rfl ?_ ?_))) <;> clear H bQ
   ·intro fZ a H
    try have p34:=dT fZ
    have hk3:rk < x.rows.length:=by omega
    obtain ⟨b2,o2,qA,qn,qc,eA,en,ec,zA,zn,zc,cA,cn,cc,rfl,hrow,Ez,hcl⟩:=Le hk3 ((hrw.mono rW).mono hg3).at_;have hcn:=hcl.len;rw [bG] at hcn;subst hcn;have hsz2:=Pn hk3;have hcs:=Ju x.rows[rk].cells;rw [ng hk3] at sN
    simp only [Bl,akm,iW,nJ] at sN
    obtain ⟨y,hy⟩:∃ y,y=x.rows[rk]:=⟨_,rfl⟩;rw [← hy] at sN hrow Ez hcl hsz2 hcs;refine kP H (Kc bY (SQ fun _ cZ=>SB (SR fun _ dG=>Ri mX jP rfl rfl ?_)));clear H bY;intro a H;refine bL jP (cs:=[_,_,_,_,_,_]) H wn rfl rfl (fun j v hj=>H.hp.aI (hrow j v hj)) rfl ?_;clear H;intro a H;refine dS jP H wn rfl ?_;clear H;intro b7 a w CO H;refine bD jP 0 (vs:=[_,_,_,_,_,_]) _ H wn rfl rfl rfl rfl rfl rfl rfl rfl ?_;clear H;intro w H;dsimp only [List.set,setRow] at H;refine dG _ _ ?_;clear dG;refine kP H (SR fun _ dZ=>Rm rfl (Rf FJ rfl ?_));clear H;intro a H;refine bL eu (cs:=[_,_,_,_,_]) H wn rfl rfl (H.hp.cO 0 rfl rfl) rfl ?_;clear H;intro a H;refine Aj (Li:=[_,_]) (L:=Lt3) H wn rfl rfl (hcb _ _ _ _ _ ⟨_,sN.head,SV Ez⟩ (fun b o h=>hg3 b o (rW b o (hgm b o (hGi b o h)))) sN.now (Hp.owns (Li:=[_,_]) H.hp)) rfl ?_;clear H;intro v40 Jy Fh a w aki CW H;have alG:=sN.step aki;refine dZ _ _ ?_;clear dZ;refine kP H (SR fun _ eB=>aY vJ wD 0 rfl rfl (Rl om rfl (Rm rfl (Kz eB (SB ?_)))));clear H eB;intro a H;skip;refine eU (ι:=Nat × Nat × OL × GH) (Tc:=[(1,_),(10,_),(11,_),(12,_),(31,_),(32,_),(33,_),(42,_),(43,_)]) (Lc:=[(_,_),(_,_)]) (fun gh=>[(44,vi gh.1)]) (fun gh=>[]++gh.2.2.1) (fun gh=>gh.2.2.2) (fun gh=>gh.1≤y.cells.length∧(∀ b o,Jy b=some o→gh.2.2.2 b=some o)∧Now xs FY J (j0+(oU l).length) gh.2.1 (Cz (y.cells.drop gh.1)++(Bl (x.rows.drop (rk+1))++oU (l.drop (k+1)))) gh.2.2.2 gh.2.2.1) (fun gh=>y.cells.length - gh.1) ((0,j3+1,Fh,Jy)) (by exact (H).sub ⟨rfl,rfl,rfl,rfl,rfl,rfl,rfl,rfl,rfl,rfl,aC⟩) ?_ ?_
    ·exact ⟨by omega,fun _ _ h=>h,alG⟩
    clear H;rintro ⟨ck,j4,Lt4,g4⟩ a w hI H;dsimp only at hI H;obtain ⟨hck,hg4,vW⟩:=hI;dsimp only [lca,bJ] at H;refine kP H (SR fun _ dW=>Rc rfl (Kz dW (SQ fun _ fC=>Cd rfl ?_ ?_))) <;> clear H dW
    ·intro h45 a H
     try have p45:=dT h45
     have hk4:ck < y.cells.length:=by omega
     obtain ⟨b3,o3,sA,sn,sc,tA,tn,tc,uA,un,uc,gA,gn,gc,rfl,hrow,hch,hcf⟩:=Ib hk4 ((hcl.mono CW).mono hg4).at_;have amk:=Pk hk4;rw [ng hk4] at vW
     simp only [Cz,ajO,iW,nJ] at vW
     refine kP H (Kc fC (SQ fun _ gQ=>SB (SR fun _ fM=>Ri om kI rfl rfl ?_)));clear H fC;intro a H;refine bL kI (cs:=[_,_,_,_,_,_,_]) H wn rfl rfl (fun j v hj=>H.hp.aI (hrow j v hj)) rfl ?_;clear H;intro a H;refine dS kI H wn rfl ?_;clear H;intro b9 a w Bo H;refine bD kI 0 (vs:=[_,_,_,_,_,_,_]) _ H wn rfl rfl rfl rfl rfl rfl rfl rfl ?_;clear H;intro w H;dsimp only [List.set,setRow] at H;refine fM _ _ ?_;clear fM;refine kP H (SR fun _ gV=>Rm rfl (Rf FK rfl ?_));clear H;intro a H;refine bL eu (cs:=[_,_,_,_,_]) H wn rfl rfl (H.hp.cO 0 rfl rfl) rfl ?_;clear H;intro a H;refine Aj (Li:=[_,_,_]) (L:=Lt4) H wn rfl rfl (hcb _ _ _ _ _ ⟨_,vW.head,SV hch⟩ (fun b o h=>hg4 b o (CW b o (hg3 b o (rW b o (hgm b o (hGi b o h)))))) vW.now (Hp.owns (Li:=[_,_,_]) H.hp)) rfl ?_;clear H;intro v51 G51 adN a w akj Ti H;have Tn:=vW.step akj;refine gV _ _ ?_;clear gV;refine kP H (SC (aY FL jc 0 rfl rfl (Rm rfl ?_)));clear H;intro a H;refine gH QZ (Li:=[_,_,_]) (L:=adN) H wn rfl (ih fv Gi xs J _ _ _ (j4+1) y.cells[ck].flow _ (fun b o h=>Ti b o (hg4 b o (CW b o (hg3 b o (rW b o (hgm b o (hGi b o h))))))) hcb tJ Tn.now (Hp.owns (Li:=[_,_,_]) H.hp) (hcf.mono Ti) (by omega) Tn.part) rfl ?_;clear H;intro v55 Jz adO a w akk vU H;refine kH H (Kn gQ (SC (Rd rfl (Rm rfl ?_))));clear H gQ;intro a H;refine aD ?_;refine dD ((ck+1,j4+1+(oU y.cells[ck].flow).length,adO,Jz)) (by exact (H.dY (Pl:=[_,_,_]) (dK:=[_,_]) [1,2] (by decide) rfl).sub ⟨rfl,rfl,rfl,rfl,rfl,rfl,rfl,rfl,rfl,rfl,aC⟩) ?_
     (try dsimp only);exact ⟨by omega,fun b o h=>vU b o (Ti b o (hg4 b o h)),Tn.jump akk⟩
    intro h45 a H
    try have p45:=dF h45
    refine dV ?_;refine cZ _ _ ?_;clear cZ;refine kP H (SC (Rd rfl (Rm rfl ?_)));clear H;intro a H;refine aD ?_;refine dD ((rk+1,j4,Lt4,g4)) (by exact (H.dY (Pl:=[_,_]) (dK:=[_]) [1] (by decide) rfl).sub ⟨rfl,rfl,rfl,rfl,rfl,rfl,rfl,aC⟩) ?_
    (try dsimp only);exact ⟨by omega,fun b o h=>hg4 b o (CW b o (hg3 b o h)),by rw [jC (by omega),Cz,mZ] at vW;exact vW⟩
   intro fZ a H
   try have p34:=dF fZ
   refine dV ?_;refine K4 _ _ ?_;clear K4;refine kP H (SC (Rd rfl (Rm rfl ?_)));clear H;intro a H;refine aD ?_;refine dD ((k+1,j3,Lt3,g3)) (by exact (H.dY (Pl:=[_]) (dK:=[]) [] (by decide) rfl).sub ⟨rfl,rfl,rfl,rfl,aC⟩) ?_
   (try dsimp only);exact ⟨by omega,fun b o h=>hg3 b o (rW b o (hgm b o h)),by rw [jC (by omega),Bl,mZ] at sN;exact sN⟩
  intro fQ a H
  try have p28:=dF fQ
  rw [ah p28,mZ] at wZ;refine kP H (Kc K4 (SC (Rd rfl (Rm rfl ?_))));clear H K4;intro a H;refine aD ?_;refine dD ((k+1,j+1,PY,Hl)) (by exact (H.dY (Pl:=[_]) (dK:=[]) [] (by decide) rfl).sub ⟨rfl,rfl,rfl,rfl,aC⟩) ?_
  (try dsimp only);exact ⟨by omega,fun b o h=>rW b o (hgm b o h),wZ⟩
 intro gG a H
 try have rz:=dF gG
 refine dV ?_;refine (leave0 H results88 ?_).2
 exact H.hp.iq (L':=Lt) (by repeat (first|exact gT _|apply List.Sublist.cons)) (by
   rw [jC (by omega),oU] at eP;have:=eP.len
   simp only [List.length_nil,uy] at this
   rw [← this];exact eP.now)
theorem Zq:∀ n:Nat,n≤4294967297→PO n
 | 0,_=>fun _ _ _ _ _ _ _ _ _ _ _ _ _ _ _ _ h=>absurd h (by omega)
 | n+1,hn=>akT (Zq n (by omega)) (by omega)
theorem WQ {Q:ay→Prop} (hj:∀ z y,Q z→Q y→tV z y→Q (qZ z y)) {out:List ay} {y:ay} (hy:Q y) (ho:∀ z∈out,Q z):∀ z∈addN out y,Q z:=by
 by_cases hd:vD y
 ·rw [Qe hd];exact ho
 by_cases h:∃ o z,out=o++[z]∧tV z y
 ·obtain ⟨o,z,rfl,hz⟩:=h;rw [MC hd hz];intro x hx
  rcases nH.1 hx with h|h
  ·exact ho x (List.mem_append_left _ h)
  rw [uE.1 h];exact hj z y (ho z (by simp)) hy hz
 rw [D6 hd fun o z e hz=>h ⟨o,z,e,hz⟩];intro x hx
 rcases nH.1 hx with h|h
 ·exact ho x h
 rw [uE.1 h];exact hy
theorem Y3 {Q:ay→Prop} (hj:∀ z y,Q z→Q y→tV z y→Q (qZ z y)):∀ (A out:List ay),(∀ y∈A,Q y)→(∀ z∈out,Q z)→∀ z∈A.foldl addN out,Q z
 | [],_,_,ho=>ho
 | y :: A,out,hA,ho=>Y3 hj A (addN out y) (fun x hx=>hA x (iQ _ hx)) (WQ hj (hA y gJ) ho)
theorem fold_add {γ:Type} {F:List ay→γ} {op:γ→γ→γ} {Q:ay→Prop} (hF:∀ a b,F (a++b)=op (F a) (F b)) (hj:∀ z y,Q z→Q y→tV z y→Q (qZ z y)) (hd:∀ y,Q y→¬ vD y)
  (hg:∀ o z y,Q z→Q y→tV z y→F (o++[qZ z y])=op (F (o++[z])) (F [y])):∀ (A out:List ay),(∀ y∈A,Q y)→(∀ z∈out,Q z)→F (A.foldl addN out)=F (out++A)
 | [],out,_,_=>by rw [jf];rfl
 | y :: A,out,hA,ho=>by
  have hy:=hA y gJ;rw [List.foldl_cons,fold_add hF hj hd hg A (addN out y) (fun x hx=>hA x (iQ _ hx)) (WQ hj hy ho),show out++y :: A=(out++[y])++A by simp,hF,hF (out++[y])]
  congr 1
  by_cases h:∃ o z,out=o++[z]∧tV z y
  ·obtain ⟨o,z,rfl,hz⟩:=h;rw [MC (hd y hy) hz,hg o z y (ho z (by simp)) hy hz,← hF]
  rw [D6 (hd y hy) fun o z e hz=>h ⟨o,z,e,hz⟩]
theorem RD {x:ay} (h:kD x=0) (hk:x.kind=1):x.code=0∧x.id=0∧rG x.text=true∧qN x.text=false∧x.flow=[]∧x.rows=[]:=by
 have h0:=FM h
 unfold kD at h
 have hc:wP x=false:=by simp [wP,hk]
 have hn:xw x=false:=by simp [xw,hk]
 split at h
 ·cases h
 split at h
 ·cases h
 rename_i h2
 split at h
 ·cases h
 split at h
 ·cases h
 rename_i h4
 rw [hk] at h4
 simp only [uN,hc,hn,Bool.not_false,D7,Bool.or_eq_true,not_or,Bool.not_eq_true,ni,nV] at h2
 refine ⟨h2.1.1.1.1,h2.1.1.1.2,h0.1,?_,h0.2.2.2 (by omega),h0.2.2.1 (by omega)⟩
 cases he:qN x.text
 ·rfl
 rw [he] at h4;simp at h4
theorem XV (s:ByteArray):qN s=decide (s.size=0):=by
 unfold qN
 rw [ByteArray.toList_eq,ByteArray.toList_eq,sG,mH,beq_iff_eq]
 constructor
 ·intro h;have:=aB List.length h
  simpa using this
 intro h;exact List.eq_nil_of_length_eq_zero (by rw [uz];exact h)
theorem ajC {z y:ay} (hz:kD z=0) (hy:kD y=0) (kz:z.kind=1) (ky:y.kind=1):kD (qZ z y)=0:=by
 obtain ⟨a1,a2,a3,a4,a5,a6⟩:=RD hz kz;obtain ⟨b1,b2,b3,b4,b5,b6⟩:=RD hy ky;have hv:=acV a3 b3
 have he:qN (z.text++y.text)=false:=by
  rw [XV,ni] at a4 ⊢;rw [ByteArray.size_append];omega
 unfold kD qZ codeOk uN zq zy wP xw
 simp only [ay.kind,ay.code,ay.id,ay.text,ay.flow,ay.rows] at *
 simp [kz,a1,a2,a5,a6,hv,he,zq,wP,xw,zy,ay.kind,ay.code]
theorem ajD {k c i:Int} {tx:ByteArray} {h:dM} {f f':List ay} {r r':List aW} (hx:kD (.mk k c i tx h f r)=0) (hf:k≠6→f=[]→f'=[]) (hr:r'.length=r.length):kD (.mk k c i tx h f' r')=0:=by
 have h0:=(FM hx).2.2.2
 have e:uN (.mk k c i tx h f' r')=uN (.mk k c i tx h f r):=by
  have hfl:k≠6→f'.length=f.length:=fun h6=>by rw [hf h6 (h0 h6),show f=[] from h0 h6]
  rw [sG]
  simp only [uN,Bool.or_eq_true,oN,mH]
  have c1:wP (.mk k c i tx h f' r')=wP (.mk k c i tx h f r):=rfl;have c2:xw (.mk k c i tx h f' r')=xw (.mk k c i tx h f r):=rfl;have c3:zy (.mk k c i tx h f' r')=zy (.mk k c i tx h f r):=rfl;rw [c1,c2,c3]
  show (((((_∧c≠0)∨(_∧i≠0))∨(_∧(!qN tx)=true))∨(k≠6∧0 < (f'.length:Int)))∨(k≠7∧0 < (r'.length:Int)))↔(((((_∧c≠0)∨(_∧i≠0))∨(_∧(!qN tx)=true))∨(k≠6∧0 < (f.length:Int)))∨(k≠7∧0 < (r.length:Int)))
  rw [hr]
  by_cases h6:k=6
  ·simp [h6]
  rw [hfl h6]
 have e2:codeOk (.mk k c i tx h f' r')=codeOk (.mk k c i tx h f r):=rfl;have e3:zq (.mk k c i tx h f' r')=zq (.mk k c i tx h f r):=rfl
 unfold kD at hx ⊢
 rw [e,e2,e3];exact hx
theorem Oq {C:bO} {body note:Bool} {t:Int} (x:ay):nP C body note t x↔kD x=0∧Ov body note t x.kind x.id∧iD C x.kind x.head=0∧(x.kind=6→jy C false true t x.flow)∧(x.kind=7→(x.rows.length≠0∧x.rows.length≤256)∧mD C note (t+1) x.rows):=by
 cases x;rw [nP];rfl
theorem Uv {C:bO} {body note:Bool} {t:Int} (z y:ay) (hz:nP C body note t z) (hy:nP C body note t y) (hj:tV z y):nP C body note t (qZ z y):=by
 rw [Oq] at *;refine ⟨ajC hz.1 hy.1 hj.2.1 hj.1,hz.2.1,hz.2.2.1,hz.2.2.2.1,hz.2.2.2.2⟩
theorem abe {C:bO} {body note:Bool} {t:Int} (y:ay) (hy:nP C body note t y):¬ vD y:=by
 rw [Oq] at hy;rintro (⟨h1,h2⟩|⟨h1,h2⟩)
 ·exact (hy.2.2.2.2 h1).1.1 h2
 have:=(RD hy.1 h1).2.2.2.1;rw [XV] at this
 simp [h2] at this
theorem Uw {C:bO} {body note:Bool} {t:Int} {A:List ay} (h:jy C body note t A):jy C body note t (A.foldl addN []):=Dj.2 (Y3 Uv A [] (Dj.1 h) (fun _ h=>by cases h))
mutual
theorem anX (C:bO) (body note:Bool) (t:Int):∀ x:ay,nP C body note t x→nP C body note t (nI x)
 | .mk k c i tx h f r,hx=>by
  have hf:=GI C false true t f;have hr:=abg C note (t+1) r;rw [nP] at hx;rw [nI,nP];exact ⟨ajD hx.1 (fun _ e=>by rw [e];rfl) (by rw [Oi,bG]),hx.2.1,hx.2.2.1,fun e=>Uw (hf (hx.2.2.2.1 e)),fun e=>⟨by rw [Oi,bG];exact (hx.2.2.2.2 e).1,hr (hx.2.2.2.2 e).2⟩⟩
theorem anY (C:bO) (note:Bool) (t:Int):∀ x:aW,tY C note t x→tY C note t (nR x)
 | .mk h cs,hx=>by
  have hc:=abf C note t cs;rw [tY] at hx;rw [nR,tY];exact ⟨by rw [Ur,bG];exact hx.1,hc hx.2⟩
theorem anW (C:bO) (note:Bool) (t:Int):∀ x:aX,tX C note t x→tX C note t (nC x)
 | .mk i h f,hx=>by
  have hf:=GI C false note t f;rw [tX] at hx;rw [nC,tX];exact ⟨hx.1,Uw (hf hx.2)⟩
theorem GI (C:bO) (body note:Bool) (t:Int):∀ l:List ay,jy C body note t l→jy C body note t (ru l)
 | [],_=>by rw [ru,jy];trivial
 | x :: l,h=>by
  rw [jy] at h;rw [ru,jy];exact ⟨anX C body note t x h.1,GI C body note t l h.2⟩
theorem abg (C:bO) (note:Bool) (t:Int):∀ l:List aW,mD C note t l→mD C note t (wu l)
 | [],_=>by rw [wu,mD];trivial
 | x :: l,h=>by
  rw [mD] at h;rw [wu,mD];exact ⟨anY C note t x h.1,abg C note t l h.2⟩
theorem abf (C:bO) (note:Bool) (t:Int):∀ l:List aX,ny C note t l→ny C note t (wo l)
 | [],_=>by rw [wo,ny];trivial
 | x :: l,h=>by
  rw [ny] at h;rw [wo,ny];exact ⟨anW C note t x h.1,abf C note t l h.2⟩
end
theorem Uu (l:List ay):og l=(ru l).foldl addN []:=by simp [og,tZ,Oh]
theorem abh {C:bO} {body note:Bool} {t:Int} {l:List ay} (h:jy C body note t l):jy C body note t (og l):=by rw [Uu];exact Uw (GI C body note t l h)
theorem KX:∀ a b:List ay,jg (a++b)=jg a++jg b
 | [],b=>by rw [jg];rfl
 | x :: a,b=>by rw [nJ,jg,jg,KX a b,iW]
theorem LJ:∀ a b:List ay,jK (a++b)=jK a+jK b
 | [],b=>by rw [jK,gI];rfl
 | x :: a,b=>by rw [nJ,jK,jK,LJ a b,Nat.add_assoc]
theorem TR {x:ay} (h:x.kind=1):qD x=[]:=by
 cases x;dsimp only [ay.kind] at h;subst h;simp [qD]
theorem Vs {x:ay} (h:x.kind=1):uI x=tq x.text:=by
 cases x;dsimp only [ay.kind] at h;subst h;simp [uI,ay.text]
theorem TT {C:bO} {body note:Bool} {t:Int} {A:List ay} (h:jy C body note t A):jg (A.foldl addN [])=jg A :=
 (fold_add (F:=jg) KX (Uv (C:=C) (body:=body) (note:=note) (t:=t)) abe (fun o z y _ _ hj=>by
  rw [KX,KX];simp only [jg];rw [TR hj.2.1,TR hj.1,TR (x:=qZ z y) hj.2.1];simp) A [] (Dj.1 h) (fun _ h=>by cases h))
theorem Vt {C:bO} {body note:Bool} {t:Int} {A:List ay} (h:jy C body note t A):jK (A.foldl addN [])=jK A :=
 (fold_add (F:=jK) LJ (Uv (C:=C) (body:=body) (note:=note) (t:=t)) abe (fun o z y hz hy hj=>by
  rw [Oq] at hz hy
  rw [LJ,LJ];simp only [jK];rw [Vs hj.2.1,Vs hj.1,Vs (x:=qZ z y) hj.2.1,show (qZ z y).text=z.text++y.text from rfl,afz (FM hz.1).1 (FM hy.1).1];omega) A [] (Dj.1 h) (fun _ h=>by cases h))
mutual
theorem amN (C:bO) (body note:Bool) (t:Int):∀ x:ay,nP C body note t x→qD (nI x)=qD x∧uI (nI x)=uI x
 | .mk k c i tx h f r,hx=>by
  have hf:=N9 C false true t f;have hr:=aay C note (t+1) r;rw [nP] at hx;rw [nI,qD,qD,uI,uI]
  by_cases h6:k=6
  ·subst h6;have ho:=hx.2.2.2.1 rfl;have hn:=GI C false true t f ho
   simp only [if_true,ah (show ¬ (6:Int)=7 by decide)]
   rw [TT hn,Vt hn,(hf ho).1,(hf ho).2];exact ⟨rfl,rfl⟩
  by_cases h7:k=7
  ·subst h7;have ho:=(hx.2.2.2.2 rfl).2
   simp only [if_true,ah (show ¬ (7:Int)=6 by decide)]
   rw [(hr ho).1,(hr ho).2];exact ⟨rfl,rfl⟩
  simp only [ah h6,ah h7]
  exact ⟨aC,aC⟩
theorem amO (C:bO) (note:Bool) (t:Int):∀ x:aW,tY C note t x→uQ (nR x)=uQ x∧uR (nR x)=uR x
 | .mk h cs,hx=>by
  have hc:=aax C note t cs;rw [tY] at hx;rw [nR,uQ,uQ,uR,uR];exact hc hx.2
theorem amM (C:bO) (note:Bool) (t:Int):∀ x:aX,tX C note t x→vY (nC x)=vY x∧uC (nC x)=uC x
 | .mk i h f,hx=>by
  have hf:=N9 C false note t f;rw [tX] at hx;have hn:=GI C false note t f hx.2;rw [nC,vY,vY,uC,uC,TT hn,Vt hn,(hf hx.2).1,(hf hx.2).2];exact ⟨rfl,rfl⟩
theorem N9 (C:bO) (body note:Bool) (t:Int):∀ l:List ay,jy C body note t l→jg (ru l)=jg l∧jK (ru l)=jK l
 | [],_=>by rw [ru];exact ⟨rfl,rfl⟩
 | x :: l,h=>by
  rw [jy] at h;have h1:=amN C body note t x h.1;have h2:=N9 C body note t l h.2;rw [ru,jg,jg,jK,jK,h1.1,h1.2,h2.1,h2.2];exact ⟨rfl,rfl⟩
theorem aay (C:bO) (note:Bool) (t:Int):∀ l:List aW,mD C note t l→mP (wu l)=mP l∧nT (wu l)=nT l
 | [],_=>by rw [wu];exact ⟨rfl,rfl⟩
 | x :: l,h=>by
  rw [mD] at h;have h1:=amO C note t x h.1;have h2:=aay C note t l h.2;rw [wu,mP,mP,nT,nT,h1.1,h1.2,h2.1,h2.2];exact ⟨rfl,rfl⟩
theorem aax (C:bO) (note:Bool) (t:Int):∀ l:List aX,ny C note t l→nO (wo l)=nO l∧oJ (wo l)=oJ l
 | [],_=>by rw [wo];exact ⟨rfl,rfl⟩
 | x :: l,h=>by
  rw [ny] at h;have h1:=amM C note t x h.1;have h2:=aax C note t l h.2;rw [wo,nO,nO,oJ,oJ,h1.1,h1.2,h2.1,h2.2];exact ⟨rfl,rfl⟩
end
theorem amw {C:bO} {body note:Bool} {t:Int} {l:List ay} (h:jy C body note t l):jg (og l)=jg l∧jK (og l)=jK l:=by
 have hn:=GI C body note t l h;rw [Uu,TT hn,Vt hn];exact N9 C body note t l h
theorem ari (z y:ay):bX (qZ z y).dat≤bX z.dat+bX y.dat:=by
 rw [ay.qM,ay.qM,ay.qM]
 simp only [qZ,ay.kind,ay.code,ay.id,ay.text,ay.head,ay.flow,ay.rows,bX,mF,ByteArray.size_append]
 omega
theorem LX (a b:List ay):bK (a++b)=bK a+bK b:=by rw [bK,lY,Jh]
theorem VD (y:ay):bK [y]=1+bX y.dat:=by simp [bK,dU]
theorem asl (out:List ay) (y:ay):bK (addN out y)≤bK out+bK [y]:=by
 rcases WR out y with e|e|⟨o,z,rfl,-,-,e⟩ <;> rw [e]
 ·omega
 ·rw [LX];exact bM _
 have:=ari z y;rw [LX,LX,VD,VD,VD];omega
theorem Po:∀ (A out:List ay),bK (A.foldl addN out)≤bK out+bK A
 | [],out=>Nat.le_add_right _ _
 | y :: A,out=>by
  have h1:=Po A (addN out y);have h2:=asl out y;have h3:=LX [y] A;rw [List.singleton_append] at h3;rw [List.foldl_cons,h3];omega
mutual
theorem aso:∀ x:ay,bX (nI x).dat≤bX x.dat
 | .mk k c i tx h f r=>by
  have hf:=Pp f;have hr:=adt r;have hd:=Po (ru f) [];have h0:bK []=0:=rfl
  have LB:∀ (a b:List Dat),bX (a++b)=bX a+bX b:=fun a b=>by
   induction a with
   | nil=>simp [bX]
   | cons x a ih=>simp only [nJ,bX,ih];omega
  rw [nI,ay.qM,ay.qM]
  simp only [ay.kind,ay.code,ay.id,ay.text,ay.head,ay.flow,ay.rows,bX,mF,LB]
  unfold bK at *
  unfold gZ at hr
  omega
theorem asq:∀ x:aW,bX (nR x).dat≤bX x.dat
 | .mk h cs=>by
  have hc:=ads cs
  have LB:∀ (a b:List Dat),bX (a++b)=bX a+bX b:=fun a b=>by
   induction a with
   | nil=>simp [bX]
   | cons x a ih=>simp only [nJ,bX,ih];omega
  rw [nR,aW.qM,aW.qM]
  simp only [aW.head,aW.cells,bX,mF,LB]
  unfold iP at hc
  omega
theorem asn:∀ x:aX,bX (nC x).dat≤bX x.dat
 | .mk i h f=>by
  have hf:=Pp f;have hd:=Po (ru f) [];have h0:bK []=0:=rfl
  have LB:∀ (a b:List Dat),bX (a++b)=bX a+bX b:=fun a b=>by
   induction a with
   | nil=>simp [bX]
   | cons x a ih=>simp only [nJ,bX,ih];omega
  rw [nC,aX.qM,aX.qM]
  simp only [aX.id,aX.head,aX.flow,bX,mF,LB]
  unfold bK at *
  omega
theorem Pp:∀ l:List ay,bK (ru l)≤bK l
 | []=>by rw [ru];exact bM _
 | x :: l=>by
  have h1:=aso x;have h2:=Pp l;rw [ru]
  simp only [bK,fK,dU] at *
  omega
theorem adt:∀ l:List aW,gZ (wu l)≤gZ l
 | []=>by rw [wu];exact bM _
 | x :: l=>by
  have h1:=asq x;have h2:=adt l;rw [wu]
  simp only [gZ,fK,dU] at *
  omega
theorem ads:∀ l:List aX,iP (wo l)≤iP l
 | []=>by rw [wo];exact bM _
 | x :: l=>by
  have h1:=asn x;have h2:=ads l;rw [wo]
  simp only [iP,fK,dU] at *
  omega
end
theorem asr (l:List ay):bK (og l)≤bK l:=by
 have h1:=Po (ru l) [];have h2:=Pp l;have h0:bK []=0:=rfl;rw [Uu];omega
section
mutual
def xB (acc rej:Int→Bool):ay→List ay
 | .mk k c i tx h f r=>if sI acc rej h then [] else if k=6 then [.mk k c i tx (mJ acc rej h) (jh acc rej f) r] else if k=7 then (if (lH acc rej r).length=0 then [] else [.mk k c i tx (mJ acc rej h) f (lH acc rej r)]) else [.mk k c i tx (mJ acc rej h) f r]
def xC (acc rej:Int→Bool):aW→List aW
 | .mk h cs=>if sI acc rej h then [] else if (kF acc rej cs).length=0 then [] else [.mk (mJ acc rej h) (kF acc rej cs)]
def yE (acc rej:Int→Bool):aX→List aX
 | .mk i h f=>if sI acc rej h then [] else [.mk i (mJ acc rej h) (jh acc rej f)]
def jh (acc rej:Int→Bool):List ay→List ay
 | []=>[]
 | x :: l=>xB acc rej x++jh acc rej l
def lH (acc rej:Int→Bool):List aW→List aW
 | []=>[]
 | x :: l=>xC acc rej x++lH acc rej l
def kF (acc rej:Int→Bool):List aX→List aX
 | []=>[]
 | x :: l=>yE acc rej x++kF acc rej l
end
variable {acc rej:Int→Bool}
theorem abG (x:ay):xB acc rej x=if sI acc rej x.head then [] else if x.kind=6 then [.mk x.kind x.code x.id x.text (mJ acc rej x.head) (jh acc rej x.flow) x.rows] else if x.kind=7 then (if (lH acc rej x.rows).length=0 then [] else [.mk x.kind x.code x.id x.text (mJ acc rej x.head) x.flow (lH acc rej x.rows)]) else [.mk x.kind x.code x.id x.text (mJ acc rej x.head) x.flow x.rows]:=by cases x;rw [xB];rfl
theorem abJ (x:aW):xC acc rej x=if sI acc rej x.head then [] else if (kF acc rej x.cells).length=0 then [] else [.mk (mJ acc rej x.head) (kF acc rej x.cells)]:=by cases x;rw [xC];rfl
theorem abD (x:aX):yE acc rej x=if sI acc rej x.head then [] else [.mk x.id (mJ acc rej x.head) (jh acc rej x.flow)]:=by cases x;rw [yE];rfl
theorem abH:∀ a b:List ay,jh acc rej (a++b)=jh acc rej a++jh acc rej b
 | [],b=>by simp [jh]
 | x :: a,b=>by simp [jh,abH a b]
theorem abK:∀ a b:List aW,lH acc rej (a++b)=lH acc rej a++lH acc rej b
 | [],b=>by simp [lH]
 | x :: a,b=>by simp [lH,abK a b]
theorem abE:∀ a b:List aX,kF acc rej (a++b)=kF acc rej a++kF acc rej b
 | [],b=>by simp [kF]
 | x :: a,b=>by simp [kF,abE a b]
theorem Ja {l:List ay} {k:Nat} (h:k < l.length):jh acc rej (l.take (k+1))=jh acc rej (l.take k)++xB acc rej l[k]:=by rw [iU h,abH];simp [jh]
theorem Jb {l:List aW} {k:Nat} (h:k < l.length):lH acc rej (l.take (k+1))=lH acc rej (l.take k)++xC acc rej l[k]:=by rw [iU h,abK];simp [lH]
theorem OE {l:List aX} {k:Nat} (h:k < l.length):kF acc rej (l.take (k+1))=kF acc rej (l.take k)++yE acc rej l[k]:=by rw [iU h,abE];simp [kF]
theorem apj (x:ay):(xB acc rej x).length≤1:=by rw [abG];(repeat' split) <;> simp
theorem apl (x:aW):(xC acc rej x).length≤1:=by rw [abJ];(repeat' split) <;> simp
theorem apf (x:aX):(yE acc rej x).length≤1:=by rw [abD];split <;> simp
theorem abI:∀ l:List ay,(jh acc rej l).length≤l.length
 | []=>by simp [jh]
 | x :: l=>by rw [jh,iI];have:=apj (acc:=acc) (rej:=rej) x;have:=abI l;simp only [kR];omega
theorem UO:∀ l:List aW,(lH acc rej l).length≤l.length
 | []=>by simp [lH]
 | x :: l=>by rw [lH,iI];have:=apl (acc:=acc) (rej:=rej) x;have:=UO l;simp only [kR];omega
theorem UN:∀ l:List aX,(kF acc rej l).length≤l.length
 | []=>by simp [kF]
 | x :: l=>by rw [kF,iI];have:=apf (acc:=acc) (rej:=rej) x;have:=UN l;simp only [kR];omega
theorem UG:∀ l:List aO,dU (l.map aO.dat)=3*l.length
 | []=>by simp [dU]
 | p :: l=>by rw [fK,dU,UG l];simp [aO.dat,bX,mF];omega
theorem QE:∀ l:List gq,dU (l.map gq.dat)=3*l.length
 | []=>by simp [dU]
 | p :: l=>by rw [fK,dU,QE l];simp [gq.dat,bX,mF];omega
theorem Ul:∀ l:List cK,dU (l.map cK.dat)=5*l.length
 | []=>by simp [dU]
 | p :: l=>by rw [fK,dU,Ul l];simp [cK.dat,bX,mF];omega
theorem XE (props:List aO):∀ (L:List (Int × List cK)) (s:List aO × List cK),(wQ acc rej props L s).1.length≤s.1.length+L.length∧(wQ acc rej props L s).2.length≤s.2.length+(L.flatMap Prod.snd).length
 | [],s=>by simp [wQ]
 | (k,l) :: r,s=>by
  rw [wQ];obtain ⟨h1,h2⟩:=XE props r (zx s.1 k (rU acc rej props k l).2,s.2++(rU acc rej props k l).1);have h3:=adf s.1 k (rU acc rej props k l).2;have h4:=RG acc rej props k l;dsimp only at h1 h2;rw [iI] at h2
  simp only [kR,List.flatMap_cons,iI]
  omega
theorem ajJ {f:Nat} {l:List cK} (h:l.length≤f):(qR f l).length≤l.length:=by
 obtain ⟨h1,h2⟩:=Ke f l h
 have key:∀ (L:List (Int × List cK)),(∀ q∈L,q.2≠[])→L.length≤(L.flatMap Prod.snd).length:=by
  intro L
  induction L with
  | nil=>intro _;exact gW _
  | cons q L ih =>
   intro hq;have:=ih fun x hx=>hq x (iQ _ hx);have h3:=List.length_pos_iff.2 (hq q gJ)
   simp only [kR,List.flatMap_cons,iI];omega
 have:=key _ h2
 rwa [h1] at this
theorem MU (h:dM):lW (mJ acc rej h)≤2*lW h:=by
 rw [ET,ET,UG,QE,Ul,UG,QE,Ul];obtain ⟨h1,h2⟩:=XE (acc:=acc) (rej:=rej) h.props (qR h.marks.layers.length h.marks.layers) (h.props,[]);have h3:=ajJ (bM h.marks.layers.length);rw [(Ke _ _ (bM _)).1] at h2;have h4:=List.length_filter_le (fun x:gq=>!rej x.rev) h.marks.bE
 simp only [mJ,List.length_nil] at h1 h2 ⊢
 omega
mutual
theorem apo:∀ x:ay,bK (xB acc rej x)≤2*(1+bX x.dat)
 | .mk k c i tx h f r=>by
  have hf:=OG f;have hr:=abM r;have hh:=MU (acc:=acc) (rej:=rej) h;have e:=xJ (.mk k c i tx h f r)
  simp only [ay.text,ay.head,ay.flow,ay.rows] at e
  have one:∀ y:ay,bK [y]=1+bX y.dat:=fun y=>by simp [bK,dU]
  rw [xB]
  split
  ·simp [bK,dU]
  split
  ·rw [one,xJ];simp only [ay.text,ay.head,ay.flow,ay.rows];omega
  split
  ·split
   ·simp [bK,dU]
   rw [one,xJ];simp only [ay.text,ay.head,ay.flow,ay.rows];omega
  rw [one,xJ];simp only [ay.text,ay.head,ay.flow,ay.rows];omega
theorem apq:∀ x:aW,gZ (xC acc rej x)≤2*(1+bX x.dat)
 | .mk h cs=>by
  have hc:=abL cs;have hh:=MU (acc:=acc) (rej:=rej) h;have e:=BX (.mk h cs)
  simp only [aW.head,aW.cells] at e
  rw [xC]
  split
  ·simp [gZ,dU]
  split
  ·simp [gZ,dU]
  simp only [gZ,fK,qL,dU];rw [BX];simp only [aW.head,aW.cells];omega
theorem apn:∀ x:aX,iP (yE acc rej x)≤2*(1+bX x.dat)
 | .mk i h f=>by
  have hf:=OG f;have hh:=MU (acc:=acc) (rej:=rej) h;have e:=BU (.mk i h f)
  simp only [aX.head,aX.flow] at e
  rw [yE]
  split
  ·simp [iP,dU]
  simp only [iP,fK,qL,dU];rw [BU];simp only [aX.head,aX.flow];omega
theorem OG:∀ l:List ay,bK (jh acc rej l)≤2*bK l
 | []=>by simp [jh,bK,dU]
 | x :: l=>by
  have h1:=apo x;have h2:=OG l;rw [jh,LX,show bK (x :: l)=1+bX x.dat+bK l by simp [bK,dU]];omega
theorem abM:∀ l:List aW,gZ (lH acc rej l)≤2*gZ l
 | []=>by simp [lH,gZ,dU]
 | x :: l=>by
  have h1:=apq x;have h2:=abM l;rw [lH,show ∀ a b:List aW,gZ (a++b)=gZ a+gZ b from fun a b=>by rw [gZ,lY,Jh],show gZ (x :: l)=1+bX x.dat+gZ l by simp [gZ,dU]];omega
theorem abL:∀ l:List aX,iP (kF acc rej l)≤2*iP l
 | []=>by simp [kF,iP,dU]
 | x :: l=>by
  have h1:=apn x;have h2:=abL l;rw [kF,show ∀ a b:List aX,iP (a++b)=iP a+iP b from fun a b=>by rw [iP,lY,Jh],show iP (x :: l)=1+bX x.dat+iP l by simp [iP,dU]];omega
end
end
theorem aao {G:GH} {α:Type} {f:α→Int} {A:List α} {B:Option Addr} {n c k:Nat} (hv:av G (.sl 1 (A.map fun q=>[li (f q)])) (.slice B n c)) (hk:k < A.length):∃ b o,B=some ⟨b,o,none⟩∧aI G b (o+k)=some (vi (f A[k])):=by
 obtain ⟨b,o,cs,h1,h2,h3,h4⟩:=hv.at_ k [li (f A[k])] (by simp [hk])
 simp only [aU] at h4
 obtain ⟨_,_,rfl,⟨rfl,-⟩,rfl⟩:=h4;exact ⟨b,o,h1,by simpa using h3 0 _ rfl⟩
theorem agl:∀ args w,(callFunc 114 args).run prog w=.ok (.enter 114 args) w:=enters func114 rfl (by kernel_rfl)
theorem agm:∀ args w,(callFunc 115 args).run prog w=.ok (.enter 115 args) w:=enters func115 rfl (by kernel_rfl)
theorem TK {p:Nat→Bool} (hp:∀ h,p h=true→p (h+1)=true):∀ (f i j:Nat),i≤j→j - i≤f→(∀ h,i≤h→h < lT p f i j→p h=false)∧(lT p f i j < j→p (lT p f i j)=true)
 | 0,i,j,h1,h2=>⟨fun h a b=>by simp only [lT] at b;omega,fun h=>by simp only [lT] at h;omega⟩
 | f+1,i,j,h1,h2=>by
  have up:∀ a b,a≤b→p a=true→p b=true:=fun a b hab=>by
   induction hab with
   | refl=>exact fun h=>h
   | step _ ih=>exact fun h=>hp _ (ih h)
  rw [lT]
  by_cases h:i < j
  ·rw [au h]
   cases hm:p ((i+j) / 2)
   ·rw [ah (by simp)];obtain ⟨r1,r2⟩:=TK hp f ((i+j) / 2+1) j (by omega) (by omega);refine ⟨fun q a b=>?_,r2⟩
    by_cases hq:(i+j) / 2+1≤q
    ·exact r1 q hq b
    cases hpq:p q
    ·rfl
    rw [up q _ (by omega) hpq] at hm;cases hm
   rw [au rfl];obtain ⟨r1,r2⟩:=TK hp f i ((i+j) / 2) (by omega) (by omega);refine ⟨r1,fun _=>?_⟩
   by_cases hq:lT p f i ((i+j) / 2) < (i+j) / 2
   ·exact r2 hq
   have:=NY (p:=p) f i ((i+j) / 2) (by omega);rw [show lT p f i ((i+j) / 2)=(i+j) / 2 by omega];exact hm
  rw [ah h];exact ⟨fun q a b=>by omega,fun q=>absurd q h⟩
theorem Xd {l:List Int} (hs:l.Pairwise (·≤·)) (t:Int):(∀ h (hh:h < l.length),h < iH l t→l[h] < t)∧∀ hh:iH l t < l.length,t≤l[iH l t]:=by
 -- the test,as if the list went on with its last number
 let p:Nat→Bool:=fun h=>decide (¬ l.getD h 0 < t)
 let p':Nat→Bool:=fun h=>decide (l.length≤h∨¬ l.getD h 0 < t)
 have hpp:∀ (f i j:Nat),j≤l.length→i≤j→lT p f i j=lT p' f i j:=by
  intro f
  induction f with
  | zero=>intro i j _ _;rfl
  | succ f ih =>
   intro i j hj hij;rw [lT,lT]
   by_cases h:i < j
   ·rw [au h,au h]
    have e:p ((i+j) / 2)=p' ((i+j) / 2):=by
     show decide _=decide _
     exact decide_eq_decide.2 ⟨.inr,fun h=>h.resolve_left (by omega)⟩
    rw [e,ih _ _ (by omega) (by omega),ih _ _ hj (by omega)]
   rw [ah h,ah h]
 have hmono:∀ h,p' h=true→p' (h+1)=true:=fun h e=>by
  have e:=nK e;refine jM ?_
  by_cases h1:l.length≤h+1
  ·exact .inl h1
  refine .inr ?_;have e2:=e.resolve_left (by omega);have h3:=List.pairwise_iff_getElem.1 hs h (h+1) (by omega) (by omega) (Nat.lt_succ_self _);rw [List.getD_eq_getElem?_getD,eT (show h < l.length by omega)] at e2;rw [List.getD_eq_getElem?_getD,eT (show h+1 < l.length by omega)]
  simp only [Option.getD_some] at e2 ⊢
  omega
 obtain ⟨r1,r2⟩:=TK hmono l.length 0 l.length (gW _) (by omega);have hn:iH l t=lT p' l.length 0 l.length:=hpp _ _ _ (bM _) (gW _);rw [← hn] at r1 r2;refine ⟨fun h hh h1=>?_,fun hh=>?_⟩
 ·have h2:=of_decide_eq_false (r1 h (gW _) h1);rw [List.getD_eq_getElem?_getD,eT hh] at h2
  simp only [Option.getD_some] at h2
  omega
 have h2:=(nK (r2 hh)).resolve_left (by omega);rw [List.getD_eq_getElem?_getD,eT hh] at h2
 simp only [Option.getD_some] at h2
 omega
theorem akn {l:List Int} (hs:l.Pairwise (·≤·)) (t:Int):pW l t=decide (t∈l):=by
 rw [sG,mH]
 constructor
 ·intro h;exact kQ (nK h)
 intro h;obtain ⟨k,hk,rfl⟩:=List.getElem_of_mem h;obtain ⟨r1,r2⟩:=Xd hs l[k]
 have hkn:iH l l[k]≤k:=by
  by_cases h:iH l l[k]≤k
  ·exact h
  have:=r1 k hk (by omega);omega
 have h2:=r2 (by omega)
 have h3:l[iH l l[k]]≤l[k]:=by
  rcases Nat.lt_or_eq_of_le hkn with h|h
  ·exact List.pairwise_iff_getElem.1 hs _ _ (by omega) hk h
  exact Int.le_of_eq (getElem_congr_idx h)
 exact jM (by rw [eT (by omega:iH l l[k] < l.length)];exact aB some (by omega))
theorem amY (G:GH) (w0:World) (hG:Hold G w0) (x y:Int):Calls prog 114 #[vi x,vi y] w0 (aZ w0 G fun u G'=>u=.bool (decide (x < y))∧G=G'):=by
 refine eN [(0,_),(1,_)] func114 rfl ntmps114 rfl rfl hG ?_;intro a H;refine kP H (SR fun _ K1=>ak K1 rfl (SR fun _ K2=>Rm rfl ?_));clear H K1;intro a H;refine s_call QK H wn rfl (TW _ _ H.ro x) rfl ?_;clear H;rintro v6 G6 a w ⟨rfl,rfl⟩ Er H;refine kH H (Rm rfl (Sp 7 rfl ?_ ?_)) <;> clear H
 ·intro h7 a H
  cases h7
 intro h7 a H
 refine kH H (bF h7 rfl (Pf h7 rfl (Rm rfl ?_)));clear H;intro a H;(iterate 2 refine Jf H (wg H rfl rfl rfl) rfl rfl ?_;clear H;intro a H);refine Jd H (wg H rfl rfl rfl) rfl rfl rfl rfl ?_;clear H;intro a H;exact kH H (Pf rfl rfl (ak K2 rfl (LR results114 rfl fun H=>H.rt ⟨rfl,rfl⟩)))
theorem amI (G:GH) (w0:World) (hG:Hold G w0) (x:Int):Calls prog 115 #[vi x] w0 (aZ w0 G fun u G'=>u=.bool false∧G=G'):=by
 refine eN [(0,_)] func115 rfl ntmps115 rfl rfl hG ?_;intro a H;exact kP H (SR fun _ K1=>ak K1 rfl (SR fun _ K2=>Rm rfl (Rm rfl (Rc rfl (ak K2 rfl (LR results115 rfl fun H=>H.rt ⟨by simp,rfl⟩))))))
theorem aee (G:GH) (w0:World) (hG:Hold G w0) (l:List Int) (t:Int) (v:aj) (hv:av G (.sl 1 (l.map fun k=>[li k])) v) (hl:l.length≤4294967296) :
  Calls prog 62 #[v,vi t] w0 (aZ w0 G fun u G'=>u=.tuple #[vi (iH l t),.bool (pW l t)]∧G=G'):=by
 obtain ⟨A,c,rfl,hc1,hc2,-⟩:=hv.slice;rw [bG] at *;obtain ⟨p,hp⟩:∃ p:Nat→Bool,p=fun h=>decide (¬ l.getD h 0 < t):=⟨_,rfl⟩
 have hbs:iH l t=lT p l.length 0 l.length:=by rw [hp,iH]
 refine eN [(0,_),(1,_)] func62 rfl ntmps62 rfl rfl hG ?_;intro a H;refine kP H (SR fun _ K1=>Ra rfl (ak K1 rfl (SR fun _ K2=>Rm rfl (Rl uo rfl (ak K2 rfl (SR fun _ K3=>Rm rfl (Ra rfl (ak K3 rfl (SQ fun _ K4=>SB ?_)))))))));clear H K1 K2 K3;intro a H;skip;refine eU (ι:=Nat × Nat × Nat) (Tc:=[(0,_),(1,_),(6,_)]) (Lc:=[]) (fun gh=>[(7,vi gh.1),(8,vi gh.2.1)]) (fun gh=>[]) (fun gh=>G) (fun gh=>gh.1≤gh.2.1∧gh.2.1≤l.length∧gh.2.1 - gh.1≤gh.2.2∧lT p gh.2.2 gh.1 gh.2.1=iH l t) (fun gh=>gh.2.1 - gh.1) ((0,l.length,l.length)) (by exact (H).sub ⟨rfl,rfl,rfl,rfl,rfl,aC⟩) ?_ ?_
 ·exact ⟨gW _,bM _,Nat.sub_le _ _,hbs.symm⟩
 clear H;rintro ⟨i,j,f⟩ a w hI H;dsimp only at hI H;obtain ⟨hij,hj,hf1,heq⟩:=hI;dsimp only [lca,bJ] at H;refine kP H (SQ fun _ K5=>SR fun _ K6=>Rm rfl (Rm rfl (Rc rfl (Kz K6 (Cd rfl ?_ ?_))))) <;> clear H K6
 ·intro iY a H
  try have qd:=dT iY
  have hlt:i < j:=by omega
  rw [TL hf1 hlt] at heq;obtain ⟨m,hm⟩:∃ m,m=(i+j) / 2:=⟨_,rfl⟩;rw [← hm] at heq
  have hml:m < l.length:=by omega
  obtain ⟨b,o,rfl,hrow⟩:=aao (f:=fun q=>q) hv hml
  replace hrow:aI G b (o+m*1)=some (vi l[m]):=by rw [Nat.mul_one];exact hrow
  have hpm:p m=decide (¬ l[m] < t):=by rw [hp];simp [List.getD,hml]
  rw [hpm] at heq;refine kP H (Kc K5 (SB (SR fun _ K7=>Rm rfl (Rm rfl (Rd rfl ?_)))));clear H K5;intro a H;rw [show ((i:Int)+(j:Int))=((i+j:Nat):Int) by push_cast;rfl] at H;refine BL ((i+j:Nat):Int) Jm lu H wn rfl (TM (by omega) (by omega)) rfl ?_;clear H;intro a H;refine OT _ H wn rfl rfl rfl (by decide) rfl ?_;clear H;intro a H;rw [TJ,← hm] at H;refine BL (m:Int) lu Jm H wn rfl (Gg (by omega) (by omega)) rfl ?_;clear H;intro a H;refine kH H (ak K7 rfl (SR fun _ K8=>Rm rfl (Rm rfl (Ri uo aH rfl rfl (Rg aH rfl (by assumption) ?_)))));clear H K7;intro a H;refine kH H (Rm rfl ?_);clear H;intro a H;refine s_call agl H wn rfl (amY _ _ H.ro l[m] t) rfl ?_;clear H;rintro v27 PG a w ⟨rfl,rfl⟩ NG H;refine K8 _ _ ?_;clear K8;refine jD H rfl ?_ ?_
  ·intro h27
   try have p27:=dT h27
   rw [ah (by simpa using p27)] at heq;refine kP H (SC (Rm rfl (Rd rfl (Ra rfl ?_))));clear H;intro a H;refine aD ?_;refine dD ((m+1,j,f - 1)) (by exact (H).sub ⟨rfl,rfl,rfl,rfl,rfl,aC⟩) ?_
   (try dsimp only);exact ⟨by omega,hj,by omega,heq⟩
  intro h27
  try have p27:=dF h27
  rw [au (by simpa using p27)] at heq;refine kP H (SC (Rm rfl (Ra rfl ?_)));clear H;intro a H;refine aD ?_;refine dD ((i,m,f - 1)) (by exact (H).sub ⟨rfl,rfl,rfl,rfl,rfl,aC⟩) ?_
  (try dsimp only);exact ⟨by omega,by omega,by omega,heq⟩
 intro iY a H
 try have qd:=dF iY
 refine dV ?_;refine K4 _ _ ?_;clear K4;refine bN (fun _ K9=>?_);rw [TI (by omega)] at heq;refine kP H (SC (Rm rfl (Rm rfl (Rm rfl (Rc rfl (Rm rfl (Sp 35 rfl ?_ ?_))))))) <;> clear H
 ·intro fP a H
  try have p35:=dT fP
  have hil:i < l.length:=by omega
  obtain ⟨b,o,rfl,hrow⟩:=aao (f:=fun q=>q) hv hil
  replace hrow:aI G b (o+i*1)=some (vi l[i]):=by rw [Nat.mul_one];exact hrow
  refine kH H (YM fP rfl (YM fP rfl (YI uo aH fP rfl rfl (YR aH fP rfl (by assumption) ?_))));clear H;intro a H;refine kH H (YM fP rfl (YC fP rfl (YM fP rfl (Sp 42 rfl ?_ ?_)))) <;> clear H
  ·intro jw a H
   try have p42:=dT jw
   refine kH H (bF jw rfl (bF jw rfl (Ku rfl (Ku rfl (Ks jw rfl (PT fP jw rfl (Pt fP rfl (Ra rfl (bq K9 rfl ?_)))))))));clear H K9;intro a H;refine bW ?_;refine (eY H results62 (.cons (aT H rfl) (.cons (aT H rfl) .nil)) ?_).1
   first
    | exact H.rt ⟨by rw [Kr heq.symm (by omega),← heq];simp_all [MO],rfl⟩
    | exact H.rt ⟨by rw [Kv heq.symm (by omega),← heq],rfl⟩
  intro jw a H
  try have p42:=dF jw
  refine kH H (YM jw rfl (YM jw rfl (YI uo aH jw rfl rfl (YR aH jw rfl (by assumption) ?_))));clear H;intro a H;refine s_call agm H (wg H rfl rfl jw) rfl (amI _ _ H.ro l[i]) rfl ?_;clear H;rintro v47 VY a w ⟨rfl,rfl⟩ atu H;refine kH H (YM jw rfl (Sp 48 rfl ?_ ?_)) <;> clear H
  ·intro h48 a H
   cases h48
  intro h48 a H
  try have p48:=dF h48
  refine kH H (aQ h48 rfl (PF jw h48 rfl (PF fP jw rfl (Pt fP rfl (Ra rfl (bq K9 rfl ?_))))));clear H K9;intro a H;refine bW ?_;refine (eY H results62 (.cons (aT H rfl) (.cons (aT H rfl) .nil)) ?_).1
  first
   | exact H.rt ⟨by rw [Kr heq.symm (by omega),← heq];simp_all [MO],rfl⟩
   | exact H.rt ⟨by rw [Kv heq.symm (by omega),← heq],rfl⟩
 intro fP a H
 try have p35:=dF fP
 refine kH H (bF fP rfl (aQ fP rfl (aQ fP rfl (Ku rfl (Ku rfl (Ku rfl (Ku rfl (Ku rfl (Ku rfl (Ku rfl (Ku rfl (Ku rfl (Ks fP rfl (Pf fP rfl (Ra rfl (bq K9 rfl ?_))))))))))))))));clear H K9;intro a H;refine bW ?_;refine (eY H results62 (.cons (aT H rfl) (.cons (aT H rfl) .nil)) ?_).1
 first
  | exact H.rt ⟨by rw [Kr heq.symm (by omega),← heq];simp_all [MO],rfl⟩
  | exact H.rt ⟨by rw [Kv heq.symm (by omega),← heq],rfl⟩
theorem ahu:∀ args w,(callFunc 211 args).run prog w=.ok (.enter 211 args) w:=enters func211 rfl (by kernel_rfl)
theorem ait:∀ args w,(callFunc 62 args).run prog w=.ok (.enter 62 args) w:=enters func62 rfl (by kernel_rfl)
theorem rZ:Ty prog 242 2 16 [.int .i64 0,.bool false] true:=⟨by kernel_rfl,by kernel_rfl⟩
theorem acg:pK prog 242 [(0,1),(1,1)] [.int .i64 0,.bool false]:=⟨by kernel_rfl,by kernel_rfl⟩
theorem ahv:∀ args w,(callFunc 213 args).run prog w=.ok (.enter 213 args) w:=enters func213 rfl (by kernel_rfl)
theorem YH:dH prog 242 0 0:=⟨by kernel_rfl⟩
theorem Q9:dH prog 242 1 1:=⟨by kernel_rfl⟩
theorem ahw:∀ args w,(callFunc 214 args).run prog w=.ok (.enter 214 args) w:=enters func214 rfl (by kernel_rfl)
theorem ahx:∀ args w,(callFunc 215 args).run prog w=.ok (.enter 215 args) w:=enters func215 rfl (by kernel_rfl)
theorem amA (G:GH) (w0:World) (hG:Hold G w0) (l:List gq) (p:gq→Bool) (v fv:aj) (hv:av G (.sl 2 (l.map gq.dat)) v) (hf:∀ x∈l,pO fv G x.dat (p x)) :
  Calls prog 211 #[v,fv] w0 (aZ w0 G fun u G'=>u=vi (mQ (l.findIdx? p))):=by
 obtain ⟨A,c,rfl,hc1,hc2,hg⟩:=hv.slice;have hml:maxLen=9223372036854775807:=rfl;rw [bG] at *;refine eN [(0,_),(1,_)] func211 rfl ntmps211 rfl rfl hG ?_;intro a H;refine kP H (SR fun _ K1=>ak K1 rfl (SQ fun _ K2=>SR fun _ K3=>Rm rfl (Rl lJ rfl (Rm rfl (Kz K3 (SB ?_))))));clear H K1 K3;intro a H;skip;refine eU (ι:=Nat × GH) (Tc:=[(0,_),(1,_),(7,_)]) (Lc:=[]) (fun gh=>[(8,vi gh.1)]) (fun gh=>[]) (fun gh=>gh.2) (fun gh=>gh.1≤l.length∧(l.take gh.1).findIdx? p=none∧(∀ b o,G b=some o→gh.2 b=some o)) (fun gh=>l.length - gh.1) ((0,G)) (by exact (H).sub ⟨rfl,rfl,rfl,rfl,aC⟩) ?_ ?_
 ·exact ⟨by omega,rfl,fun _ _ h=>h⟩
 clear H;rintro ⟨k,g⟩ a w hI H;dsimp only at hI H;obtain ⟨hk,hno,hgm⟩:=hI;dsimp only [lca,bJ] at H;refine kP H (SR fun _ K4=>Rc rfl (Kz K4 (SQ fun _ K5=>Cd rfl ?_ ?_))) <;> clear H K4
 ·intro h9 a H
  try have p9:=dT h9
  have hk2:k < l.length:=by omega
  obtain ⟨b,o,cs,rfl,hcl,hrow,hrep⟩:=hg k l[k].dat (by simp [hk2]);obtain rfl:=JV hrep;replace hrow:=fun j u hj=>aJ hgm (hrow j u hj);refine kP H (Kc K5 (SQ fun _ K6=>SB (SR fun _ K7=>Rm rfl (ak K7 rfl (SR fun _ K8=>Rm rfl (Rm rfl (Rm rfl (Ri lJ nG rfl rfl ?_))))))));clear H K5 K7;intro a H;refine bL nG (cs:=[_,_]) H wn rfl rfl (fun j v hj=>H.hp.aI (hrow j v hj)) rfl ?_;clear H;intro a H;refine ko H wn rfl rfl (hf _ (kS hk2) _ _ _ hgm H.ro (hrep.mono hgm)) rfl ?_;clear H;rintro v16 pF a w rfl mM H;refine K8 _ _ ?_;clear K8;refine jD H rfl ?_ ?_
  ·intro h16
   try have p16:=dT h16
   refine kP H (SR fun _ K9=>Rm rfl (ak K9 rfl ?_));clear H K9;intro a H;refine lr H results211 rfl ?_
   first
    | exact H.rt (by rw [pY hk2 hno h16];rfl)
    | exact H.rt (by rw [show l.take k=l from iC (by omega)] at hno;rw [hno];rfl)
  intro h16
  try have p16:=dF h16
  refine kP H (Kc K6 (SC (Rd rfl (Rm rfl ?_))));clear H K6;intro a H;refine aD ?_;refine dD ((k+1,pF)) (by exact (H).sub ⟨rfl,rfl,rfl,rfl,aC⟩) ?_
  (try dsimp only);exact ⟨by omega,Ac hk2 hno h16,fun b o h=>mM b o (hgm b o h)⟩
 intro h9 a H
 try have p9:=dF h9
 refine dV ?_;refine K2 _ _ ?_;clear K2;refine kP H (SR fun _ aR=>ak aR rfl ?_);clear H aR;intro a H;refine lr H results211 rfl ?_
 first
  | exact H.rt (by rw [pY hk2 hno h16];rfl)
  | exact H.rt (by rw [show l.take k=l from iC (by omega)] at hno;rw [hno];rfl)
theorem Xy (G:GH) (w0:World) (hG:Hold G w0) (l:List gq) (p:gq→Bool) (v fv:aj) (hv:av G (.sl 2 (l.map gq.dat)) v) (hf:∀ x∈l,pO fv G x.dat (p x)) :
  Calls prog 157 #[v,fv] w0 (aZ w0 G fun u G'=>u=.bool (l.findIdx? p).isSome):=by
 refine eN [(0,_),(1,_)] func157 rfl ntmps157 rfl rfl hG ?_;intro a H;refine kP H (SR fun _ K1=>ak K1 rfl (SR fun _ K2=>Rm rfl (Rm rfl ?_)));clear H K1;intro a H;refine s_call ahu H wn rfl (amA _ _ H.ro l p _ _ hv hf) rfl ?_;clear H;rintro v7 G7 a w rfl CX H;refine kH H (Rc rfl (ak K2 rfl ?_));clear H K2;intro a H;refine lr H results157 rfl ?_
 exact H.rt (by cases h:l.findIdx? p <;> simp [mQ])
abbrev GR (s:Int × Bool):aj:=.agg #[vi s.1,.bool s.2]
theorem aed (G:GH) (w0:World) (hG:Hold G w0) (y:cK):Calls prog 161 #[.agg y.cells.toArray] w0 (aZ w0 G fun u G'=>u=GR (y.before,y.had)):=by
 refine eN [(0,_)] func161 rfl ntmps161 rfl rfl hG ?_;intro a H;refine cu (fun _ K1=>?_);refine dQ (cs:=[_,_,_,_]) H wn rfl rfl rfl ?_;clear H;intro b1 a w hb1 H;refine dS rZ H wn rfl ?_;clear H;intro b2 a w hb2 H;refine K1 _ _ ?_;clear K1;refine kP H (SR fun _ K2=>aY Ec aH 1 rfl rfl (aY M7 oI 1 rfl rfl ?_));clear H;intro a H;refine jm acg [_,_] H wn rfl rfl rfl rfl ?_;clear H;intro a H;refine bD rZ 0 (vs:=[_,_]) _ H wn rfl rfl rfl rfl rfl rfl rfl rfl ?_;clear H;intro w H;dsimp only [List.set,setRow] at H;refine K2 _ _ ?_;clear K2;refine bW ?_;refine (leave1 H results161 (.cons (nQ rZ (cs:=[_,_]) H rfl rfl (H.hp.cO 0 rfl rfl)) .nil) ?_).1;exact H.rt rfl
theorem aox (G:GH) (w0:World) (hG:Hold G w0) (h:dM) (p d l:aj) (hh:jd G h p d l) (k:Int) (hl:h.props.length≤4294967296):Calls prog 162 #[qV h p d l,vi k] w0 (aZ w0 G fun u G'=>u=GR (zL h.props k)):=by
 obtain ⟨pA,pn,pc,rfl⟩:=hh.props.form;obtain ⟨dA,dn,dc,rfl⟩:=hh.bE.form;obtain ⟨lA,ln,lc,rfl⟩:=hh.layers.form;refine eN [(0,_),(1,_)] func162 rfl ntmps162 rfl rfl hG ?_;intro a H;refine cu (fun _ K1=>?_);refine dQ (cs:=[_,_,_,_,_]) H wn rfl rfl rfl ?_;clear H;intro b2 a w hb2 H;refine dS rZ H wn rfl ?_;clear H;intro b4 a w hb4 H;refine K1 _ _ ?_;clear K1;refine kP H (SR fun _ K2=>aY xW um 1 rfl rfl (Rm rfl ?_));clear H;intro a H;refine s_call ahv H wn rfl (ajI _ _ H.ro h.props k _ hh.props hl) rfl ?_;clear H;rintro v11 sw a w rfl Br H;refine kH H (Rm rfl ?_);clear H;intro a H;(iterate 2 refine lq H wn rfl rfl rfl ?_;clear H;intro a H);refine kH H (Ra rfl (ak K2 rfl (SR fun _ K3=>Rm rfl (Rm rfl ?_))));clear H K2;intro a H;refine jm acg [_,_] H wn rfl rfl rfl rfl ?_;clear H;intro a H;refine bD rZ 0 (vs:=[_,_]) _ H wn rfl rfl rfl rfl rfl rfl rfl rfl ?_;clear H;intro w H;dsimp only [List.set,setRow] at H;refine K3 _ _ ?_;clear K3;refine bW ?_;refine (leave1 H results162 (.cons (nQ rZ (cs:=[_,_]) H rfl rfl (H.hp.cO 0 rfl rfl)) .nil) ?_).1;exact H.rt rfl
theorem ajF (G:GH) (w0:World) (hG:Hold G w0) (y:cK) (s:Int × Bool):Calls prog 163 #[.agg y.cells.toArray,GR s] w0 (aZ w0 G fun u G'=>u=.agg (cK.cells ⟨y.rev,y.key,s.1,s.2⟩).toArray):=by
 refine eN [(0,_),(1,_)] func163 rfl ntmps163 rfl rfl hG ?_;intro a H;refine cu (fun _ K1=>?_);refine dQ (cs:=[_,_,_,_]) H wn rfl rfl rfl ?_;clear H;intro b2 a w hb2 H;refine dQ (cs:=[_,_]) H wn rfl rfl rfl ?_;clear H;intro b3 a w hb3 H;refine dS jk H wn rfl ?_;clear H;intro b4 a w hb4 H;refine K1 _ _ ?_;clear K1;refine bN (fun _ K2=>?_);refine aeo (hmx) [[],[0],[],[2],[0,1],[0,1,4],(ra 0 6),(ra 0 7)] [6,7] (by kernel_rfl) (by kernel_rfl) 5 (by decide) (fun (dB:Nat) (v:aj) (G:GH)=>match dB with|0=>v=(aK b3 0)|1=>v=vi s.1|2=>v=(aK b3 1)|3=>v=.bool s.2|4=>v=(aK b2 2)|_=>True) 2 ((b2,.cells #[vi y.rev,vi y.key,vi s.1,.bool y.had] 161 (0,0))) H ?_ ?_ ?_ ?_ (by kernel_rfl)
 ·clear H;refine aF ?_ ?_ ?_ ?_ (aF ?_ ?_ (bS rfl) (bS rfl) dz)
  ·intro bB a w G1 _ _ aP hc hG HT hv;have H:=HT;clear aP;have Hb:=H.full;have H:=Hb;clear hc;refine kH H (Rf YH rfl ?_);clear H;intro a H;refine aD ⟨rfl,?_⟩;exact fF (by kernel_rfl) (fun _ _ _ _ _ h=>h) rfl rfl HT Hb hG hv (fun _ _ h=>h) (rfl) H
  ·intro bB a w G1 _ _ aP hc hG HT hv;have H:=HT;clear aP;have H:=H.aM (hv 0 5 (hc 0 (by decide)) rfl) rfl;have Hb:=H.full;have H:=Hb;clear hc;refine kH H (Ro aH 1 rfl ?_);clear H;intro a H;refine aD ⟨rfl,?_⟩;exact fF (by kernel_rfl) (fun _ _ _ _ _ h=>h) rfl rfl HT Hb hG hv (fun _ _ h=>h) (rfl) H
  ·intro bB a w G1 _ _ aP hc hG HT hv;have H:=HT;clear aP;have Hb:=H.full;have H:=Hb;clear hc;refine kH H (Rf Q9 rfl ?_);clear H;intro a H;refine aD ⟨rfl,?_⟩;exact fF (by kernel_rfl) (fun _ _ _ _ _ h=>h) rfl rfl HT Hb hG hv (fun _ _ h=>h) (rfl) H
  ·intro bB a w G1 _ _ aP hc hG HT hv;have H:=HT;clear aP;have H:=H.aM (hv 2 7 (hc 2 (by decide)) rfl) rfl;have Hb:=H.full;have H:=Hb;clear hc;refine kH H (Ro oI 1 rfl ?_);clear H;intro a H;refine aD ⟨rfl,?_⟩;exact fF (by kernel_rfl) (fun _ _ _ _ _ h=>h) rfl rfl HT Hb hG hv (fun _ _ h=>h) (rfl) H
  ·intro bB a w G1 _ _ aP hc hG HT hv;have H:=HT;clear aP;have Hb:=H.full;have H:=Hb;clear hc;refine kH H (Rf Ec rfl ?_);clear H;intro a H;refine aD ⟨rfl,?_⟩;exact fF (by kernel_rfl) (fun _ _ _ _ _ h=>h) rfl rfl HT Hb hG hv (fun _ _ h=>h) (rfl) H
  intro _ _ _ _ _ hB;exact absurd hB (by decide)
 ·clear H;intro o_ bB a w G1 tO _ hc hG HT hv;obtain rfl:_=o_:=Option.some.inj tO;clear tO;have H:=HT;have H:=H.aM (hv 4 9 (hc 4 (by decide)) rfl) rfl;have H:=H.aM (hv 1 6 (hc 1 (by decide)) rfl) rfl;have Hb:=H.full;have H:=Hb;clear hc;refine bD aH 2 (vs:=[_]) _ H wn rfl rfl rfl rfl rfl rfl rfl rfl ?_;clear H;intro w H;dsimp only [List.set,setRow] at H;refine aD ⟨rfl,?_⟩;exact afT rfl HT hG hv H
 ·clear H;refine aF (bS rfl) (bS rfl) ?_ ?_ (aF (bS rfl) ?_ (bS rfl) (bS rfl) dz)
  ·intro bB a w G1 _ _ aP hc hG HT hv;have H:=HT;dsimp only [List.set,List.append,lca,bJ] at H;clear aP;have Hb:=H.full;have H:=Hb;clear hc;refine kH H (Rf Q9 rfl ?_);clear H;intro a H;refine aD ⟨rfl,?_⟩;exact fF (by kernel_rfl) (fun _ _ _ _ _ h=>h) rfl rfl HT Hb hG hv (fun _ _ h=>h) (rfl) H
  ·intro bB a w G1 _ _ aP hc hG HT hv;have H:=HT;dsimp only [List.set,List.append,lca,bJ] at H;clear aP;have H:=H.aM (hv 2 7 (hc 2 (by decide)) rfl) rfl;have Hb:=H.full;have H:=Hb;clear hc;refine kH H (Ro oI 1 rfl ?_);clear H;intro a H;refine aD ⟨rfl,?_⟩;exact fF (by kernel_rfl) (fun _ _ _ _ _ h=>h) rfl rfl HT Hb hG hv (fun _ _ h=>h) (rfl) H
  intro _ _ _ _ _ hB;exact absurd hB (by decide)
 clear H;intro a w G nu H hv;dsimp only [List.set,List.append,lca,bJ] at H;have H:=H.aM (hv 3 8 rfl rfl) rfl;clear hv;refine kH H (Rf M7 rfl ?_);clear H;intro a H;refine bD oI 2 (vs:=[_]) _ H wn rfl rfl rfl rfl rfl rfl rfl rfl ?_;clear H;intro w H;dsimp only [List.set,setRow] at H;refine aD ⟨rfl,?_⟩;refine K2 _ _ ?_;clear K2;refine cu (fun _ K3=>?_);refine bL jk (cs:=[_,_,_,_]) H wn rfl rfl (H.hp.cO 2 rfl rfl) rfl ?_;clear H;intro a H;refine bD jk 0 (vs:=[_,_,_,_]) _ H wn rfl rfl rfl rfl rfl rfl rfl rfl ?_;clear H;intro w H;dsimp only [List.set,setRow] at H;refine K3 _ _ ?_;clear K3;refine bW ?_;refine (leave1 H results163 (.cons (nQ jk (cs:=[_,_,_,_]) H rfl rfl (H.hp.cO 0 rfl rfl)) .nil) ?_).1;exact H.rt rfl
theorem ase (G:GH) (w0:World) (hG:Hold G w0) (ps:List aO) (io mo:Int) (p:aj) (dA lA:Option Addr) (dn dc ln lc:Nat) (hp:av G (.sl 2 (ps.map aO.dat)) p) (k:Int) (s:Int × Bool) (hl:ps.length≤4294967295) :
  Calls prog 164 #[.agg #[p,vi io,vi mo,.slice dA dn dc,.slice lA ln lc],vi k,GR s] w0 (aZ w0 G fun u G'=>∃ p',u=.agg #[p',vi io,vi mo,.slice dA dn dc,.slice lA ln lc]∧av G' (.sl 2 ((zx ps k s).map aO.dat)) p'):=by
 obtain ⟨pA,pn,pc,rfl⟩:=hp.form;refine eN [(0,_),(1,_),(2,_)] func164 rfl ntmps164 rfl rfl hG ?_;intro a H;refine cu (fun _ K1=>?_);refine dQ (cs:=[_,_,_,_,_]) H wn rfl rfl rfl ?_;clear H;intro b3 a w hb3 H;refine dQ (cs:=[_,_]) H wn rfl rfl rfl ?_;clear H;intro b5 a w hb5 H;refine dS eu H wn rfl ?_;clear H;intro b6 a w hb6 H;refine K1 _ _ ?_;clear K1;refine kP H (SQ fun _ K2=>SR fun _ K3=>aY Q9 oI 1 rfl rfl (Kz K3 (Cd rfl ?_ ?_))) <;> clear H K3
 ·intro h8 a H
  try have p8:=dT h8
  refine kP H (SC (aY xW um 2 rfl rfl (Rm rfl (aY YH aH 1 rfl rfl ?_))));clear H;intro a H;refine s_call ahw H wn rfl (aqm _ _ H.ro ps k s.1 _ hp hl) rfl ?_;clear H;rintro v14 Aw a w rX yY H;obtain ⟨Pw,n14,c14,rfl⟩:=rX.form;refine kH H (Rf xW rfl ?_);clear H;intro a H;refine bD um 2 (vs:=[_]) _ H wn rfl rfl rfl rfl rfl rfl rfl rfl ?_;clear H;intro w H;dsimp only [List.set,setRow] at H;refine aD ?_;refine K2 _ _ ?_;clear K2;refine cu (fun _ K4=>?_);refine bL eu (cs:=[_,_,_,_,_]) H wn rfl rfl (H.hp.cO 2 rfl rfl) rfl ?_;clear H;intro a H;refine bD eu 0 (vs:=[_,_,_,_,_]) _ H wn rfl rfl rfl rfl rfl rfl rfl rfl ?_;clear H;intro w H;dsimp only [List.set,setRow] at H;refine K4 _ _ ?_;clear K4;refine bW ?_;refine (leave1 H results164 (.cons (nQ eu (cs:=[_,_,_,_,_]) H rfl rfl (H.hp.cO 0 rfl rfl)) .nil) ?_).1;exact H.rt ⟨_,rfl,by rw [zx,au (by assumption)];exact rX⟩
 intro h8 a H
 try have p8:=dF h8
 refine kP H (SC (aY xW um 2 rfl rfl (Rm rfl ?_)));clear H;intro a H;refine s_call ahx H wn rfl (aeZ _ _ H.ro ps k _ hp hl) rfl ?_;clear H;rintro v19 Hl a w KJ rW H;obtain ⟨He,n19,c19,rfl⟩:=KJ.form;refine kH H (Rf xW rfl ?_);clear H;intro a H;refine bD um 2 (vs:=[_]) _ H wn rfl rfl rfl rfl rfl rfl rfl rfl ?_;clear H;intro w H;dsimp only [List.set,setRow] at H;refine aD ?_;refine K2 _ _ ?_;clear K2;refine cu (fun _ K5=>?_);refine bL eu (cs:=[_,_,_,_,_]) H wn rfl rfl (H.hp.cO 2 rfl rfl) rfl ?_;clear H;intro a H;refine bD eu 0 (vs:=[_,_,_,_,_]) _ H wn rfl rfl rfl rfl rfl rfl rfl rfl ?_;clear H;intro w H;dsimp only [List.set,setRow] at H;refine K5 _ _ ?_;clear K5;refine bW ?_;refine (leave1 H results164 (.cons (nQ eu (cs:=[_,_,_,_,_]) H rfl rfl (H.hp.cO 0 rfl rfl)) .nil) ?_).1;exact H.rt ⟨_,rfl,by rw [zx,ah (by simp_all)];exact KJ⟩
theorem Yc:∀ args w,(callFunc 212 args).run prog w=.ok (.enter 212 args) w:=enters func212 rfl (by kernel_rfl)
def gP (q:Int × List cK):AP:=fun args g=>∃ v,args=[vi q.1,v]∧av g (.sl 4 (q.2.map cK.dat)) v
theorem Y7 {A:List (Int × List cK)} {k:Nat} {args:List aj} {g:GH} (h:wG (A.map gP) k args g):∃ (hk:k < A.length) (B:Option Addr) (c:Nat),args=[vi A[k].1,.slice B A[k].2.length c]∧av g (.sl 4 (A[k].2.map cK.dat)) (.slice B A[k].2.length c):=by
 obtain ⟨p,hp,hargs⟩:=h;rw [pQ] at hp;obtain ⟨q,hq,rfl⟩:=ou.1 hp;obtain ⟨hk,rfl⟩:=jB.1 hq;obtain ⟨v,h1,h2⟩:=hargs;obtain ⟨B,n,c,rfl⟩:=h2.form;have hn:=h2.len;rw [bG] at hn;subst hn;exact ⟨hk,B,c,h1,h2⟩
theorem av.hd {G:GH} {sz:Nat} {rows:List (List Dat)} {A:Option Addr} {n c:Nat} (h:av G (.sl sz rows) (.slice A n c)) (m:Nat) (hm:m≤rows.length):av G (.sl sz (rows.take m)) (.slice A m c):=by
 have h2:=h.part 0 m (gW _) hm;obtain ⟨A',c',he,hc1,-,-⟩:=h.slice;rw [vB,Nat.sub_zero,Nat.sub_zero] at h2
 by_cases hc:c=0
 ·rw [au hc] at h2;exact h2
 rw [ah hc] at h2
 cases A with
 | none=>exact h2
 | some p=>simpa [Addr.add] using h2
theorem OZ {α:Type} {p:α→Bool}:∀ (r:List α) (i:Nat) (hi:i < r.length),i≤(r.takeWhile p).length→(p r[i]=true↔i < (r.takeWhile p).length)
 | [],_,hi,_=>absurd hi (by simp)
 | x :: r,i,hi,h=>by
  rw [List.takeWhile_cons] at h ⊢
  cases hx:p x
  ·rw [hx] at h
   simp only [Fq,if_false,List.length_nil,Nat.le_zero] at h
   subst h
   simp [hx]
  rw [hx] at h
  simp only [if_true,kR] at h ⊢
  cases i with
  | zero=>simp [hx]
  | succ i=>simpa using OZ r i (by simpa using hi) (by omega)
theorem acz {α:Type} {p:α→Bool} (r:List α):r.drop (r.takeWhile p).length=r.dropWhile p:=by
 conv=>lhs;rw [← List.takeWhile_append_dropWhile (p:=p) (l:=r)]
 rw [List.drop_append_of_le_length (by simp [List.takeWhile_append_dropWhile])]
 simp [List.takeWhile_append_dropWhile]
theorem acA {α:Type} {p:α→Bool} (r:List α):r.take (r.takeWhile p).length=r.takeWhile p:=by
 have:=List.take_left (l₁:=r.takeWhile p) (l₂:=r.dropWhile p)
 rwa [List.takeWhile_append_dropWhile] at this
set_option maxHeartbeats 2000000 in
theorem ajL {G:GH} {bd:Nat} {l:List cK} {v:aj} (hb:aI G bd 4=some v) (hv:av G (.sl 4 (l.map cK.dat)) v) (hz:l.length≤4294967290) :
  Iter prog G (.func (.func 212) #[] #[(aK bd 0)]) ((qR l.length l).map gP):=by
 intro J Jx fv G1 L w0 S9 hGi tJ hJx hJ hO hcb;refine jI (caps:=[(aK bd 0)]) Yc ?_;obtain ⟨A,c,rfl,hc1,hc2,hg⟩:=hv.slice;rw [bG] at *;replace hb:=aJ hGi hb;refine iX (N:=42) (T:=[(0,_),(1,_)]) func212 rfl ntmps212 rfl rfl hO ?_;intro a H;refine kP H (SR fun _ K1=>Rf lZ rfl (Rf zJ rfl (Rg Ap rfl hb (ak K1 rfl (SB ?_)))));clear H K1;intro a H;skip;refine eU (ι:=Nat × List cK × Option Addr × Nat × Nat × OL × GH) (Tc:=[(0,_)]) (Lc:=[]) (fun gh=>[(3,.slice gh.2.2.1 gh.2.1.length gh.2.2.2.1)]) (fun gh=>[]++gh.2.2.2.2.2.1) (fun gh=>gh.2.2.2.2.2.2) (fun gh=>gh.2.1.length≤gh.1∧gh.2.1.length≤4294967290∧(∀ b o,G1 b=some o→gh.2.2.2.2.2.2 b=some o)∧av gh.2.2.2.2.2.2 (.sl 4 (gh.2.1.map cK.dat)) (.slice gh.2.2.1 gh.2.1.length gh.2.2.2.1)∧Now ((qR l.length l).map gP) gP J (qR l.length l).length gh.2.2.2.2.1 (qR gh.1 gh.2.1) gh.2.2.2.2.2.2 gh.2.2.2.2.2.1) (fun gh=>gh.2.1.length) ((l.length,l,A,c,0,L,G1)) (by exact (H).sub ⟨rfl,rfl,aC⟩) ?_ ?_
 ·exact ⟨bM _,hz,fun _ _ h=>h,hv.mono hGi,⟨hJ,fun i a h=>by rw [gI,pQ];rw [h];rfl,by simp⟩⟩
 clear H;rintro ⟨f,rest,B,d,j1,Lt,g⟩ a w hI H;dsimp only at hI H;obtain ⟨hf,hzr,hgm,oV,eP⟩:=hI;dsimp only [lca,bJ] at H;refine kP H (SQ fun _ K2=>SR fun _ K3=>Rm rfl (Rl ku rfl (Rc rfl (Kz K3 (Cd rfl ?_ ?_))))) <;> clear H K3
 ·intro h10 a H
  try have kV:=dT h10
  obtain ⟨y,r,rfl⟩:∃ y r,rest=y :: r:=by cases rest with|nil=>simp at kV|cons y r=>exact ⟨y,r,rfl⟩
  obtain ⟨f,rfl⟩:∃ f',f=f'+1:=⟨f - 1,by rw [kR] at hf;omega⟩;rw [qR] at eP;obtain ⟨b,o,rfl,hr0⟩:=EA oV (k:=0) (by simp);obtain ⟨p,hp⟩:∃ p:cK→Bool,p=fun z=>decide (z.key=y.key):=⟨_,rfl⟩;rw [← hp] at eP;refine kP H (Kc K2 (SB (SR fun _ K4=>ak K4 rfl (SQ fun _ K5=>SB ?_))));clear H K2 K4;intro a H;skip;refine eU (ι:=Nat × GH) (Tc:=[(0,_),(3,_)]) (Lc:=[]) (fun gh=>[(4,vi gh.1)]) (fun gh=>[]++Lt) (fun gh=>gh.2) (fun gh=>1≤gh.1∧gh.1≤1+(r.takeWhile p).length∧(∀ b o,g b=some o→gh.2 b=some o)) (fun gh=>(y :: r).length - gh.1) ((1,g)) (by exact (H).sub ⟨rfl,rfl,rfl,aC⟩) ?_ ?_
  ·exact ⟨bM _,by omega,fun _ _ h=>h⟩
  clear H;rintro ⟨m,g3⟩ a w hI H;dsimp only at hI H;obtain ⟨hm1,hm2,hg3⟩:=hI;dsimp only [lca,bJ] at H;refine bN (fun _ K6=>?_);refine bN (fun _ K7=>?_)
  obtain ⟨km,hkm⟩:∃ km:Int,∀ (h:m < (y :: r).length),(y :: r)[m].key=km:=by
   by_cases h:m < (y :: r).length
   ·exact ⟨((y :: r)[m]'h).key,fun _=>rfl⟩
   exact ⟨0,fun h2=>absurd h2 h⟩
  have hkc:m < (y :: r).length→aI g b (o+m*4+1)=some (vi km):=fun h=>by
   obtain ⟨b',o',he,hrm⟩:=EA oV (k:=m) h
   injection he with he
   injection he with e1 e2
   subst e1 e2;rw [← hkm h];exact hrm 1 _ rfl
  have hlen:(y :: r).length=r.length+1:=rfl
  have hdc:(y :: r).length≤d:=by
   obtain ⟨_,_,he,h1,-,-⟩:=oV.slice
   injection he with _ _ e3
   rw [bG] at h1
   omega
  have htl:(r.takeWhile p).length≤r.length:=(List.takeWhile_sublist (l:=r) p).length_le
  by_cases c0:(m:Int) < ((y :: r).length:Int)
  ·skip;refine dI hmx [[],[],[1],[0,1,2],(ra 0 4),(ra 0 5),(ra 0 5),(ra 0 7),(ra 0 8),(ra 0 9),(ra 0 5),[0,1,2,3,4,10],[0,1,2,3,4,10,11],[0,1,2,3,4,10,11,12],(ra 0 14),(ra 0 15)] [] (by kernel_rfl) [_,_,_,_,_,_,_,(aK b (o+m*4)),_,_,_,(aK b (o+0*4)),_,_,_,_] H (aF (Z0 rfl (Rm rfl)) (Z0 rfl (Rm rfl)) (Z1 1 12 rfl (Rl ku rfl)) (Z2 0 11 2 13 rfl (Rc rfl)) (aF (Z1 3 14 rfl (Rm rfl)) (Z1 4 15 rfl (YM (aG c0) rfl)) (Z1 4 15 rfl (YM (aG c0) rfl)) ?_ (aF (Z2 7 18 4 15 rfl (YF xV (aG c0) rfl)) (X2 8 19 4 15 rfl fun hG=>YR aH (aG c0) rfl (aJ hG (aJ hg3 (hkc (by omega))))) (Z1 4 15 rfl (YM (aG c0) rfl)) ?_ (aF (Z2 11 22 4 15 rfl (YF xV (aG c0) rfl)) (X2 12 23 4 15 rfl fun hG=>YR aH (aG c0) rfl (aJ hG (aJ hg3 (hr0 1 _ rfl)))) (Z3 9 20 13 24 4 15 rfl (YC (aG c0) rfl)) (Z2 4 15 14 25 rfl (Pt (aG c0) rfl)) dz)))) ?_
   ·refine yN 5 16 6 17 4 15 rfl rfl fun _ a w G1 hG HT H fin=>?_;refine yH ku jk m H (wg H rfl rfl (aG c0)) rfl rfl rfl (by omega) rfl ?_;clear H;intro a H;exact fin H iJ rfl
   ·refine dJ 10 21 4 15 rfl rfl fun _ a w G1 hG HT H fin=>?_;refine yH ku jk 0 H (wg H rfl rfl (aG c0)) rfl rfl rfl (by simp) rfl ?_;clear H;intro a H;exact fin H iJ rfl
   clear H;intro a w G uP H hv;have H:=H.aM (hv 15 26 rfl rfl) rfl;clear hv;refine aD ⟨rfl,?_⟩;refine K7 _ _ ?_;clear K7;refine jD H rfl ?_ ?_
   ·intro jE
    try have p26:=dT jE
    have hmr:m - 1 < (r.takeWhile p).length:=by
     refine (OZ (p:=p) r (m - 1) (by omega) (by omega)).1 ?_;have h1:=hkm (by omega)
     have h2:(y :: r)[m]=r[m - 1]:=by
      obtain ⟨q,rfl⟩:∃ q,m=q+1:=⟨m - 1,by omega⟩
      rfl
     rw [hp];rw [h2] at h1;exact jM (by rw [h1];exact p26)
    refine kP H (Kc K6 (SB (SC (Rm rfl (Rd rfl (Ra rfl ?_))))));clear H K6;intro a H;refine aD ?_;refine dD ((m+1,_)) (by exact (H).sub ⟨rfl,rfl,rfl,aC⟩) ?_
    (try dsimp only);exact ⟨by omega,by omega,fun b o h=>uP b o (hg3 b o h)⟩
   intro jE
   try have p26:=dF jE
   refine dV ?_;refine K5 _ _ ?_;clear K5;refine bN (fun _ K8=>?_);refine bN (fun _ K9=>?_)
   have hmr:m=1+(r.takeWhile p).length:=by
    by_cases hlt:m < 1+(r.takeWhile p).length
    ·exfalso
     have h1:=(OZ (p:=p) r (m - 1) (by omega) (by omega)).2 (by omega);have h3:=hkm (by omega)
     have h2:(y :: r)[m]=r[m - 1]:=by
      obtain ⟨q,rfl⟩:∃ q,m=q+1:=⟨m - 1,by omega⟩
      rfl
     have h4:=nK ((congrFun hp _).symm.trans h1);rw [h2] at h3;rw [h3] at h4
     first|exact p26 h4|exact c0 (by omega)
    omega
   have htk:(y :: r).take m=y :: r.takeWhile p:=by rw [hmr,Nat.add_comm,List.take_succ_cons,acA]
   have hdr:(y :: r).drop m=r.dropWhile p:=by rw [hmr,Nat.add_comm,yR,acz]
   rw [← htk,← hdr] at eP;refine dI hmx [[],[],[1],[1,2],[1,2,3],[],[],[5,6],(ra 0 8),(ra 0 9)] [8,9] (by kernel_rfl) [_,_,(aK b (o+0*4)),_,_,_,_,.slice (some ⟨b,o,none⟩) m d] H (aF (Z0 rfl (Rm rfl)) (Z0 rfl (Rm rfl)) ?_ (Z1 2 31 rfl (Rf xV rfl)) (aF (X1 3 32 rfl fun hG=>Rg aH rfl (aJ hG (aJ uP (aJ hg3 (hr0 1 _ rfl))))) (Z0 rfl (Rm rfl)) (Z0 rfl (Rm rfl)) ?_ (bR (bS rfl) (bR (bS rfl) dz)))) ?_
   ·refine fq 1 30 rfl rfl fun _ a w G1 hG HT H fin=>?_;refine yH ku jk 0 H wn rfl rfl rfl (by simp) rfl ?_;clear H;intro a H;exact fin H iJ rfl
   ·refine dJ 5 34 6 35 rfl rfl fun _ a w G1 hG HT H fin=>?_;refine EL ku jk m H wn rfl rfl rfl (by omega) rfl ?_;clear H;intro a H;exact fin H iJ rfl
   clear H;intro a w G mK H hv;have H:=H.aM (hv 0 29 rfl rfl) rfl;have H:=H.aM (hv 4 33 rfl rfl) rfl;have H:=H.aM (hv 7 36 rfl rfl) rfl;clear hv;refine Aj (Li:=[]) (L:=Lt) H wn rfl rfl (hcb j1 _ _ _ _ ⟨_,eP.head,_,rfl,by rw [List.map_take];exact ((oV.hd m (by simp;omega)).mono fun b o h=>mK b o (uP b o (hg3 b o h)))⟩ (fun b o h=>mK b o (uP b o (hg3 b o (hgm b o h)))) (tJ _ _ _ _ (fun b o h=>mK b o (uP b o (hg3 b o h))) eP.now) (Hp.owns (Li:=[]) H.hp)) rfl ?_;clear H;rintro v37 PI Hr a w ⟨b37,rfl,hb1,hb2⟩ KE H;refine kH H (Rn rfl ?_);clear H;intro a H;refine aD ⟨rfl,?_⟩;refine K9 _ _ ?_;clear K9;refine jD H rfl ?_ ?_
   ·intro mq
    try have p38:=dT mq
    refine bW ?_;refine (leave0 H results212 ?_).1
    first
     | exact H.hp.iq (L':=Hr) (by repeat (first|exact gT _|apply List.Sublist.cons)) (.inr (hb2 (by simpa using mq)))
     | exact H.hp.dx (.inl (by
       have:=eP.len;rw [show rest=[] from List.eq_nil_of_length_eq_zero (by omega)] at this
       cases f <;> (simp only [qR,List.length_nil,uy] at this;first|(rw [bG,← this];exact eP.now)|(rw [← this];exact eP.now))))
   intro mq
   try have p38:=dF mq
   refine kP H (Kc K8 (SC (Rm rfl (Rm rfl ?_))));clear H K8;intro a H;refine zm ku jk m H wn rfl rfl rfl (by omega) rfl ?_;clear H;intro a H;refine kH H (Ra rfl ?_);clear H;intro a H;refine aD ?_;refine Uk ((f,(y :: r).drop m,_,d - m,j1+1,Hr,PI)) (by exact (show St _ _ _ _ _ _ _ ((3,.slice _ ((y :: r).drop m).length (d - m)) :: _) _ _ from by rw [List.length_drop];exact H).sub ⟨rfl,rfl,aC⟩) ?_ ?_
   ·(try dsimp only);refine ⟨by rw [List.length_drop];omega,by rw [List.length_drop];omega,fun b o h=>KE b o (mK b o (uP b o (hg3 b o (hgm b o h)))),?_,eP.step (hb1 (by simpa using mq))⟩;have h1:=oV.part m (y :: r).length (by omega) (by simp);rw [← List.map_drop,iC (by simp)] at h1;rw [List.length_drop];exact h1.mono fun b o h=>KE b o (mK b o (uP b o (hg3 b o h)))
   show ((y :: r).drop m).length < (y :: r).length;rw [List.length_drop];omega
  skip;refine dI hmx [[],[],[1],[0,1,2],(ra 0 4),(ra 0 5),(ra 0 5),(ra 0 7),(ra 0 8),(ra 0 9),(ra 0 5),[0,1,2,3,4,10],[0,1,2,3,4,10,11],[0,1,2,3,4,10,11,12],(ra 0 14),(ra 0 15)] [] (by kernel_rfl) [_,_,_,_,_,undef,undef,undef,undef,undef,undef,undef,undef,undef,undef,_] H (aF (Z0 rfl (Rm rfl)) (Z0 rfl (Rm rfl)) (Z1 1 12 rfl (Rl ku rfl)) (Z2 0 11 2 13 rfl (Rc rfl)) (aF (Z1 3 14 rfl (Rm rfl)) (aV 4 (aS c0) rfl rfl) (aV 4 (aS c0) rfl rfl) (aV 4 (aS c0) rfl rfl) (aF (aV 4 (aS c0) rfl rfl) (aV 4 (aS c0) rfl rfl) (aV 4 (aS c0) rfl rfl) (aV 4 (aS c0) rfl rfl) (aF (aV 4 (aS c0) rfl rfl) (aV 4 (aS c0) rfl rfl) (aV 4 (aS c0) rfl rfl) (Z2 4 15 14 25 rfl (Pf (aS c0) rfl)) dz)))) ?_
  clear H;intro a w G uP H hv;have H:=H.aM (hv 15 26 rfl rfl) rfl;clear hv;refine aD ⟨rfl,?_⟩;refine K7 _ _ ?_;clear K7;refine rP H rfl rfl ?_;refine dV ?_;refine K5 _ _ ?_;clear K5;refine bN (fun _ aR=>?_);refine bN (fun _ bQ=>?_)
  have hmr:m=1+(r.takeWhile p).length:=by
   by_cases hlt:m < 1+(r.takeWhile p).length
   ·exfalso
    have h1:=(OZ (p:=p) r (m - 1) (by omega) (by omega)).2 (by omega);have h3:=hkm (by omega)
    have h2:(y :: r)[m]=r[m - 1]:=by
     obtain ⟨q,rfl⟩:∃ q,m=q+1:=⟨m - 1,by omega⟩
     rfl
    have h4:=nK ((congrFun hp _).symm.trans h1);rw [h2] at h3;rw [h3] at h4
    first|exact p26 h4|exact c0 (by omega)
   omega
  have htk:(y :: r).take m=y :: r.takeWhile p:=by rw [hmr,Nat.add_comm,List.take_succ_cons,acA]
  have hdr:(y :: r).drop m=r.dropWhile p:=by rw [hmr,Nat.add_comm,yR,acz]
  rw [← htk,← hdr] at eP;refine dI hmx [[],[],[1],[1,2],[1,2,3],[],[],[5,6],(ra 0 8),(ra 0 9)] [8,9] (by kernel_rfl) [_,_,(aK b (o+0*4)),_,_,_,_,.slice (some ⟨b,o,none⟩) m d] H (aF (Z0 rfl (Rm rfl)) (Z0 rfl (Rm rfl)) ?_ (Z1 2 31 rfl (Rf xV rfl)) (aF (X1 3 32 rfl fun hG=>Rg aH rfl (aJ hG (aJ uP (aJ hg3 (hr0 1 _ rfl))))) (Z0 rfl (Rm rfl)) (Z0 rfl (Rm rfl)) ?_ (bR (bS rfl) (bR (bS rfl) dz)))) ?_
  ·refine fq 1 30 rfl rfl fun _ a w G1 hG HT H fin=>?_;refine yH ku jk 0 H wn rfl rfl rfl (by simp) rfl ?_;clear H;intro a H;exact fin H iJ rfl
  ·refine dJ 5 34 6 35 rfl rfl fun _ a w G1 hG HT H fin=>?_;refine EL ku jk m H wn rfl rfl rfl (by omega) rfl ?_;clear H;intro a H;exact fin H iJ rfl
  clear H;intro a w G mK H hv;have H:=H.aM (hv 0 29 rfl rfl) rfl;have H:=H.aM (hv 4 33 rfl rfl) rfl;have H:=H.aM (hv 7 36 rfl rfl) rfl;clear hv;refine Aj (Li:=[]) (L:=Lt) H wn rfl rfl (hcb j1 _ _ _ _ ⟨_,eP.head,_,rfl,by rw [List.map_take];exact ((oV.hd m (by simp;omega)).mono fun b o h=>mK b o (uP b o (hg3 b o h)))⟩ (fun b o h=>mK b o (uP b o (hg3 b o (hgm b o h)))) (tJ _ _ _ _ (fun b o h=>mK b o (uP b o (hg3 b o h))) eP.now) (Hp.owns (Li:=[]) H.hp)) rfl ?_;clear H;rintro v37 PI Hr a w ⟨b37,rfl,hb1,hb2⟩ KE H;refine kH H (Rn rfl ?_);clear H;intro a H;refine aD ⟨rfl,?_⟩;refine bQ _ _ ?_;clear bQ;refine jD H rfl ?_ ?_
  ·intro mq
   try have p38:=dT mq
   refine bW ?_;refine (leave0 H results212 ?_).1
   first
    | exact H.hp.iq (L':=Hr) (by repeat (first|exact gT _|apply List.Sublist.cons)) (.inr (hb2 (by simpa using mq)))
    | exact H.hp.dx (.inl (by
      have:=eP.len;rw [show rest=[] from List.eq_nil_of_length_eq_zero (by omega)] at this
      cases f <;> (simp only [qR,List.length_nil,uy] at this;first|(rw [bG,← this];exact eP.now)|(rw [← this];exact eP.now))))
  intro mq
  try have p38:=dF mq
  refine kP H (Kc aR (SC (Rm rfl (Rm rfl ?_))));clear H aR;intro a H;refine zm ku jk m H wn rfl rfl rfl (by omega) rfl ?_;clear H;intro a H;refine kH H (Ra rfl ?_);clear H;intro a H;refine aD ?_;refine Uk ((f,(y :: r).drop m,_,d - m,j1+1,Hr,PI)) (by exact (show St _ _ _ _ _ _ _ ((3,.slice _ ((y :: r).drop m).length (d - m)) :: _) _ _ from by rw [List.length_drop];exact H).sub ⟨rfl,rfl,aC⟩) ?_ ?_
  ·(try dsimp only);refine ⟨by rw [List.length_drop];omega,by rw [List.length_drop];omega,fun b o h=>KE b o (mK b o (uP b o (hg3 b o (hgm b o h)))),?_,eP.step (hb1 (by simpa using mq))⟩;have h1:=oV.part m (y :: r).length (by omega) (by simp);rw [← List.map_drop,iC (by simp)] at h1;rw [List.length_drop];exact h1.mono fun b o h=>KE b o (mK b o (uP b o (hg3 b o h)))
  show ((y :: r).drop m).length < (y :: r).length;rw [List.length_drop];omega
 intro h10 a H
 try have kV:=dF h10
 refine dV ?_;refine (leave0 H results212 ?_).2
 first
  | exact H.hp.iq (L':=Hr) (by repeat (first|exact gT _|apply List.Sublist.cons)) (.inr (hb2 (by simpa using mq)))
  | exact H.hp.dx (.inl (by
    have:=eP.len;rw [show rest=[] from List.eq_nil_of_length_eq_zero (by omega)] at this
    cases f <;> (simp only [qR,List.length_nil,uy] at this;first|(rw [bG,← this];exact eP.now)|(rw [← this];exact eP.now))))
theorem ant (G:GH) (w0:World) (hG:Hold G w0) (h:dM) (p d l:aj) (hh:jd G h p d l) (hz:h.marks.layers.length≤4294967290) :
  Calls prog 160 #[qV h p d l] w0 (aZ w0 G fun u G'=>∃ bd,u=.func (.func 212) #[] #[(aK bd 0)]∧Iter prog G' u ((qR h.marks.layers.length h.marks.layers).map gP)):=by
 obtain ⟨pA,pn,pc,rfl⟩:=hh.props.form;obtain ⟨dA,dn,dc,rfl⟩:=hh.bE.form;obtain ⟨lA,ln,lc,rfl⟩:=hh.layers.form;refine eN [(0,_)] func160 rfl ntmps160 rfl rfl hG ?_;intro a H;refine cu (fun _ K1=>?_);refine dQ (cs:=[_,_,_,_,_]) H wn rfl rfl rfl ?_;clear H;intro b1 a w hb1 H;refine kH H (ak K1 rfl (SR fun _ K2=>?_));clear H K1;intro a H;refine oZ H wn rfl rfl ?_;clear H;intro a H;refine kH H (ak K2 rfl ?_);clear H K2;intro a H;refine bW ?_;obtain ⟨G2,hm2,hb1,H⟩:=H.eH;refine lv H results160 rfl ?_;exact H.rt ⟨b1,rfl,ajL (v:=.slice lA ln lc) (by unfold aI;rw [hb1];rfl) (hh.layers.mono hm2) hz⟩
theorem vO {G:GH} {b:Nat} {cs:List aj} {e:TypeId} {q:Nat × Nat} (h:G b=some (.cells cs.toArray e q)) (k:Nat) (ds:List aj) (hd:ds=(cs.drop k).take ds.length) (j:Nat) (v:aj) (hj:ds[j]?=some v):aI G b (k+j)=some v:=by
 unfold aI
 rw [h]
 show cs.toArray[k+j]?=some v
 rw [hd,sU] at hj
 split at hj
 ·simpa using hj
 cases hj
theorem acD:Ty prog 232 1 8 [.nilFunc] false:=⟨by kernel_rfl,by kernel_rfl⟩
theorem X6:∀ args w,(callFunc 157 args).run prog w=.ok (.enter 157 args) w:=enters func157 rfl (by kernel_rfl)
theorem Jo:prog.underlying 240=some (.slice 242):=by kernel_rfl
theorem Jg:pK prog 29 [(0,1),(1,4)] [.slice none 0 0,.int .i64 0,.int .i64 0,.slice none 0 0,.slice none 0 0]:=⟨by kernel_rfl,by kernel_rfl⟩
theorem Va:pK prog 27 [(0,1),(1,1),(2,1),(3,1)] [.int .i64 0,.int .i64 0,.slice none 0 0,.slice none 0 0]:=⟨by kernel_rfl,by kernel_rfl⟩
theorem agQ:∀ args w,(callFunc 160 args).run prog w=.ok (.enter 160 args) w:=enters func160 rfl (by kernel_rfl)
theorem agR:∀ args w,(callFunc 161 args).run prog w=.ok (.enter 161 args) w:=enters func161 rfl (by kernel_rfl)
theorem agS:∀ args w,(callFunc 162 args).run prog w=.ok (.enter 162 args) w:=enters func162 rfl (by kernel_rfl)
theorem agT:∀ args w,(callFunc 163 args).run prog w=.ok (.enter 163 args) w:=enters func163 rfl (by kernel_rfl)
theorem agU:∀ args w,(callFunc 164 args).run prog w=.ok (.enter 164 args) w:=enters func164 rfl (by kernel_rfl)
theorem agM:∀ args w,(callFunc 155 args).run prog w=.ok (.enter 155 args) w:=enters func155 rfl (by kernel_rfl)
theorem agN:∀ args w,(callFunc 156 args).run prog w=.ok (.enter 156 args) w:=enters func156 rfl (by kernel_rfl)
theorem agO:∀ args w,(callFunc 158 args).run prog w=.ok (.enter 158 args) w:=enters func158 rfl (by kernel_rfl)
def DZ (vv:aj) (G:GH) (acc rej:Int→Bool):Prop:=∀ (G1:GH) (w1:World),(∀ b o,G b=some o→G1 b=some o)→Hold G1 w1→∀ r:Int,sj prog vv [vi r] w1 (aZ w1 G1 fun u G'=>u=.tuple #[.bool (acc r),.bool (rej r)])
def DK (fv:aj) (G:GH) (f:Int→Bool):Prop:=∀ (G1:GH) (w1:World),(∀ b o,G b=some o→G1 b=some o)→Hold G1 w1→∀ r:Int,sj prog fv [vi r] w1 (aZ w1 G1 fun u G'=>u=.bool (f r))
theorem DZ.mono {vv:aj} {G G':GH} {acc rej:Int→Bool} (hm:∀ b o,G b=some o→G' b=some o) (h:DZ vv G acc rej):DZ vv G' acc rej:=fun G1 w1 h1=>h G1 w1 fun b o hb=>h1 b o (hm b o hb)
theorem DK.mono {vv:aj} {G G':GH} {f:Int→Bool} (hm:∀ b o,G b=some o→G' b=some o) (h:DK vv G f):DK vv G' f:=fun G1 w1 h1=>h G1 w1 fun b o hb=>h1 b o (hm b o hb)
abbrev Mx (b:Nat):aj:=.func (.func 155) #[] #[(aK b 0)]
abbrev OB (b:Nat):aj:=.func (.func 156) #[] #[(aK b 0)]
theorem adQ {G:GH} {b:Nat} {vv:aj} {acc rej:Int→Bool} (hb:aI G b 0=some vv) (hv:DZ vv G acc rej):DK (Mx b) G acc:=by
 intro G1 w0 hm hG r;refine jI (caps:=[(aK b 0)]) agM ?_;replace hb:=aJ hm hb;refine eN [(0,_),(1,_)] func155 rfl ntmps155 rfl rfl hG ?_;intro a H;refine kP H (SR fun _ K1=>ak K1 rfl (SR fun _ K2=>Rg acD rfl hb (Rm rfl ?_)));clear H K1;intro a H;refine ko H wn rfl rfl (hv _ _ hm H.ro r) rfl ?_;clear H;rintro v9 G9 a w rfl tN H;refine kH H (Rm rfl ?_);clear H;intro a H;(iterate 2 refine lq H wn rfl rfl rfl ?_;clear H;intro a H);exact kH H (Ra rfl (ak K2 rfl (SR fun _ K3=>Rm rfl (ak K3 rfl (LR results155 rfl fun H=>H.rt rfl)))))
theorem aoQ {G:GH} {b:Nat} {vv:aj} {acc rej:Int→Bool} (hb:aI G b 0=some vv) (hv:DZ vv G acc rej):DK (OB b) G rej:=by
 intro G1 w0 hm hG r;refine jI (caps:=[(aK b 0)]) agN ?_;replace hb:=aJ hm hb;refine eN [(0,_),(1,_)] func156 rfl ntmps156 rfl rfl hG ?_;intro a H;refine kP H (SR fun _ K1=>ak K1 rfl (SR fun _ K2=>Rg acD rfl hb (Rm rfl ?_)));clear H K1;intro a H;refine ko H wn rfl rfl (hv _ _ hm H.ro r) rfl ?_;clear H;rintro v9 G9 a w rfl tN H;refine kH H (Rm rfl ?_);clear H;intro a H;(iterate 2 refine lq H wn rfl rfl rfl ?_;clear H;intro a H);exact kH H (Ra rfl (ak K2 rfl (SR fun _ K3=>Rm rfl (ak K3 rfl (LR results156 rfl fun H=>H.rt rfl)))))
theorem XM {G:GH} {b:Nat} {fv:aj} {acc:Int→Bool} (hb:aI G b 0=some fv) (hv:DK fv G acc) (x:gq):pO (.func (.func 158) #[] #[(aK b 0)]) G x.dat (acc x.rev):=by
 intro G1 w0 cs hm hG hr;obtain rfl:=JV hr;refine jI (caps:=[(aK b 0)]) agO ?_;replace hb:=aJ hm hb;refine eN [(0,_),(1,_)] func158 rfl ntmps158 rfl rfl hG ?_;intro a H;refine cu (fun _ K1=>?_);refine dQ (cs:=[_,_]) H wn rfl rfl rfl ?_;clear H;intro b2 a w hb2 H;refine kH H (ak K1 rfl (SR fun _ K2=>Rg BQ rfl hb (aY Eb aH 0 rfl rfl ?_)));clear H K1;intro a H;refine ko H wn rfl rfl (hv _ _ hm H.ro x.rev) rfl ?_;clear H;rintro v7 G7 a w rfl CX H;exact kH H (ak K2 rfl (LR results158 rfl fun H=>H.rt rfl))
theorem aos (G:GH) (w0:World) (hG:Hold G w0) (l:List aO) (v:aj) (hv:av G (.sl 2 (l.map aO.dat)) v) (hz:l.length≤4294967296) :
  Calls prog 159 #[v] w0 (aZ w0 G fun u G'=>av G' (.sl 2 (l.map aO.dat)) u):=by
 obtain ⟨A,n,c,rfl⟩:=hv.form;refine eN [(0,_)] func159 rfl ntmps159 rfl rfl hG ?_;intro a H;refine kP H (SR fun _ K1=>ak K1 rfl (SR fun _ K2=>Rm rfl ?_));clear H K1;intro a H;refine s_call MZ H wn rfl (Qu _ _ H.ro _ _ _ _ hv (by simpa using hz)) rfl ?_;clear H;rintro v4 G4 a w KL Bu H;exact kH H (ak K2 rfl (LR results159 rfl fun H=>H.rt KL))
abbrev LA (s:Int × Bool):List Dat:=[li s.1,.lf (.bool s.2)]
theorem acp (G:GH) (s:Int × Bool):aU G (LA s) [vi s.1,.bool s.2]:=by simp [aU,av,Value.oneCell']
theorem acu {G:GH} {l:List (Int × Bool)} {A:Option Addr} {n c k:Nat} (hv:av G (.sl 2 (l.map LA)) (.slice A n c)) (hk:k < l.length):∃ b o,A=some ⟨b,o,none⟩∧∀ j u,[vi l[k].1,.bool l[k].2][j]?=some u→aI G b (o+k*2+j)=some u:=by
 obtain ⟨b,o,cs,h1,h2,h3,h4⟩:=hv.at_ k (LA l[k]) (by simp [hk])
 simp only [aU,av] at h4
 obtain ⟨_,_,rfl,⟨rfl,-⟩,_,_,rfl,⟨rfl,-⟩,rfl⟩:=h4;exact ⟨b,o,h1,h3⟩
theorem amW (G:GH) (y:cK):aU G y.dat y.cells:=by simp [cK.dat,cK.cells,aU,av,Value.oneCell']
theorem XL (G:GH) (y:gq):aU G y.dat y.cells:=by simp [gq.dat,gq.cells,aU,av,Value.oneCell']
theorem arb (props:List aO) (key:Int) (l:List cK):(qG props key l).length=l.length+1:=by simp [qG]
theorem Im {l:List gq} {p:gq→Bool}:(l.findIdx? p).isSome=true↔∃ x∈l,p x=true:=by rw [List.findIdx?_isSome,List.any_eq_true]
theorem ajK {L:List (Int × List cK)} {l:List cK} (h:L.flatMap Prod.snd=l) (hn:∀ q∈L,q.2≠[]) (k:Nat) (hk:k≤L.length):k≤((L.take k).flatMap Prod.snd).length∧((L.take k).flatMap Prod.snd).length≤l.length:=by
 constructor
 ·induction k with
  | zero=>exact gW _
  | succ k ih =>
   have:=ih (by omega);rw [iU (by omega),List.flatMap_append,iI];have h2:=List.length_pos_iff.2 (hn L[k] (kS (by omega)))
   simp only [List.flatMap_cons,List.flatMap_nil,jf]
   omega
 have e:l=(L.take k).flatMap Prod.snd++(L.drop k).flatMap Prod.snd:=by rw [← List.flatMap_append,List.take_append_drop,h]
 rw [e,iI];omega
def pE (acc rej:Int→Bool) (h:dM) (u:aj) (G:GH):Prop:=if sI acc rej h then WJ false BZ u G else WJ true (mJ acc rej h) u G
set_option maxHeartbeats 8000000 in
theorem aaP (G:GH) (w0:World) (hG:Hold G w0) (acc rej:Int→Bool) (vv:aj) (hvv:DZ vv G acc rej) (hcv:vv.cells=#[vv]) (h:dM) (p d l:aj) (hh:jd G h p d l) (hz:lW h≤1073741824) :
    Calls prog 96 #[qV h p d l,vv] w0 (aZ w0 G (pE acc rej h)):=by
  have hml:maxLen=9223372036854775807:=rfl;have hzh:=ET h;have hz1:=qH (h.props.map aO.dat);have hz2:=qH (h.marks.bE.map gq.dat);have hz3:=qH (h.marks.layers.map cK.dat)
  simp only [bG] at hz1 hz2 hz3
  obtain ⟨pA,pn,pc,rfl⟩:=hh.props.form;obtain ⟨dA,dn,dc,rfl⟩:=hh.bE.form;obtain ⟨lA,ln,lc,rfl⟩:=hh.layers.form;have hdn:=hh.bE.len;rw [bG] at hdn;subst hdn;refine eN [(0,_),(1,_)] func96 rfl ntmps96 rfl rfl hG ?_;intro a H;refine cu (fun _ K1=>?_);refine dQ (cs:=[_,_,_,_,_]) H wn rfl rfl rfl ?_;clear H;intro b2 a w hb2 H;refine dQ (cs:=[vv]) H wn rfl hcv rfl ?_;clear H;intro b3 a w hb3 H;refine dS eu H wn rfl ?_;clear H;intro b4 a w hb4 H;refine kH H (ak K1 rfl (SR fun _ K2=>?_));clear H K1;intro a H;refine oZ H wn rfl rfl ?_;clear H;intro a H;refine dS BQ H wn rfl ?_;clear H;intro b6 a w hb6 H;refine bD BQ 0 (vs:=[_]) _ H wn rfl rfl rfl rfl rfl rfl rfl rfl ?_;clear H;intro w H;dsimp only [List.set,setRow] at H;refine K2 _ _ ?_;clear K2;refine cu (fun _ K3=>?_);refine oZ H wn rfl rfl ?_;clear H;intro a H;refine dS BQ H wn rfl ?_;clear H;intro b7 a w CO H;refine bD BQ 0 (vs:=[_]) _ H wn rfl rfl rfl rfl rfl rfl rfl rfl ?_;clear H;intro w H;dsimp only [List.set,setRow] at H;refine K3 _ _ ?_;clear K3;refine kP H (SR fun _ K4=>Rf lZ rfl ?_);clear H;intro a H;refine bL Dx (cs:=[_,_,_,_]) H wn rfl rfl (H.hp.cO 4 rfl rfl) rfl ?_;clear H;intro a H;refine dS Dx H wn rfl ?_;clear H;intro b8 a w Ns H;refine bD Dx 0 (vs:=[_,_,_,_]) _ H wn rfl rfl rfl rfl rfl rfl rfl rfl ?_;clear H;intro w H;dsimp only [List.set,setRow] at H;have H:=H.dY (Pl:=[_,_,_,_,_,_]) (dK:=[_,_,_,_,_,_]) [5,4,2,1,0,3] (by decide) rfl;obtain ⟨Ga,hma,hb2',H⟩:=H.eH;obtain ⟨Gb,hmb,zT,H⟩:=H.eH;obtain ⟨Gc,hmc,SE,H⟩:=H.eH;obtain ⟨Gd,hmd,akB,H⟩:=H.eH;obtain ⟨Ge,hme,akC,H⟩:=H.eH;have yh:∀ b o,G b=some o→Ge b=some o:=fun b o h=>hme b o (hmd b o (hmc b o (hmb b o (hma b o h))));have q2:∀ j v,[.slice pA pn pc,vi h.marks.ins,vi h.marks.move,.slice dA h.marks.bE.length dc,.slice lA ln lc][j]?=some v→aI Ge b2 (0+j)=some v:=fun j v hj=>aJ (fun b o h=>hme b o (hmd b o (hmc b o (hmb b o h)))) (vO hb2' 0 _ rfl j v hj);have q8:∀ j v,[vi h.marks.ins,vi h.marks.move,.slice dA h.marks.bE.length dc,.slice lA ln lc][j]?=some v→aI Ge b8 (0+j)=some v:=fun j v hj=>vO akC 0 _ rfl j v hj;have hvb:aI Gb b3 0=some vv:=vO zT 0 [vv] rfl 0 _ rfl;have wV:DK (Mx b3) Ge acc:=(adQ hvb (hvv.mono fun b o h=>hmb b o (hma b o h))).mono fun b o h=>hme b o (hmd b o (hmc b o h));have xZ:DK (OB b3) Ge rej:=(aoQ hvb (hvv.mono fun b o h=>hmb b o (hma b o h))).mono fun b o h=>hme b o (hmd b o (hmc b o h));have q6:aI Ge b6 0=some (Mx b3):=aJ (fun b o h=>hme b o (hmd b o h)) (vO SE 0 [Mx b3] rfl 0 _ rfl);have q7:aI Ge b7 0=some (OB b3):=aJ hme (vO akB 0 [OB b3] rfl 0 _ rfl);replace hh:=hh.mono yh;refine K4 _ _ ?_;clear K4;refine sW (ι:=GH) (Tc:=[(2,_),(4,_),(6,_),(7,_),(8,_)]) (Lc:=[(_,_)]) (fun gh=>[]) (fun gh=>[]) (fun gh=>gh) (fun gh=>¬ sI acc rej h∧(∀ b o,Ge b=some o→gh b=some o)) (by exact (H).sub ⟨rfl,rfl,rfl,rfl,rfl,aC⟩) ?_ ?_
  · skip;refine kP H (SR fun _ K5=>Rf rR rfl (Rg aH rfl (q8 0 _ rfl) (Rc rfl (Rm rfl (Sp 29 rfl ?_ ?_))))) <;> clear H
    · intro gN a H
      try have p29:=dT gN
      refine kH H (YR BQ gN rfl q7 (YF rR gN rfl (YR aH gN rfl (q8 0 _ rfl) ?_)));clear H;intro a H;refine ko H (wg H rfl rfl gN) rfl rfl (xZ _ _ (fun _ _ h=>h) H.ro h.marks.ins) rfl ?_;clear H;rintro v33 VT a w rfl KD H;refine kH H (Pt gN rfl (Rm rfl (Sp 35 rfl ?_ ?_))) <;> clear H
      · intro fP a H
        try have p35:=dT fP
        refine kH H (aQ fP rfl (aQ fP rfl (Pt fP rfl (Kz K5 (Ct rfl rfl (SR fun _ K6=>?_))))));clear H K5;intro a H;refine jm Jg [_,_,_,_,_] H wn rfl rfl rfl rfl ?_;clear H;intro a H;refine bD eu 0 (vs:=[_,_,_,_,_]) _ H wn rfl rfl rfl rfl rfl rfl rfl rfl ?_;clear H;intro w H;dsimp only [List.set,setRow] at H;refine kH H (ak K6 rfl ?_);clear H K6;intro a H;refine bW ?_;refine (eY H results96 (.cons (nQ eu (cs:=[_,_,_,_,_]) H rfl rfl (H.hp.cO 0 rfl rfl)) (.cons (aT H rfl) .nil)) ?_).1
        first
          | exact H.rt (by rw [pE,au (by first|exact .inl ⟨by assumption,by assumption⟩|exact .inr (Im.1 (by assumption)))];exact ⟨_,_,_,rfl,Pq _⟩)
          | (obtain ⟨PL,zW,yu,H⟩:=St.nW (Li:=[_,_]) H hrw (rows:=ly.map cK.dat) (by simp) dP
             exact H.rt (by rw [pE,ah Bv,Nz];exact ⟨_,_,_,rfl,⟨hpv.mono zW,(hdr.mono mM).mono zW,yu⟩⟩))
      intro fP a H
      try have p35:=dF fP
      refine kH H (YF pU fP rfl (YR qj fP rfl (aJ (by first|assumption|exact fun _ _ h=>h) (q8 2 _ rfl)) ?_));clear H;intro a H;refine oZ H (wg H rfl rfl fP) rfl rfl ?_;clear H;intro a H;refine s_call X6 H (wg H rfl rfl fP) rfl (Xy _ _ H.ro h.marks.bE (fun x=>acc x.rev) _ _ (hh.bE.mono (by first|assumption|exact fun _ _ h=>h)) (fun x _=>XM (aJ (by first|assumption|exact fun _ _ h=>h) q6) (wV.mono (by first|assumption|exact fun _ _ h=>h)) x)) rfl ?_;clear H;rintro v39 VW a w rfl NH H;refine kH H (Pf fP rfl (Kz K5 (Cd rfl ?_ ?_))) <;> clear H K5
      · intro kE a H
        try have p40:=dT kE
        refine cu (fun _ K7=>?_);refine jm Jg [_,_,_,_,_] H wn rfl rfl rfl rfl ?_;clear H;intro a H;refine bD eu 0 (vs:=[_,_,_,_,_]) _ H wn rfl rfl rfl rfl rfl rfl rfl rfl ?_;clear H;intro w H;dsimp only [List.set,setRow] at H;refine kH H (ak K7 rfl ?_);clear H K7;intro a H;refine bW ?_;refine (eY H results96 (.cons (nQ eu (cs:=[_,_,_,_,_]) H rfl rfl (H.hp.cO 0 rfl rfl)) (.cons (aT H rfl) .nil)) ?_).1
        first
          | exact H.rt (by rw [pE,au (by first|exact .inl ⟨by assumption,by assumption⟩|exact .inr (Im.1 (by assumption)))];exact ⟨_,_,_,rfl,Pq _⟩)
          | (obtain ⟨PL,zW,yu,H⟩:=St.nW (Li:=[_,_]) H hrw (rows:=ly.map cK.dat) (by simp) dP
             exact H.rt (by rw [pE,ah Bv,Nz];exact ⟨_,_,_,rfl,⟨hpv.mono zW,(hdr.mono mM).mono zW,yu⟩⟩))
      intro kE a H
      try have p40:=dF kE
      refine gU ?_;refine ⟨_,by exact (H).sub ⟨rfl,rfl,rfl,rfl,rfl,aC⟩,?_⟩;exact ⟨fun hg=>hg.elim (fun g=>by simp_all) (fun g=>by have g4:=Im.2 g;simp_all),by first|assumption|exact fun b o h=>NH b o (KD b o h)⟩
    intro gN a H
    try have p29:=dF gN
    refine kH H (aQ gN rfl (aQ gN rfl (Pf gN rfl (Rm rfl ?_))));clear H;intro a H;refine Je pU H (wg H rfl rfl rfl) rfl rfl ?_;clear H;intro a H;refine rC qj H (wg H rfl rfl rfl) rfl (H.hp.aI (aJ (by first|assumption|exact fun _ _ h=>h) (q8 2 _ rfl))) rfl ?_;clear H;intro a H;refine oZ H (wg H rfl rfl rfl) rfl rfl ?_;clear H;intro a H;refine s_call X6 H (wg H rfl rfl rfl) rfl (Xy _ _ H.ro h.marks.bE (fun x=>acc x.rev) _ _ (hh.bE.mono (by first|assumption|exact fun _ _ h=>h)) (fun x _=>XM (aJ (by first|assumption|exact fun _ _ h=>h) q6) (wV.mono (by first|assumption|exact fun _ _ h=>h)) x)) rfl ?_;clear H;rintro v39 VW a w rfl NH H;refine kH H (Pf rfl rfl (Kz K5 (Cd rfl ?_ ?_))) <;> clear H K5
    · intro kE a H
      try have p40:=dT kE
      refine cu (fun _ K8=>?_);refine jm Jg [_,_,_,_,_] H wn rfl rfl rfl rfl ?_;clear H;intro a H;refine bD eu 0 (vs:=[_,_,_,_,_]) _ H wn rfl rfl rfl rfl rfl rfl rfl rfl ?_;clear H;intro w H;dsimp only [List.set,setRow] at H;refine kH H (ak K8 rfl ?_);clear H K8;intro a H;refine bW ?_;refine (eY H results96 (.cons (nQ eu (cs:=[_,_,_,_,_]) H rfl rfl (H.hp.cO 0 rfl rfl)) (.cons (aT H rfl) .nil)) ?_).1
      first
        | exact H.rt (by rw [pE,au (by first|exact .inl ⟨by assumption,by assumption⟩|exact .inr (Im.1 (by assumption)))];exact ⟨_,_,_,rfl,Pq _⟩)
        | (obtain ⟨PL,zW,yu,H⟩:=St.nW (Li:=[_,_]) H hrw (rows:=ly.map cK.dat) (by simp) dP
           exact H.rt (by rw [pE,ah Bv,Nz];exact ⟨_,_,_,rfl,⟨hpv.mono zW,(hdr.mono mM).mono zW,yu⟩⟩))
    intro kE a H
    try have p40:=dF kE
    refine gU ?_;refine ⟨_,by exact (H).sub ⟨rfl,rfl,rfl,rfl,rfl,aC⟩,?_⟩;exact ⟨fun hg=>hg.elim (fun g=>by simp_all) (fun g=>by have g4:=Im.2 g;simp_all),by first|assumption|exact fun b o h=>NH b o (KD b o h)⟩
  clear H;intro gj a w hI H;obtain ⟨Bv,hgj⟩:=hI;replace q2:=fun j v hj=>aJ hgj (q2 j v hj);replace q8:=fun j v hj=>aJ hgj (q8 j v hj);replace q6:=aJ hgj q6;replace q7:=aJ hgj q7;replace wV:=wV.mono hgj;replace xZ:=xZ.mono hgj;replace hh:=hh.mono hgj;dsimp only [lca,bJ] at H;refine bN (fun _ K9=>?_)
  have C9:∀ (aN dB:Nat) (v:aj) (G G':GH),(∀ k o,G k=some o→G' k=some o)→(fun (aN dB:Nat) (v:aj) (G:GH)=>match dB with|0=>v=(aK b2 0)|1=>v=.slice pA pn pc|2=>av G (.sl 2 (h.props.map aO.dat)) v|3=>v=(aK b8 0)|4=>v=vi h.marks.ins|5=>v=(aK b8 1)|6=>v=vi h.marks.move|7=>v=.agg #[vi h.marks.ins,vi h.marks.move,.slice none 0 0,.slice none 0 0]|8=>∃ A n c,v=.agg #[.slice A n c,vi h.marks.ins,vi h.marks.move,.slice none 0 0,.slice none 0 0]∧av G (.sl 2 (h.props.map aO.dat)) (.slice A n c)|9=>v=(aK aN 0)|_=>True) aN dB v G→(fun (aN dB:Nat) (v:aj) (G:GH)=>match dB with|0=>v=(aK b2 0)|1=>v=.slice pA pn pc|2=>av G (.sl 2 (h.props.map aO.dat)) v|3=>v=(aK b8 0)|4=>v=vi h.marks.ins|5=>v=(aK b8 1)|6=>v=vi h.marks.move|7=>v=.agg #[vi h.marks.ins,vi h.marks.move,.slice none 0 0,.slice none 0 0]|8=>∃ A n c,v=.agg #[.slice A n c,vi h.marks.ins,vi h.marks.move,.slice none 0 0,.slice none 0 0]∧av G (.sl 2 (h.props.map aO.dat)) (.slice A n c)|9=>v=(aK aN 0)|_=>True) aN dB v G':=by
    intro aN dB v G G' hm h
    match dB,h with
    | 0,h=>exact h
    | 1,h=>exact h
    | 2,h=>exact av.mono hm h
    | 3,h=>exact h
    | 4,h=>exact h
    | 5,h=>exact h
    | 6,h=>exact h
    | 7,h=>exact h
    | 8,h=>exact let ⟨A,n,c,h1,h2⟩:=h;⟨A,n,c,h1,h2.mono hm⟩
    | 9,h=>exact h
    | 10,h=>exact trivial
    | _+11,h=>exact trivial
  refine aek (hmx) [[],[0],[0,1],[],[3],[],[5],(ra 3 4),(ra 0 8),[],(ra 0 10)] [10] (by kernel_rfl) (by kernel_rfl) 9 (by decide) (.cells #[.slice none 0 0,vi 0,vi 0,.slice none 0 0,.slice none 0 0] 29 (0,0)) (fun (aN dB:Nat) (v:aj) (G:GH)=>match dB with|0=>v=(aK b2 0)|1=>v=.slice pA pn pc|2=>av G (.sl 2 (h.props.map aO.dat)) v|3=>v=(aK b8 0)|4=>v=vi h.marks.ins|5=>v=(aK b8 1)|6=>v=vi h.marks.move|7=>v=.agg #[vi h.marks.ins,vi h.marks.move,.slice none 0 0,.slice none 0 0]|8=>∃ A n c,v=.agg #[.slice A n c,vi h.marks.ins,vi h.marks.move,.slice none 0 0,.slice none 0 0]∧av G (.sl 2 (h.props.map aO.dat)) (.slice A n c)|9=>v=(aK aN 0)|_=>True) (fun _ _ i v G hi h=>by
    (iterate 11 (rcases i with _|i;(first|exact h|exact absurd rfl hi)));exact trivial) H ?_ ?_ ?_ (by kernel_rfl)
  · clear H;refine aF ?_ ?_ ?_ ?_ (aF ?_ ?_ ?_ ?_ (bR ?_ (bR ?_ (bR ?_ dz))))
    · intro aN fJ bB a w G1 _ _ aP hc hG HT hv;have H:=HT;clear aP;have Hb:=H.full;have H:=Hb;clear hc;refine kH H (Rf xW rfl ?_);clear H;intro a H;refine aD ⟨rfl,?_⟩;exact fF (by kernel_rfl) (C9 aN) rfl rfl HT Hb hG hv (fun _ _ h=>h) (rfl) H
    · intro aN fJ bB a w G1 _ _ aP hc hG HT hv;have H:=HT;clear aP;have H:=H.aM (hv 0 42 (hc 0 (by decide)) rfl) rfl;have Hb:=H.full;have H:=Hb;clear hc;refine kH H (Rg um rfl (aJ hG (q2 0 _ rfl)) ?_);clear H;intro a H;refine aD ⟨rfl,?_⟩;exact fF (by kernel_rfl) (C9 aN) rfl rfl HT Hb hG hv (fun _ _ h=>h) (rfl) H
    · intro aN fJ bB a w G1 _ _ aP hc hG HT hv;have H:=HT;clear aP;have H:=H.aM (hv 1 43 (hc 1 (by decide)) rfl) rfl;have Hb:=H.full;have H:=Hb;clear hc;refine s_call QJ H wn rfl (aos _ _ H.ro h.props _ (hh.props.mono hG) (by omega)) rfl ?_;clear H;rintro v44 G44 a w KN ajZ H;refine aD ⟨rfl,?_⟩;exact fF (by kernel_rfl) (C9 aN) rfl rfl HT Hb hG hv ajZ (KN) H
    · intro aN fJ bB a w G1 _ _ aP hc hG HT hv;have H:=HT;clear aP;have Hb:=H.full;have H:=Hb;clear hc;refine kH H (Rf rR rfl ?_);clear H;intro a H;refine aD ⟨rfl,?_⟩;exact fF (by kernel_rfl) (C9 aN) rfl rfl HT Hb hG hv (fun _ _ h=>h) (rfl) H
    · intro aN fJ bB a w G1 _ _ aP hc hG HT hv;have H:=HT;clear aP;have H:=H.aM (hv 3 45 (hc 3 (by decide)) rfl) rfl;have Hb:=H.full;have H:=Hb;clear hc;refine kH H (Rg aH rfl (aJ hG (q8 0 _ rfl)) ?_);clear H;intro a H;refine aD ⟨rfl,?_⟩;exact fF (by kernel_rfl) (C9 aN) rfl rfl HT Hb hG hv (fun _ _ h=>h) (rfl) H
    · intro aN fJ bB a w G1 _ _ aP hc hG HT hv;have H:=HT;clear aP;have Hb:=H.full;have H:=Hb;clear hc;refine kH H (Rf Bd rfl ?_);clear H;intro a H;refine aD ⟨rfl,?_⟩;exact fF (by kernel_rfl) (C9 aN) rfl rfl HT Hb hG hv (fun _ _ h=>h) (rfl) H
    · intro aN fJ bB a w G1 _ _ aP hc hG HT hv;have H:=HT;clear aP;have H:=H.aM (hv 5 47 (hc 5 (by decide)) rfl) rfl;have Hb:=H.full;have H:=Hb;clear hc;refine kH H (Rg aH rfl (aJ hG (q8 1 _ rfl)) ?_);clear H;intro a H;refine aD ⟨rfl,?_⟩;exact fF (by kernel_rfl) (C9 aN) rfl rfl HT Hb hG hv (fun _ _ h=>h) (rfl) H
    · intro aN fJ bB a w G1 _ _ aP hc hG HT hv;have H:=HT;clear aP;have H:=H.aM (hv 4 46 (hc 4 (by decide)) rfl) rfl;have H:=H.aM (hv 6 48 (hc 6 (by decide)) rfl) rfl;have Hb:=H.full;have H:=Hb;clear hc;refine jm Va [_,_,_,_] H wn rfl rfl rfl rfl ?_;clear H;intro a H;refine aD ⟨rfl,?_⟩;exact fF (by kernel_rfl) (C9 aN) rfl rfl HT Hb hG hv (fun _ _ h=>h) (rfl) H
    · intro aN fJ bB a w G1 _ _ aP hc hG HT hv;have H:=HT;clear aP;obtain ⟨u44,amq,KN⟩:=hv 2 44 (hc 2 (by decide)) rfl;(try dsimp only at KN);obtain ⟨A44,n44,c44,rfl⟩:=KN.form;have H:=H.jR amq;have H:=H.aM (hv 7 49 (hc 7 (by decide)) rfl) rfl;have Hb:=H.full;have H:=Hb;clear hc;refine jm Jg [_,_,_,_,_] H wn rfl rfl rfl rfl ?_;clear H;intro a H;refine aD ⟨rfl,?_⟩;exact fF (by kernel_rfl) (C9 aN) rfl rfl HT Hb hG hv (fun _ _ h=>h) (⟨_,_,_,rfl,KN⟩) H
    · intro _ _ _ _ _ _ _ hB;exact absurd hB (by decide)
    intro _ _ _ _ _ _ hB;exact absurd hB (by decide)
  · clear H;intro o_ bB a w G1 tO _ hc hG HT hv;obtain rfl:_=o_:=Option.some.inj tO;clear tO;have H:=HT;have Hb:=H.full;have H:=Hb;clear hc;refine dS eu H wn rfl ?_;clear H;intro b9 a w Bo H;refine aD ⟨rfl,b9,?_⟩;exact MX (by kernel_rfl) rfl HT Hb hG (fun j e h1 h2 h3=>hv _ j e h1 h2 h3) (rfl) H
  clear H;intro b9 a w G iL H hv;have H:=H.aM (hv 9 9 rfl rfl) rfl;obtain ⟨u50,amr,ZV⟩:=hv 8 50 (by decide) rfl;(try dsimp only at ZV);obtain ⟨qA,qn,qc,rfl,F6⟩:=ZV;have H:=H.jR amr;clear hv;refine bD eu 0 (vs:=[_,_,_,_,_]) _ H wn rfl rfl rfl rfl rfl rfl rfl rfl ?_;clear H;intro w H;dsimp only [List.set,setRow] at H;replace q2:=fun j v hj=>aJ iL (q2 j v hj);replace q8:=fun j v hj=>aJ iL (q8 j v hj);replace q6:=aJ iL q6;replace q7:=aJ iL q7;replace wV:=wV.mono iL;replace xZ:=xZ.mono iL;replace hh:=hh.mono iL;obtain ⟨Gf,hGf⟩:∃ g,g=G:=⟨_,rfl⟩;refine aD ⟨rfl,?_⟩;refine K9 _ _ ?_;clear K9;refine sW (ι:=Int × Int × GH) (Tc:=[(2,_),(4,_),(6,_),(7,_),(8,_),(9,_)]) (Lc:=[(_,_)]) (fun gh=>[]) (fun gh=>[(b9,.cells #[.slice qA qn qc,vi gh.1,vi gh.2.1,.slice none 0 0,.slice none 0 0] 29 (0,0))]) (fun gh=>gh.2.2) (fun gh=>gh.1=(if uS acc h then 0 else h.marks.ins)∧gh.2.1=(if uS acc h then 0 else h.marks.move)∧(∀ b o,G b=some o→gh.2.2 b=some o)) (by exact (H.dY (Pl:=[_,_]) (dK:=[_,_]) [1,0] (by decide) rfl).sub ⟨rfl,rfl,rfl,rfl,rfl,rfl,aC⟩) ?_ ?_
  · skip;refine kP H (SR fun _ aR=>Rf rR rfl (Rg aH rfl (q8 0 _ rfl) (Rc rfl (Rm rfl (Sp 54 rfl ?_ ?_))))) <;> clear H
    · intro gL a H
      try have p54:=dT gL
      refine kH H (YR BQ gL rfl q6 (YF rR gL rfl (YR aH gL rfl (q8 0 _ rfl) ?_)));clear H;intro a H;refine ko H (wg H rfl rfl gL) rfl rfl (wV _ _ (fun _ _ h=>h) H.ro h.marks.ins) rfl ?_;clear H;rintro v58 G58 a w rfl atv H;refine kH H (Pt gL rfl (Kz aR (Cd rfl ?_ ?_))) <;> clear H aR
      · intro iK a H
        try have p59:=dT iK
        refine kP H (SC (Rf lZ rfl (Rf rR rfl ?_)));clear H;intro a H;refine bD aH 0 (vs:=[_]) _ H wn rfl rfl rfl rfl rfl rfl rfl rfl ?_;clear H;intro w H;dsimp only [List.set,setRow] at H;refine kH H (Rf lZ rfl (Rf Bd rfl ?_));clear H;intro a H;refine bD aH 0 (vs:=[_]) _ H wn rfl rfl rfl rfl rfl rfl rfl rfl ?_;clear H;intro w H;dsimp only [List.set,setRow] at H;refine aD ?_;refine ⟨(_,_,_),by exact (H.dY (Pl:=[_,_]) (dK:=[_,_]) [1,0] (by decide) rfl).sub ⟨rfl,rfl,rfl,rfl,rfl,rfl,aC⟩,?_⟩;(try dsimp only)
        first
        | exact ⟨(au ⟨by assumption,by assumption⟩).symm,(au ⟨by assumption,by assumption⟩).symm,by assumption⟩
        | exact ⟨(ah (fun hi=>by simp_all [uS])).symm,(ah (fun hi=>by simp_all [uS])).symm,by first|assumption|exact fun _ _ h=>h⟩
      intro iK a H
      try have p59:=dF iK
      refine gU ?_;refine ⟨(_,_,_),by exact (H.dY (Pl:=[_,_]) (dK:=[_,_]) [1,0] (by decide) rfl).sub ⟨rfl,rfl,rfl,rfl,rfl,rfl,aC⟩,?_⟩;(try dsimp only)
      first
      | exact ⟨(au ⟨by assumption,by assumption⟩).symm,(au ⟨by assumption,by assumption⟩).symm,by assumption⟩
      | exact ⟨(ah (fun hi=>by simp_all [uS])).symm,(ah (fun hi=>by simp_all [uS])).symm,by first|assumption|exact fun _ _ h=>h⟩
    intro gL a H
    try have p54:=dF gL
    refine kH H (aQ gL rfl (aQ gL rfl (Pf gL rfl (Kz aR (Cf rfl rfl ?_)))));clear H aR;intro a H;refine gU ?_;refine ⟨(_,_,_),by exact (H.dY (Pl:=[_,_]) (dK:=[_,_]) [1,0] (by decide) rfl).sub ⟨rfl,rfl,rfl,rfl,rfl,rfl,aC⟩,?_⟩;(try dsimp only)
    first
    | exact ⟨(au ⟨by assumption,by assumption⟩).symm,(au ⟨by assumption,by assumption⟩).symm,by assumption⟩
    | exact ⟨(ah (fun hi=>by simp_all [uS])).symm,(ah (fun hi=>by simp_all [uS])).symm,by first|assumption|exact fun _ _ h=>h⟩
  clear H;rintro ⟨io,mo,gk⟩ a w hI H;dsimp only at hI H;obtain ⟨hio,hmo,pX⟩:=hI;replace q2:=fun j v hj=>aJ pX (q2 j v hj);replace q8:=fun j v hj=>aJ pX (q8 j v hj);replace q6:=aJ pX q6;replace q7:=aJ pX q7;replace wV:=wV.mono pX;replace xZ:=xZ.mono pX;replace hh:=hh.mono pX;replace F6:=F6.mono pX;dsimp only [lca,bJ] at H;refine kP H (SQ fun _ bQ=>SR fun _ bY=>Rf pU rfl (Rg qj rfl (q8 2 _ rfl) (Rl lJ rfl (Rm rfl (Kz bY (SB ?_))))));clear H bY;intro a H;skip;refine eU (ι:=Nat × aj × List aj × OL × GH) (Tc:=[(2,_),(4,_),(6,_),(7,_),(9,_),(65,_),(66,_)]) (Lc:=[(_,_)]) (fun gh=>[(67,vi gh.1)]) (fun gh=>[(b9,.cells #[.slice qA qn qc,vi io,vi mo,gh.2.1,.slice none 0 0] 29 (0,0))]++gh.2.2.2.1) (fun gh=>gh.2.2.2.2) (fun gh=>gh.1≤h.marks.bE.length∧bZ 159 2 gh.2.1 ((h.marks.bE.take gh.1).filter fun x=>!rej x.rev).length gh.2.2.1 gh.2.2.2.1∧bT gh.2.2.2.2 2 (((h.marks.bE.take gh.1).filter fun x=>!rej x.rev).map gq.dat) gh.2.2.1∧(∀ b o,gk b=some o→gh.2.2.2.2 b=some o)) (fun gh=>h.marks.bE.length - gh.1) ((0,.slice none 0 0,[],[],gk)) (by exact (H.I4 (A:=[_,_])).sub ⟨rfl,rfl,rfl,rfl,rfl,rfl,rfl,rfl,aC⟩) ?_ ?_
  · exact ⟨by omega,bZ.nil,bT.nil,fun _ _ h=>h⟩
  clear H;rintro ⟨k,v,xs,Ld,g⟩ a w hI H;dsimp only at hI H;obtain ⟨hk,hrw,dP,hgm⟩:=hI;have hfl:=List.length_filter_le (fun x:gq=>!rej x.rev) (h.marks.bE.take k);rw [List.length_take] at hfl;dsimp only [lca,bJ] at H;refine kP H (SR fun _ cZ=>Rc rfl (Kz cZ (SQ fun _ dG=>Cd rfl ?_ ?_))) <;> clear H cZ
  · intro h68 a H
    try have p68:=dT h68
    have hk2:k < h.marks.bE.length:=by omega
    obtain ⟨bd,od,rfl,hrow⟩:=MW (hh.bE.mono hgm) hk2;refine kP H (Kc dG (SQ fun _ dZ=>SB (SR fun _ eB=>Ri lJ nG rfl rfl ?_)));clear H dG;intro a H;refine bL nG (cs:=[_,_]) H wn rfl rfl (fun j v hj=>H.hp.aI (hrow j v hj)) rfl ?_;clear H;intro a H;refine dS nG H wn rfl ?_;clear H;intro b11 a w Kw H;refine bD nG 0 (vs:=[_,_]) _ H wn rfl rfl rfl rfl rfl rfl rfl rfl ?_;clear H;intro w H;dsimp only [List.set,setRow] at H;refine eB _ _ ?_;clear eB;refine kP H (SR fun _ dW=>Rg BQ rfl (aJ hgm q7) (aY Eb aH 0 rfl rfl ?_));clear H;intro a H;refine ko H wn rfl rfl (xZ _ _ hgm H.ro h.marks.bE[k].rev) rfl ?_;clear H;rintro v74 V4 a w rfl NI H;refine kH H (Rn rfl (Kz dW (Cd rfl ?_ ?_))) <;> clear H dW
    · intro yX a H
      try have p75:=dT yX
      refine kP H (SC (Rf lZ rfl (aY pU qj 2 rfl rfl ?_)));clear H;intro a H;refine bL nG (cs:=[_,_]) H wn rfl rfl (H.hp.cO 0 rfl rfl) rfl ?_;clear H;intro a H;refine iE lJ nG [_,_] [_,_] H wn rfl rfl rfl rfl rfl (by intro i q h;match i,h with|0,h=>exact h|n+1,h=>simp at h) rfl rfl ?_;clear H;intro b80 a w atc H;refine nE (Li:=[_,_,_,_]) (Lo:=Ld) (news:=h.marks.bE[k].cells) lJ nG rfl rfl H wn rfl rfl hrw rfl (H.hp.cO 0 rfl rfl) rfl (by omega) (by omega) rfl ?_;clear H;intro v81 adA a w aaf H;obtain ⟨A81,c81,rfl,-,-⟩:=aaf.shape;refine kH H (Rf lZ rfl (Rf pU rfl ?_));clear H;intro a H;refine bD qj 3 (vs:=[_]) _ H wn rfl rfl rfl rfl rfl rfl rfl rfl ?_;clear H;intro w H;dsimp only [List.set,setRow] at H;refine kH H (Kn dZ (SC (Rd rfl (Rm rfl ?_))));clear H dZ;intro a H;refine aD ?_;refine dD ((k+1,_,xs++h.marks.bE[k].cells,adA,V4)) (by exact (H.dY (Pl:=[_,_,_,_]) (dK:=[_,_]) [2,3] (by decide) rfl).sub ⟨rfl,rfl,rfl,rfl,rfl,rfl,rfl,rfl,aC⟩) ?_
      (try dsimp only);exact ⟨by omega,by rw [iU hk2,List.filter_append,List.filter_cons_of_pos (by simp_all),List.filter_nil,iI];exact aaf,by rw [iU hk2,List.filter_append,List.filter_cons_of_pos (by simp_all),List.filter_nil,lY];exact (dP.mono NI).snoc (XL _ _) rfl,fun b o h=>NI b o (hgm b o h)⟩
    intro yX a H
    try have p75:=dF yX
    refine kP H (Kc dZ (SC (Rd rfl (Rm rfl ?_))));clear H dZ;intro a H;refine aD ?_;refine dD ((k+1,v,xs,Ld,V4)) (by exact (H.dY (Pl:=[_,_,_]) (dK:=[_,_]) [1,2] (by decide) rfl).sub ⟨rfl,rfl,rfl,rfl,rfl,rfl,rfl,rfl,aC⟩) ?_
    (try dsimp only);exact ⟨by omega,by rw [iU hk2,List.filter_append,List.filter_cons_of_neg (by simp_all),List.filter_nil,jf];exact hrw,by rw [iU hk2,List.filter_append,List.filter_cons_of_neg (by simp_all),List.filter_nil,jf];exact dP.mono NI,fun b o h=>NI b o (hgm b o h)⟩
  intro h68 a H
  try have p68:=dF h68
  obtain rfl:k=h.marks.bE.length:=by omega
  rw [xL] at hrw dP;obtain ⟨Gr,hmr,hdr,H⟩:=St.nW (Li:=[_,_]) H hrw (rows:=(h.marks.bE.filter fun x=>!rej x.rev).map gq.dat) (by simp) dP;obtain ⟨rA,rn,rc,rfl⟩:=hdr.form;(try dsimp only [lca,bJ] at H);have hgr:∀ b o,gk b=some o→Gr b=some o:=fun b o h=>hmr b o (hgm b o h);replace q2:=fun j v hj=>aJ hgr (q2 j v hj);replace q8:=fun j v hj=>aJ hgr (q8 j v hj);replace q6:=aJ hgr q6;replace q7:=aJ hgr q7;replace wV:=wV.mono hgr;replace xZ:=xZ.mono hgr;replace hh:=hh.mono hgr;replace F6:=F6.mono hgr;refine dV ?_;refine bQ _ _ ?_;clear bQ;refine bN (fun _ fC=>?_);refine cu (fun _ gQ=>?_);refine bL eu (cs:=[.slice pA pn pc,vi h.marks.ins,vi h.marks.move,.slice dA h.marks.bE.length dc,.slice lA ln lc]) H wn rfl rfl (fun j v hj=>H.hp.aI (q2 j v hj)) rfl ?_;clear H;intro a H;refine s_call agQ H wn rfl (ant _ _ H.ro h _ _ _ hh (by omega)) rfl ?_;clear H;rintro v86 G86 a w ⟨bg,rfl,hit⟩ Es H;obtain ⟨all,hall⟩:∃ L,L=qR h.marks.layers.length h.marks.layers:=⟨_,rfl⟩;rw [← hall] at hit;obtain ⟨hfl,hne⟩:=Ke h.marks.layers.length h.marks.layers (bM _);rw [← hall] at hfl hne;have hsum:∀ k,k≤all.length→k≤((all.take k).flatMap Prod.snd).length∧((all.take k).flatMap Prod.snd).length≤h.marks.layers.length:=ajK hfl hne;replace q2:=fun j v hj=>aJ Es (q2 j v hj);replace q6:=aJ Es q6;replace q7:=aJ Es q7;replace wV:=wV.mono Es;replace xZ:=xZ.mono Es;replace hh:=hh.mono Es;replace F6:=F6.mono Es;replace hdr:=hdr.mono Es;refine gQ _ _ ?_;clear gQ;refine Cn ?_;skip;refine Qn (ι:=aj × List aO × aj × List cK × List aj × OL) (κ:=Empty) (Lc:=[(_,_)]) (fun (k:Nat) (gh:aj × List aO × aj × List cK × List aj × OL)=>[(b9,.cells #[gh.1,vi io,vi mo,.slice rA rn rc,gh.2.2.1] 29 (0,0))]) (fun (k:Nat) (gh:aj × List aO × aj × List cK × List aj × OL)=>gh.2.2.2.2.2) (fun (k:Nat) (gh:aj × List aO × aj × List cK × List aj × OL) (g:GH)=>av g (.sl 2 (gh.2.1.map aO.dat)) gh.1∧bZ 161 4 gh.2.2.1 gh.2.2.2.1.length gh.2.2.2.2.1 gh.2.2.2.2.2∧bT g 4 (gh.2.2.2.1.map cK.dat) gh.2.2.2.2.1∧wQ acc rej h.props (all.drop k) (gh.2.1,gh.2.2.2.1)=wQ acc rej h.props all (h.props,[])∧gh.2.1.length≤h.props.length+k∧gh.2.2.2.1.length≤((all.take k).flatMap Prod.snd).length) (fun x=>x.elim) (fun x=>x.elim) (fun x=>x.elim) (fun x=>x.elim) ((.slice qA qn qc,h.props,.slice none 0 0,[],[],[])) (by exact H.I4 (A:=[_,_])) rfl Yc (hit) (fun _ _ h=>h) rfl (fun k args g h=>by obtain ⟨_,_,_,rfl,_⟩:=Y7 h;rfl) (fun k i G G' hm h=>⟨h.1.mono hm,h.2.1,h.2.2.1.mono hm,h.2.2.2⟩) (fun x=>x.elim) (⟨F6,bZ.nil,bT.nil,rfl,bM _,gW _⟩) ?_ ?_ ?_
  · clear H;intro l16 Dm zG bk k args gh pF w16 F16 B16 a alk mM hI akD alD atE H;obtain ⟨pv,ps,vy,ly,xs,Ly⟩:=gh;dsimp only at hI H;obtain ⟨hk,tA,tc,rfl,hlr⟩:=Y7 alk;dsimp only [yS,List.cons_append,List.nil_append] at H;obtain ⟨hpv,hrw,dP,hdc,hpl,hll⟩:=hI;obtain ⟨pvA,pvn,pvc,rfl⟩:=hpv.form;obtain ⟨vyA,vyc,rfl,-,-⟩:=hrw.shape;obtain ⟨key,hkey⟩:∃ x,x=all[k].1:=⟨_,rfl⟩;obtain ⟨ls,hls⟩:∃ x,x=all[k].2:=⟨_,rfl⟩;rw [← hls] at hlr;rw [← hkey,← hls] at H;have hs1:=hsum k (by omega);have hs2:=hsum (k+1) (by omega)
    have hs3:((all.take (k+1)).flatMap Prod.snd).length=((all.take k).flatMap Prod.snd).length+ls.length:=by rw [iU hk,List.flatMap_append,iI,hls];simp
    have F7:=arb h.props key ls;refine kP H (SR fun _ fM=>ak fM rfl (SC (Ra rfl ?_)));clear H fM;intro a H;refine aD ?_;refine akD _ _ _ _ _ _ (by exact H) ?_;clear H;intro w H;refine kP H (SB (SR fun _ gV=>ak gV rfl (SQ fun _ jo=>SR fun _ lD=>Rm rfl (Rl ku rfl (Rm rfl (Kz lD (SB ?_)))))));clear H gV lD;intro a H;skip;refine eU (ι:=Nat × aj × List aj × OL × GH) (Tc:=[(2,_),(6,_),(7,_),(9,_),(12,_),(13,_),(89,_),(90,_)]) (Lc:=[(_,_),(_,_),(_,_)]) (fun gh=>[(14,gh.2.1),(91,vi gh.1)]) (fun gh=>[]++((bk++Ly)++gh.2.2.2.1)) (fun gh=>gh.2.2.2.2) (fun gh=>gh.1≤ls.length∧bZ 242 2 gh.2.1 gh.1 gh.2.2.1 gh.2.2.2.1∧bT gh.2.2.2.2 2 ((ls.take gh.1).map fun y=>LA (y.before,y.had)) gh.2.2.1∧(∀ b o,pF b=some o→gh.2.2.2.2 b=some o)) (fun gh=>ls.length - gh.1) ((0,.slice none 0 0,[],[],pF)) (by exact (H.I4 (A:=[_,_,_])).sub ⟨rfl,rfl,rfl,rfl,rfl,rfl,rfl,rfl,rfl,rfl,aC⟩) ?_ ?_
    · exact ⟨by omega,bZ.nil,bT.nil,fun _ _ h=>h⟩
    clear H;rintro ⟨i,vs,xs2,Ls,g2⟩ a w hI H;dsimp only at hI H;obtain ⟨hi,hrw2,vT,iM⟩:=hI;dsimp only [lca,bJ] at H;refine kP H (SR fun _ kX=>Rc rfl (Kz kX (SQ fun _ kC=>Cd rfl ?_ ?_))) <;> clear H kX
    · intro FR a H
      try have I8:=dT FR
      have hi2:i < ls.length:=by omega
      obtain ⟨bl,ol,rfl,hrow⟩:=EA (hlr.mono iM) hi2;refine kP H (Kc kC (SQ fun _ lK=>SB (SR fun _ lM=>Ri ku jk rfl rfl ?_)));clear H kC;intro a H;refine bL jk (cs:=[_,_,_,_]) H wn rfl rfl (fun j v hj=>H.hp.aI (hrow j v hj)) rfl ?_;clear H;intro a H;refine dS jk H wn rfl ?_;clear H;intro b16 a w aks H;refine bD jk 0 (vs:=[_,_,_,_]) _ H wn rfl rfl rfl rfl rfl rfl rfl rfl ?_;clear H;intro w H;dsimp only [List.set,setRow] at H;refine lM _ _ ?_;clear lM;refine kP H (SC (Rm rfl ?_));clear H;intro a H;refine bL jk (cs:=[_,_,_,_]) H wn rfl rfl (H.hp.cO 0 rfl rfl) rfl ?_;clear H;intro a H;refine s_call agR H wn rfl (aed _ _ H.ro ls[i]) rfl ?_;clear H;rintro v97 G97 a w rfl ZJ H;refine iE Jo rZ [_,_] [_,_] H wn rfl rfl rfl rfl rfl (by intro i q h;match i,h with|0,h=>exact h|n+1,h=>simp at h) rfl rfl ?_;clear H;intro b98 a w atd H;refine nE (Li:=[_,_,_,_,_]++(bk++Ly)) (Lo:=Ls) (news:=[vi ls[i].before,.bool ls[i].had]) Jo rZ rfl rfl (St.un (A:=[_,_,_,_,_]) H) wn rfl rfl hrw2 rfl (H.hp.cO 0 rfl rfl) rfl (by omega) (by omega) rfl ?_;clear H;intro v99 adL a w amb H;have H:=H.assoc;dsimp only [lca,bJ] at H;refine kH H (bq lK rfl (SC (Rd rfl (Rm rfl ?_))));clear H lK;intro a H;refine aD ?_;refine dD ((i+1,v99,xs2++[vi ls[i].before,.bool ls[i].had],adL,G97)) (by exact (H.dY (Pl:=[_,_,_,_,_]) (dK:=[_,_,_]) [2,3,4] (by decide) rfl).sub ⟨rfl,rfl,rfl,rfl,rfl,rfl,rfl,rfl,rfl,rfl,aC⟩) ?_
      (try dsimp only);exact ⟨by omega,amb,by rw [iU hi2,lY];exact (vT.mono ZJ).snoc (acp _ (ls[i].before,ls[i].had)) rfl,fun b o h=>ZJ b o (iM b o h)⟩
    intro FR a H
    try have I8:=dF FR
    obtain rfl:i=ls.length:=by omega
    rw [xL] at vT;refine dV ?_;refine jo _ _ ?_;clear jo;refine kP H (SR fun _ jL=>Rm rfl ?_);clear H;intro a H;refine bL eu (cs:=[.slice pA pn pc,vi h.marks.ins,vi h.marks.move,.slice dA h.marks.bE.length dc,.slice lA ln lc]) H wn rfl rfl (fun j v hj=>H.hp.aI (aJ iM (aJ mM (q2 j v hj)))) rfl ?_;clear H;intro a H;refine kH H (Rm rfl ?_);clear H;intro a H;refine s_call agS H wn rfl (aox _ _ H.ro h _ _ _ (hh.mono fun b o h=>iM b o (mM b o h)) key (by omega)) rfl ?_;clear H;rintro arK asy a w rfl ZC H;refine iE Jo rZ [_,_] [_,_] H wn rfl rfl rfl rfl rfl (by intro i q h;match i,h with|0,h=>exact h|n+1,h=>simp at h) rfl rfl ?_;clear H;intro asI a w asP H;refine nE (Li:=[_,_,_,_]++(bk++Ly)) (Lo:=Ls) (news:=[vi (zL h.props key).1,.bool (zL h.props key).2]) Jo rZ rfl rfl (St.un (A:=[_,_,_,_]) H) wn rfl rfl hrw2 rfl (H.hp.cO 0 rfl rfl) rfl (by omega) (by omega) rfl ?_;clear H;intro atQ asG a w alT H;obtain ⟨Gs,hms,NU,H⟩:=St.nW (Li:=[_,_,_,_]++(bk++Ly)) H alT (rows:=(qG h.props key ls).map LA) (by simp [qG]) (by have h1:=(vT.mono ZC).snoc (acp _ (zL h.props key)) rfl;simpa [qG,lY,List.map_map,Function.comp_def] using h1);dsimp only [lca,bJ] at H;obtain ⟨sA,sc,rfl,-,-,-⟩:=NU.slice;rw [bG,F7] at NU H;have hgs:∀ b o,pF b=some o→Gs b=some o:=fun b o h=>hms b o (ZC b o (iM b o h));refine kH H (ak jL rfl (SR fun _ oL=>ak oL rfl (SQ fun _ pI=>SR fun _ qm=>Rm rfl (Rl ku rfl (Rm rfl (Kz qm (SB ?_)))))));clear H jL oL qm;intro a H;skip;refine eU (ι:=Nat × Nat × GH) (Tc:=[(6,_),(7,_),(9,_),(12,_),(13,_),(14,_),(107,_),(108,_)]) (Lc:=[(_,_),(_,_),(_,_),(_,_)]) (fun gh=>[(17,vi gh.2.1),(109,vi gh.1)]) (fun gh=>[]++(bk++Ly)) (fun gh=>gh.2.2) (fun gh=>gh.1≤ls.length∧gh.2.1≤gh.1∧nM acc (ls.drop gh.1) gh.1 gh.2.1=nM acc ls 0 0∧(∀ b o,Gs b=some o→gh.2.2 b=some o)) (fun gh=>ls.length - gh.1) ((0,0,Gs)) (by exact (H).sub ⟨rfl,rfl,rfl,rfl,rfl,rfl,rfl,rfl,rfl,rfl,aC⟩) ?_ ?_
    · exact ⟨by omega,bM _,by rw [vB],fun _ _ h=>h⟩
    clear H;rintro ⟨i2,c2,g3⟩ a w hI H;dsimp only at hI H;obtain ⟨hi3,hc3,hfs,sK⟩:=hI;dsimp only [lca,bJ] at H;refine kP H (SR fun _ qJ=>Rc rfl (Kz qJ (SQ fun _ qo=>Cd rfl ?_ ?_))) <;> clear H qJ
    · intro RI a H
      try have aog:=dT RI
      have hi4:i2 < ls.length:=by omega
      obtain ⟨bl,ol,rfl,hrow⟩:=EA (hlr.mono fun b o h=>sK b o (hgs b o h)) hi4;refine kP H (Kc qo (SQ fun _ qK=>SB (SR fun _ uw=>Rm rfl (Ri ku jk rfl rfl ?_))));clear H qo;intro a H;refine bL jk (cs:=[_,_,_,_]) H wn rfl rfl (fun j v hj=>H.hp.aI (hrow j v hj)) rfl ?_;clear H;intro a H;refine dS jk H wn rfl ?_;clear H;intro b19 a w akt H;refine kH H (Ra rfl ?_);clear H;intro a H;refine bD jk 0 (vs:=[_,_,_,_]) _ H wn rfl rfl rfl rfl rfl rfl rfl rfl ?_;clear H;intro w H;dsimp only [List.set,setRow] at H;refine uw _ _ ?_;clear uw;refine kP H (SR fun _ rH=>Rg BQ rfl (aJ sK (aJ hgs (aJ mM q6))) (aY M6 aH 0 rfl rfl ?_));clear H;intro a H;refine ko H wn rfl rfl (wV _ _ (fun b o h=>sK b o (hgs b o (mM b o h))) H.ro ls[i2].rev) rfl ?_;clear H;rintro v117 VO a w rfl ZE H;refine rH _ _ ?_;clear rH;refine jD H rfl ?_ ?_
      · intro RL
        try have aoj:=dT RL
        refine kP H (SC (Rm rfl (Rd rfl (bq qK rfl (SC (Rd rfl (Rm rfl ?_)))))));clear H qK;intro a H;refine aD ?_;refine dD ((i2+1,i2+1,VO)) (by exact (H.dY (Pl:=[_,_,_,_,_]) (dK:=[_,_,_,_]) [1,2,3,4] (by decide) rfl).sub ⟨rfl,rfl,rfl,rfl,rfl,rfl,rfl,rfl,rfl,rfl,aC⟩) ?_
        (try dsimp only);exact ⟨by omega,bM _,by rw [ng hi4,nM,au (by assumption)] at hfs;exact hfs,fun b o h=>ZE b o (sK b o h)⟩
      intro RL
      try have aoj:=dF RL
      refine kP H (Kc qK (SC (Rd rfl (Rm rfl ?_))));clear H qK;intro a H;refine aD ?_;refine dD ((i2+1,c2,VO)) (by exact (H.dY (Pl:=[_,_,_,_,_]) (dK:=[_,_,_,_]) [1,2,3,4] (by decide) rfl).sub ⟨rfl,rfl,rfl,rfl,rfl,rfl,rfl,rfl,rfl,rfl,aC⟩) ?_
      (try dsimp only);exact ⟨by omega,by omega,by rw [ng hi4,nM,ah (by simp_all)] at hfs;exact hfs,fun b o h=>ZE b o (sK b o h)⟩
    intro RI a H
    try have aog:=dF RI
    obtain rfl:i2=ls.length:=by omega
    rw [List.drop_length,nM] at hfs;have hgt:∀ b o,pF b=some o→g3 b=some o:=fun b o h=>sK b o (hgs b o h);obtain ⟨bs,os,rfl,hr2⟩:=acu (NU.mono sK) (k:=c2) (by rw [F7];omega);obtain ⟨Om,hn0⟩:∃ s,s=(qG h.props key ls)[c2]'(by rw [F7];omega):=⟨_,rfl⟩;rw [← hn0] at hr2
    have hgd:(qG h.props key ls).getD c2 (0,false)=Om:=by rw [hn0,List.getD_eq_getElem?_getD,eT (show c2 < (qG h.props key ls).length by rw [F7];omega)];rfl
    refine dV ?_;refine pI _ _ ?_;clear pI;refine kP H (SR fun _ wI=>Rm rfl (Rm rfl ?_));clear H;intro a H;refine yH Jo rZ c2 H wn rfl rfl rfl (by omega) rfl ?_;clear H;intro a H;refine bL rZ (cs:=[vi Om.1,.bool Om.2]) H wn rfl rfl (fun j v hj=>H.hp.aI (hr2 j v hj)) rfl ?_;clear H;intro a H;refine dS rZ H wn rfl ?_;clear H;intro b20 a w asR H;refine bD rZ 0 (vs:=[_,_]) _ H wn rfl rfl rfl rfl rfl rfl rfl rfl ?_;clear H;intro w H;dsimp only [List.set,setRow] at H;refine wI _ _ ?_;clear wI;refine kP H (SQ fun _ Az=>SR fun _ AA=>Rm rfl (ak AA rfl (SB ?_)));clear H AA;intro a H;skip;refine eU (ι:=Nat × (Int × Bool) × aj × List cK × List aj × OL × GH) (Tc:=[(7,_),(9,_),(12,_),(13,_),(14,_),(20,_)]) (Lc:=[(_,_),(_,_),(_,_)]) (fun gh=>[(21,vi gh.1)]) (fun gh=>[(b20,.cells #[vi gh.2.1.1,.bool gh.2.1.2] 242 (0,0)),(b9,.cells #[.slice pvA pvn pvc,vi io,vi mo,.slice rA rn rc,gh.2.2.1] 29 (0,0))]++(bk++gh.2.2.2.2.2.1)) (fun gh=>gh.2.2.2.2.2.2) (fun gh=>c2≤gh.1∧gh.1≤ls.length∧bZ 161 4 gh.2.2.1 gh.2.2.2.1.length gh.2.2.2.2.1 gh.2.2.2.2.2.1∧bT gh.2.2.2.2.2.2 4 (gh.2.2.2.1.map cK.dat) gh.2.2.2.2.1∧gh.2.2.2.1++(xk rej (qG h.props key ls) (ls.drop gh.1) gh.1 gh.2.1).1=ly++(rU acc rej h.props key ls).1∧(xk rej (qG h.props key ls) (ls.drop gh.1) gh.1 gh.2.1).2=(rU acc rej h.props key ls).2∧gh.2.2.2.1.length≤ly.length+gh.1∧(∀ b o,g3 b=some o→gh.2.2.2.2.2.2 b=some o)) (fun gh=>ls.length - gh.1) ((c2,Om,.slice vyA ly.length vyc,ly,xs,Ly,g3)) (by exact (H.dY (Pl:=[_,_,_,_,_]) (dK:=[_,_,_,_,_]) [1,2,3,0,4] (by decide) rfl).sub ⟨rfl,rfl,rfl,rfl,rfl,rfl,rfl,aC⟩) ?_ ?_
    · exact ⟨bM _,by omega,hrw,dP.mono hgt,by rw [rU,← hfs,hgd],by rw [rU,← hfs,hgd],by show ly.length≤ly.length+c2;omega,fun _ _ h=>h⟩
    clear H;rintro ⟨i3,now,vy3,Df,Vz,P5,g4⟩ a w hI H;dsimp only at hI H;obtain ⟨hi5,hi6,hrw3,SH,hq1,hq2,hq3,Bq⟩:=hI;obtain ⟨O8,O9,rfl,-,-⟩:=hrw3.shape;have hgu:∀ b o,pF b=some o→g4 b=some o:=fun b o h=>Bq b o (hgt b o h);dsimp only [lca,bJ] at H;refine kP H (SQ fun _ pJ=>SR fun _ Cg=>Rm rfl (Rm rfl (Rl ku rfl (Rc rfl (Kz Cg (Cd rfl ?_ ?_)))))) <;> clear H Cg
    · intro RN a H
      try have aol:=dT RN
      have Zz:i3 < ls.length:=by omega
      obtain ⟨bl,ol,rfl,hrow⟩:=EA (hlr.mono hgu) Zz;rw [ng Zz,xk] at hq1 hq2;refine kP H (Kc pJ (SQ fun _ AB=>SB (SQ fun _ Fa=>SQ fun _ DT=>?_)));clear H pJ;intro a H;refine dI hmx [[],[],[],[1,2],[1,2,3],(ra 1 4),(ra 0 6)] [6] (by kernel_rfl) [_,_,_,(aK bl (ol+i3*4)),_,_] H (aF (X0 rfl fun hG=>Rg BQ rfl (aJ hG (aJ hgu (aJ mM q7)))) (Z0 rfl (Rm rfl)) (Z0 rfl (Rm rfl)) ?_ (bR (Z1 3 135 rfl (Rf M6 rfl)) (bR (X1 4 136 rfl fun hG=>Rg aH rfl (aJ hG (hrow 0 _ rfl))) (bR (bS rfl) dz)))) ?_
      · refine dJ 1 133 2 134 rfl rfl fun _ a w G1 hG HT H fin=>?_;refine yH ku jk i3 H wn rfl rfl rfl (by omega) rfl ?_;clear H;intro a H;exact fin H iJ rfl
      clear H;intro a w G FT H hv;have H:=H.aM (hv 0 132 rfl rfl) rfl;have H:=H.aM (hv 5 137 rfl rfl) rfl;clear hv;refine ko H wn rfl rfl (xZ _ _ (fun b o h=>FT b o (hgu b o (mM b o h))) H.ro ls[i3].rev) rfl ?_;clear H;rintro v138 ady a w rfl Iz H;refine aD ⟨rfl,?_⟩;refine DT _ _ ?_;clear DT;refine jD H rfl ?_ ?_
      · intro RO
        try have aon:=dT RO
        refine dV ?_;refine AB _ _ ?_;clear AB;refine kP H (SC (Rm rfl (Rd rfl (Ra rfl ?_))));clear H;intro a H;refine aD ?_;refine dD ((i3+1,now,.slice O8 Df.length O9,Df,Vz,P5,ady)) (by exact (H).sub ⟨rfl,rfl,rfl,rfl,rfl,rfl,rfl,aC⟩) ?_
        (try dsimp only);exact ⟨by omega,by omega,hrw3,SH.mono fun b o h=>Iz b o (FT b o h),by rw [au (by assumption)] at hq1;exact hq1,by rw [au (by assumption)] at hq2;exact hq2,by omega,fun b o h=>Iz b o (FT b o (Bq b o h))⟩
      intro RO
      try have aon:=dF RO
      rw [ah (by simp_all)] at hq1 hq2;refine gU ?_;refine Fa _ _ ?_;clear Fa;refine bN (fun _ Fb=>?_)
      have C8:∀ (aN dB:Nat) (v:aj) (G G':GH),(∀ k o,G k=some o→G' k=some o)→(fun (aN dB:Nat) (v:aj) (G:GH)=>match dB with|0=>v=(aK b9 1)|1=>v=(aK b9 4)|2=>v=.slice O8 Df.length O9|3=>v=.slice (some ⟨bl,ol,none⟩) ls.length tc|4=>v=vi i3|5=>v=(aK bl (ol+i3*4))|6=>v=.agg ls[i3].cells.toArray|7=>v=GR now|8=>v=.agg (cK.cells ⟨ls[i3].rev,ls[i3].key,now.1,now.2⟩).toArray|9=>v=.slice (some ⟨aN,0,none⟩) 1 1|_=>True) aN dB v G→(fun (aN dB:Nat) (v:aj) (G:GH)=>match dB with|0=>v=(aK b9 1)|1=>v=(aK b9 4)|2=>v=.slice O8 Df.length O9|3=>v=.slice (some ⟨bl,ol,none⟩) ls.length tc|4=>v=vi i3|5=>v=(aK bl (ol+i3*4))|6=>v=.agg ls[i3].cells.toArray|7=>v=GR now|8=>v=.agg (cK.cells ⟨ls[i3].rev,ls[i3].key,now.1,now.2⟩).toArray|9=>v=.slice (some ⟨aN,0,none⟩) 1 1|_=>True) aN dB v G':=by
        intro aN dB v G G' hm h
        match dB,h with
        | 0,h=>exact h
        | 1,h=>exact h
        | 2,h=>exact h
        | 3,h=>exact h
        | 4,h=>exact h
        | 5,h=>exact h
        | 6,h=>exact h
        | 7,h=>exact h
        | 8,h=>exact h
        | 9,h=>exact h
        | 10,h=>exact trivial
        | 11,h=>exact trivial
        | 12,h=>exact trivial
        | 13,h=>exact trivial
        | _+14,h=>exact trivial
      refine ael (hmx) [[],[0],[0,1],[],[],[3,4],[3,4,5],[],(ra 3 5),(ra 3 6),(ra 0 10),(ra 0 11),(ra 0 12),(ra 0 13)] (ra 10 4) (by kernel_rfl) (by kernel_rfl) 9 (by decide) (.cells #[vi ls[i3].rev,vi ls[i3].key,vi now.1,.bool now.2] 161 (0,0)) (fun (aN dB:Nat) (v:aj) (G:GH)=>match dB with|0=>v=(aK b9 1)|1=>v=(aK b9 4)|2=>v=.slice O8 Df.length O9|3=>v=.slice (some ⟨bl,ol,none⟩) ls.length tc|4=>v=vi i3|5=>v=(aK bl (ol+i3*4))|6=>v=.agg ls[i3].cells.toArray|7=>v=GR now|8=>v=.agg (cK.cells ⟨ls[i3].rev,ls[i3].key,now.1,now.2⟩).toArray|9=>v=.slice (some ⟨aN,0,none⟩) 1 1|_=>True) (fun _ _ i v G hi h=>by
        (iterate 14 (rcases i with _|i;(first|exact h|exact absurd rfl hi)));exact trivial) H ?_ ?_ ?_ (by kernel_rfl)
      · clear H;refine aF ?_ ?_ ?_ ?_ (aF ?_ ?_ ?_ ?_ (aF ?_ ?_ ?_ ?_ (bR ?_ (bR ?_ dz))))
        · intro aN fJ bB a w G1 gu _ _ aP hc hG HT hv;have H:=HT;clear aP;have Hb:=H.full;have H:=Hb;clear hc;refine kH H (Rf lZ rfl ?_);clear H;intro a H;refine aD ⟨rfl,?_⟩;exact fF (by kernel_rfl) (C8 aN) rfl rfl HT Hb hG hv (fun _ _ h=>h) (rfl) H
        · intro aN fJ bB a w G1 gu _ _ aP hc hG HT hv;have H:=HT;clear aP;have H:=H.aM (hv 0 139 (hc 0 (by decide)) rfl) rfl;have Hb:=H.full;have H:=Hb;clear hc;refine kH H (Rf zJ rfl ?_);clear H;intro a H;refine aD ⟨rfl,?_⟩;exact fF (by kernel_rfl) (C8 aN) rfl rfl HT Hb hG hv (fun _ _ h=>h) (rfl) H
        · intro aN fJ bB a w G1 gu _ _ aP hc hG HT hv;have H:=HT;clear aP;have H:=H.aM (hv 1 140 (hc 1 (by decide)) rfl) rfl;have Hb:=H.full;have H:=Hb;clear hc;refine rC Ap H wn rfl (H.hp.Dh (gu _ (iQ _ (iQ _ (iQ _ (iQ _ gJ))))) rfl) rfl ?_;clear H;intro a H;refine aD ⟨rfl,?_⟩;exact fF (by kernel_rfl) (C8 aN) rfl rfl HT Hb hG hv (fun _ _ h=>h) (rfl) H
        · intro aN fJ bB a w G1 gu _ _ aP hc hG HT hv;have H:=HT;clear aP;have Hb:=H.full;have H:=Hb;clear hc;refine kH H (Rm rfl ?_);clear H;intro a H;refine aD ⟨rfl,?_⟩;exact fF (by kernel_rfl) (C8 aN) rfl rfl HT Hb hG hv (fun _ _ h=>h) (rfl) H
        · intro aN fJ bB a w G1 gu _ _ aP hc hG HT hv;have H:=HT;clear aP;have Hb:=H.full;have H:=Hb;clear hc;refine kH H (Rm rfl ?_);clear H;intro a H;refine aD ⟨rfl,?_⟩;exact fF (by kernel_rfl) (C8 aN) rfl rfl HT Hb hG hv (fun _ _ h=>h) (rfl) H
        · intro aN fJ bB a w G1 gu _ _ aP hc hG HT hv;have H:=HT;clear aP;have H:=H.aM (hv 3 142 (hc 3 (by decide)) rfl) rfl;have H:=H.aM (hv 4 143 (hc 4 (by decide)) rfl) rfl;have Hb:=H.full;have H:=Hb;clear hc;refine yH ku jk i3 H wn rfl rfl rfl (by omega) rfl ?_;clear H;intro a H;refine aD ⟨rfl,?_⟩;exact fF (by kernel_rfl) (C8 aN) rfl rfl HT Hb hG hv (fun _ _ h=>h) (rfl) H
        · intro aN fJ bB a w G1 gu _ _ aP hc hG HT hv;have H:=HT;clear aP;have H:=H.aM (hv 5 144 (hc 5 (by decide)) rfl) rfl;have Hb:=H.full;have H:=Hb;clear hc;refine bL jk (cs:=ls[i3].cells) H wn rfl rfl (fun j v hj=>H.hp.aI (aJ hG (aJ Iz (aJ FT (hrow j v hj))))) rfl ?_;clear H;intro a H;refine aD ⟨rfl,?_⟩;exact fF (by kernel_rfl) (C8 aN) rfl rfl HT Hb hG hv (fun _ _ h=>h) (rfl) H
        · intro aN fJ bB a w G1 gu _ _ aP hc hG HT hv;have H:=HT;clear aP;have Hb:=H.full;have H:=Hb;clear hc;refine bL rZ (cs:=[vi now.1,.bool now.2]) H wn rfl rfl (fun j v hj=>H.hp.Dh (gu _ (iQ _ (iQ _ (iQ _ gJ)))) (by simpa using hj)) rfl ?_;clear H;intro a H;refine aD ⟨rfl,?_⟩;exact fF (by kernel_rfl) (C8 aN) rfl rfl HT Hb hG hv (fun _ _ h=>h) (rfl) H
        · intro aN fJ bB a w G1 gu _ _ aP hc hG HT hv;have H:=HT;clear aP;have H:=H.aM (hv 6 145 (hc 6 (by decide)) rfl) rfl;have H:=H.aM (hv 7 146 (hc 7 (by decide)) rfl) rfl;have Hb:=H.full;have H:=Hb;clear hc;refine s_call agT H wn rfl (ajF _ _ H.ro ls[i3] now) rfl ?_;clear H;rintro atU asB a w rfl ajP H;refine aD ⟨rfl,?_⟩;exact fF (by kernel_rfl) (C8 aN) rfl rfl HT Hb hG hv ajP (rfl) H
        · intro _ _ _ _ _ _ _ _ hB;exact absurd hB (by decide)
        · intro _ _ _ _ _ _ _ hB;exact absurd hB (by decide)
        · intro _ _ _ _ _ _ _ hB;exact absurd hB (by decide)
        · intro _ _ _ _ _ _ _ hB;exact absurd hB (by decide)
        intro _ _ _ _ _ _ _ hB;exact absurd hB (by decide)
      · clear H;intro o_ bB a w G1 tO _ hc hG HT hv;obtain rfl:_=o_:=Option.some.inj tO;clear tO;have H:=HT;have H:=H.aM (hv 0 8 147 (by decide) (hc 8 (by decide)) rfl) rfl;have Hb:=H.full;have H:=Hb;clear hc;refine iE ku jk [_,_,_,_] [_,_,_,_] H wn rfl rfl rfl rfl rfl (by intro i q h;match i,h with|0,h=>exact h|n+1,h=>simp at h) rfl rfl ?_;clear H;intro WV a w asQ H;refine aD ⟨rfl,WV,?_⟩;exact MX (by kernel_rfl) rfl HT Hb hG (fun j e h1 h2 h3=>hv _ j e h1 h2 h3) (rfl) H
      clear H;intro WV a w G Sc H hv;have H:=H.aM (hv 2 141 rfl rfl) rfl;have H:=H.aM (hv 9 148 rfl rfl) rfl;clear hv;refine nE (Li:=[_,_,_,_,_,_]++bk) (Lo:=P5) (news:=cK.cells ⟨ls[i3].rev,ls[i3].key,now.1,now.2⟩) ku jk rfl rfl (St.un (A:=[_,_,_,_,_,_]) H) wn rfl rfl hrw3 rfl (H.hp.cO 0 rfl rfl) rfl (by omega) (by omega) rfl ?_;clear H;intro atV adP a w aac H;obtain ⟨asw,asK,rfl,-,-⟩:=aac.shape;have H:=H.assoc;dsimp only [lca,bJ] at H;refine kH H (Rf lZ rfl (Rf zJ rfl ?_));clear H;intro a H;refine bD Ap 5 (vs:=[_]) _ H wn rfl rfl rfl rfl rfl rfl rfl rfl ?_;clear H;intro w H;dsimp only [List.set,setRow] at H;refine aD ⟨rfl,?_⟩;refine Fb _ _ ?_;clear Fb;obtain ⟨_,_,he,hr3⟩:=acu (NU.mono fun b o h=>Sc b o (Iz b o (FT b o (Bq b o (sK b o h))))) (k:=i3+1) (by rw [F7];omega)
      injection he with he
      injection he with e1 e2
      subst e1 e2;obtain ⟨nx,hn1⟩:∃ s,s=(qG h.props key ls)[i3+1]'(by rw [F7];omega):=⟨_,rfl⟩;rw [← hn1] at hr3
      have hnx:nx=(qG h.props key ls).getD (i3+1) (0,false):=by rw [hn1,List.getD_eq_getElem?_getD,eT (show i3+1 < (qG h.props key ls).length by rw [F7];omega)];rfl
      refine kP H (SC (Rm rfl (Rm rfl (Rd rfl ?_))));clear H;intro a H;refine yH Jo rZ (i3+1) H wn rfl rfl (by omega) (by omega) rfl ?_;clear H;intro a H;refine bL rZ (cs:=[vi nx.1,.bool nx.2]) H wn rfl rfl (fun j v hj=>H.hp.aI (hr3 j v hj)) rfl ?_;clear H;intro a H;refine bD rZ 4 (vs:=[_,_]) _ H wn rfl rfl rfl rfl rfl rfl rfl rfl ?_;clear H;intro w H;dsimp only [List.set,setRow] at H;refine kH H (Kn AB (SC (Rm rfl (Rd rfl (Ra rfl ?_)))));clear H AB;intro a H;refine aD ?_;refine dD ((i3+1,nx,_,Df++[⟨ls[i3].rev,ls[i3].key,now.1,now.2⟩],Vz++cK.cells ⟨ls[i3].rev,ls[i3].key,now.1,now.2⟩,adP,_)) (by exact (H.dY (Pl:=[_,_,_,_,_,_]) (dK:=[_,_,_,_,_]) [1,2,3,4,5] (by decide) rfl).sub ⟨rfl,rfl,rfl,rfl,rfl,rfl,rfl,aC⟩) ?_
      (try dsimp only);exact ⟨by omega,by omega,by rw [iI];exact aac,by rw [lY];exact (SH.mono fun b o h=>Sc b o (Iz b o (FT b o h))).snoc (amW _ ⟨ls[i3].rev,ls[i3].key,now.1,now.2⟩) rfl,by rw [iW,hnx];exact hq1,by rw [hnx];exact hq2,by rw [iI];show Df.length+1≤_;omega,fun b o h=>Sc b o (Iz b o (FT b o (Bq b o h)))⟩
    intro RN a H
    try have aol:=dF RN
    obtain rfl:i3=ls.length:=by omega
    rw [List.drop_length,xk] at hq1 hq2;rw [jf] at hq1;have hq4:=RG acc rej h.props key ls;refine dV ?_;refine Az _ _ ?_;clear Az;refine pR ?_;refine bL eu (cs:=[_,_,_,_,_]) H wn rfl rfl (H.hp.cO 4 rfl rfl) rfl ?_;clear H;intro a H;refine kH H (Rm rfl ?_);clear H;intro a H;refine bL rZ (cs:=[_,_]) H wn rfl rfl (H.hp.cO 3 rfl rfl) rfl ?_;clear H;intro a H;refine s_call agU H wn rfl (ase _ _ H.ro ps io mo _ _ _ _ _ _ _ (hpv.mono hgu) key now (by omega)) rfl ?_;clear H;rintro v160 asC a w ⟨atP,rfl,ZT⟩ aln H;obtain ⟨adv,n160,c160,rfl⟩:=ZT.form;refine bD eu 4 (vs:=[_,_,_,_,_]) _ H wn rfl rfl rfl rfl rfl rfl rfl rfl ?_;clear H;intro w H;dsimp only [List.set,setRow] at H;refine aD ?_;refine alD ((.slice adv n160 c160,zx ps key now,_,Df,Vz,P5)) _ _ _ _ _ (by exact H.dY (Pl:=[_,_,_,_,_]) (dK:=[_,_,_]) [1,2,4] (by decide) rfl) ?_;exact ⟨ZT,hrw3,SH.mono aln,by rw [← hdc,ng hk,wQ,← hkey,← hls,← hq1,← hq2],by have:=adf ps key now;show (zx ps key now).length≤_;omega,by show Df.length≤_;rw [hs3,hq1,iI];omega⟩
  · clear H;intro asx gh asD a w mM hI H;obtain ⟨pv,ps,vy,ly,xs,Ly⟩:=gh;dsimp only at hI H;dsimp only [lca,bJ] at H;obtain ⟨hpv,hrw,dP,hdc,hpl,hll⟩:=hI;rw [bG,List.drop_length,wQ] at hdc;obtain ⟨pvA,pvn,pvc,rfl⟩:=hpv.form;obtain ⟨vyA,vyc,rfl,-,-⟩:=hrw.shape
    have Nz:mJ acc rej h=⟨ps,⟨io,mo,h.marks.bE.filter fun x=>!rej x.rev,ly⟩⟩:=by unfold mJ;rw [← hall,← hdc,hio,hmo]
    refine fC _ _ ?_;clear fC;refine cu (fun _ DU=>?_);refine bL eu (cs:=[_,_,_,_,_]) H wn rfl rfl (H.hp.cO 2 rfl rfl) rfl ?_;clear H;intro a H;refine bD eu 1 (vs:=[_,_,_,_,_]) _ H wn rfl rfl rfl rfl rfl rfl rfl rfl ?_;clear H;intro w H;dsimp only [List.set,setRow] at H;refine kH H (ak DU rfl ?_);clear H DU;intro a H;refine bW ?_;refine (IX H 0 rfl ?_).1;clear H;intro a w H;dsimp only [List.eraseIdx_cons_succ,List.eraseIdx_cons_zero] at H;refine (eY H results96 (.cons (nQ eu (cs:=[_,_,_,_,_]) H rfl rfl (H.hp.cO 0 rfl rfl)) (.cons (aT H rfl) .nil)) ?_).1
    first
      | exact H.rt (by rw [pE,au (by first|exact .inl ⟨by assumption,by assumption⟩|exact .inr (Im.1 (by assumption)))];exact ⟨_,_,_,rfl,Pq _⟩)
      | (obtain ⟨PL,zW,yu,H⟩:=St.nW (Li:=[_,_]) H hrw (rows:=ly.map cK.dat) (by simp) dP
         exact H.rt (by rw [pE,ah Bv,Nz];exact ⟨_,_,_,rfl,⟨hpv.mono zW,(hdr.mono mM).mono zW,yu⟩⟩))
  intro Dk x;exact x.elim
section
def xI (x:Nat→aj × OL) (m:Nat) (y:aj × OL):Nat→aj × OL:=fun j=>if j=m then y else x j
theorem arA (x:Nat→aj × OL) (m:Nat) (y:aj × OL):xI x m y m=y:=au rfl
theorem acL {x:Nat→aj × OL} {m j:Nat} {y:aj × OL} (h:j≠m):xI x m y j=x j:=ah h
def qy (ms:List Nat) (S:Nat→Bool) (x:Nat→aj × OL):OL:=ms.flatMap fun m=>bif S m then (x m).2 else []
theorem YV {S:Nat→Bool} {x:Nat→aj × OL} {y:aj × OL} {m:Nat}:∀ {ms:List Nat},m∉ms→qy ms (eZ S m) (xI x m y)=qy ms S x
 | [],_=>rfl
 | k :: ms,h=>by
  have hk:k≠m:=fun e=>h (by simp [e])
  have ih:=YV (S:=S) (x:=x) (y:=y) (ms:=ms) fun hm=>h (iQ _ hm)
  unfold qy at ih ⊢
  rw [List.flatMap_cons,List.flatMap_cons,ih,acL hk,show eZ S m k=S k from ah hk]
theorem YW {S:Nat→Bool} {x:Nat→aj × OL} {y:aj × OL} {m:Nat} (hS:S m=false):∀ {ms:List Nat},ms.Nodup→m∈ms→(y.2++qy ms S x).Perm (qy ms (eZ S m) (xI x m y))
 | k :: ms,hn,hm=>by
  rw [List.nodup_cons] at hn
  by_cases hk:k=m
  ·subst hk
   have e:=YV (S:=S) (x:=x) (y:=y) hn.1
   unfold qy at e ⊢
   rw [List.flatMap_cons,List.flatMap_cons,e,arA,hS,show eZ S k k=true from au rfl]
   exact List.Perm.refl _
  ·have ih:=YW (S:=S) (x:=x) (y:=y) hS hn.2 (by
    rcases jS.1 hm with e|h
    ·exact absurd e.symm hk
    ·exact h)
   unfold qy at ih ⊢
   rw [List.flatMap_cons,List.flatMap_cons,acL hk,show eZ S m k=S k from ah hk,← iW]
   refine (List.Perm.append_right _ vw).trans ?_
   rw [iW]
   exact List.Perm.append_left _ ih
section
variable {N:Nat} {D:List Deferred} {w0:World} {F:Nat→Prop} {G0 G G1 G2:GH} {L L1 L2:OL} {T Xs:List (Nat × aj)}
variable {r:Option Nat} {P:Program} {Q:Exit→Act→World→Prop} {l:List Oper} {a a':Act} {w w':World}
theorem Qm {id:Nat} (ms:List Nat) (hm:P.follows .mixedOrders=true) (bU:List (List Nat)) (B:List Nat) (hk:zI l bU=true) (hB:yI l bU B=true) (hnd:ms.Nodup) (hms:(ms.all fun m=>Nat.blt m l.length && !B.contains m)=true) (pr:(Nat→aj × OL)→Nat→aj→GH→Prop)
  (hp:∀ m,ms.contains m=true→∀ x y i v G,Nat.beq i m=false→(bU.getD i []).contains m=false→pr x i v G→pr (xI x m y) i v G)
  (H:St N D w0 F G0 G L T a w)
  (hstep:allI (fun i o=>∀ x L' S a w G1,(∀ q,q∈L→q∈L')→B.contains i=false→ms.contains i=false→S i=false→(∀ j∈bU.getD i [],S j=true)→(∀ k o,G k=some o→G1 k=some o)→St N D w0 F G0 G1 L' T a w→(∀ i d,S i=true→eG l i=some d→∃ v,a.tmps[d]?=some v∧pr x i v G1) →
   WL r P l.toArray (fun e a' w'=>e=.normal∧DX N D w0 F G0 G L' T l (pr x) (eZ S i) a' w') [o] a w) 0 l)
  (hmid:allI (fun m o=>ms.contains m=true→∀ x L' S a w G1,(∀ q,q∈L→q∈L')→S m=false→(∀ j∈bU.getD m [],S j=true)→(∀ k o,G k=some o→G1 k=some o)→St N D w0 F G0 G1 L' T a w→(∀ y i d,i≠m→S i=true→eG l i=some d→∃ v,a.tmps[d]?=some v∧pr (xI x m y) i v G1) →
   WL r P l.toArray (fun e a' w'=>e=.normal∧∃ y,DX N D w0 F G0 G (y.2++L') T l (pr (xI x m y)) (eZ S m) a' w') [o] a w) 0 l)
  (hend:∀ x a w G1,(∀ k o,G k=some o→G1 k=some o)→St N D w0 F G0 G1 (qy ms (fun _=>true) x++L) T a w→(∀ i d,B.contains i=false→eG l i=some d→∃ v,a.tmps[d]?=some v∧pr x i v G1)→WL r P l.toArray (fun e a w=>e=.normal∧Q .normal a w) (qF l B) a w):WP r P (.region id l.toArray true) Q a w:=by
 refine JJ hm bU B hk hB (fun S a w=>∃ x,DX N D w0 F G0 G (qy ms S x++L) T l (pr x) S a w)
  ⟨fun _=>(.bool false,[]),DX.perm (L1:=L) ⟨G,fun _ _ h=>h,H.move H.hp.drew,fun _ _ h=>absurd (show false=true from h) (by decide)⟩ (by
   have:∀ ms:List Nat,qy ms (fun _=>false) (fun _=>(.bool false,[]))=[]:=fun ms=>by
    induction ms with
    | nil=>rfl
    | cons k ms ih=>unfold qy at ih ⊢;rw [List.flatMap_cons,ih];rfl
   rw [this];exact List.Perm.refl _)⟩ ?_ ?_
 ·rintro i o S a w ho hb aP lS hdesc ⟨x,G1,hG,HS,hv⟩
  have hsub:∀ q,q∈L→q∈qy ms S x++L:=fun q hq=>List.mem_append_right _ hq
  have hno:∀ j,j < l.length→S j=true→(bU.getD j []).contains i=false:=fun j hjl hj=>by
   cases hc:(bU.getD j []).contains i with
   | false=>rfl
   | true =>
    have:=hdesc j hjl (by simpa using hc)
    rw [this] at hj;cases hj
  cases hi:ms.contains i with
  | true =>
   have h:=Ck hmid i o ho
   rw [gI] at h
   have h:=h hi x _ S a w G1 hsub aP lS hG HS fun y j d hj hSj hd=>by
    obtain ⟨v,hv1,hv2⟩:=hv j d hSj hd
    exact ⟨v,hv1,hp i hi x y j v _ (xO hj) (hno j (xR hd) hSj) hv2⟩
   refine ql (fun e a' w' ⟨he,y,hD⟩=>⟨he,xI x i y,hD.perm ?_⟩) h
   rw [← iW]
   exact List.Perm.append_right L (YW aP hnd (by simpa using hi))
  | false =>
   have h:=Ck hstep i o ho
   rw [gI] at h
   have e:∀ ms:List Nat,i∉ms→qy ms (eZ S i) x=qy ms S x:=fun ms hn=>by
    induction ms with
    | nil=>rfl
    | cons k ms ih =>
     have ih:=ih fun h=>hn (iQ _ h)
     unfold qy at ih ⊢
     rw [List.flatMap_cons,List.flatMap_cons,ih,show eZ S i k=S k from ah fun e=>hn (by simp [e])]
   refine ql (fun e' a' w' ⟨he,hD⟩=>⟨he,x,?_⟩) (h x _ S a w G1 hsub hb hi aP lS hG HS hv)
   rw [e ms (by simpa using hi)]
   exact hD
 ·rintro S a w hall NM ⟨x,G1,hG,HS,hv⟩
  have hS:∀ m∈ms,S m=true:=fun m hmm=>by
   have h:=kJ.1 hms m hmm
   rw [oN] at h
   exact hall m (Eq.mp Nat.blt_eq h.1) (by simpa using h.2)
  have e:∀ ms:List Nat,(∀ m∈ms,S m=true)→qy ms S x=qy ms (fun _=>true) x:=fun ms h=>by
   induction ms with
   | nil=>rfl
   | cons k ms ih =>
    have ih:=ih fun m hm=>h m (iQ _ hm)
    unfold qy at ih ⊢
    rw [List.flatMap_cons,List.flatMap_cons,ih,h k gJ]
  replace e:=e ms hS
  rw [e] at HS
  exact hend x a w G1 hG HS fun j d hb hd=>hv j d (hall j (xR hd) hb) hd
end
end
section
theorem Q5:∀ args w,(callFunc 98 args).run prog w=.ok (.enter 98 args) w:=enters func98 rfl (by kernel_rfl)
theorem agV:∀ args w,(callFunc 165 args).run prog w=.ok (.enter 165 args) w:=enters func165 rfl (by kernel_rfl)
def DW (fv:aj) (G:GH) (acc rej:Int→Bool):Prop:=∀ (G1:GH) (w1:World),(∀ b o,G b=some o→G1 b=some o)→Hold G1 w1→∀ (h:dM) (p d l:aj),jd G1 h p d l→lW h≤1073741824→sj prog fv [qV h p d l] w1 (aZ w1 G1 (pE acc rej h))
theorem DW.mono {fv:aj} {G G':GH} {acc rej:Int→Bool} (hm:∀ b o,G b=some o→G' b=some o) (h:DW fv G acc rej):DW fv G' acc rej:=fun G1 w1 h1=>h G1 w1 fun b o hb=>h1 b o (hm b o hb)
variable {acc rej:Int→Bool}
def fu (acc rej:Int→Bool) (h:dM):dM:=if sI acc rej h then BZ else mJ acc rej h
theorem pE.ans {h:dM} {u:aj} {G:GH} (hd:pE acc rej h u G):∃ pA pn pc dA dn dc lA ln lc,u=.tuple #[.agg #[.slice pA pn pc,vi (fu acc rej h).marks.ins,vi (fu acc rej h).marks.move,.slice dA dn dc,.slice lA ln lc],.bool (!decide (sI acc rej h))]∧jd G (fu acc rej h) (.slice pA pn pc) (.slice dA dn dc) (.slice lA ln lc):=by
 unfold pE at hd
 unfold fu
 by_cases hg:sI acc rej h
 ·rw [au hg] at hd ⊢;obtain ⟨p,d,l,rfl,hh⟩:=hd;obtain ⟨pA,pn,pc,rfl⟩:=hh.props.form;obtain ⟨dA,dn,dc,rfl⟩:=hh.bE.form;obtain ⟨lA,ln,lc,rfl⟩:=hh.layers.form;exact ⟨pA,pn,pc,dA,dn,dc,lA,ln,lc,by simp [hg],hh⟩
 rw [ah hg] at hd ⊢;obtain ⟨p,d,l,rfl,hh⟩:=hd;obtain ⟨pA,pn,pc,rfl⟩:=hh.props.form;obtain ⟨dA,dn,dc,rfl⟩:=hh.bE.form;obtain ⟨lA,ln,lc,rfl⟩:=hh.layers.form;exact ⟨pA,pn,pc,dA,dn,dc,lA,ln,lc,by simp [hg],hh⟩
def Mw (fv:aj) (acc rej:Int→Bool) (n:Nat):Prop:=∀ (G:GH) (w0:World),Hold G w0→DW fv G acc rej→∀ (l:List ay) (v:aj),av G (.sl 11 (l.map ay.dat)) v→bK l < n →
 Calls prog 98 #[fv,v] w0 (aZ w0 G fun u G'=>av G' (.sl 11 ((jh acc rej l).map ay.dat)) u)
set_option maxHeartbeats 4000000 in
theorem apm {fv:aj} {n:Nat} (ih:Mw fv acc rej n) (hn:n≤536870913) (G:GH) (w0:World) (hG:Hold G w0) (hf:DW fv G acc rej) (l:List aW) (v:aj) (hv:av G (.sl 6 (l.map aW.dat)) v) (hz:gZ l < n) :
  Calls prog 165 #[fv,v] w0 (aZ w0 G fun u G'=>av G' (.sl 6 ((lH acc rej l).map aW.dat)) u):=by
 obtain ⟨A,c,rfl,hc1,hc2,hg⟩:=hv.slice
 have hml:4294967297≤maxLen:=by decide
 have hll:=Jv l;rw [bG] at *;refine eN [(0,_),(1,_)] func165 rfl ntmps165 rfl rfl hG ?_;intro a H;refine kP H (SR fun _ K1=>ak K1 rfl (SR fun _ K2=>ak K2 rfl (SQ fun _ K3=>SR fun _ K4=>Rm rfl (Rl mX rfl (Rm rfl (Kz K4 (SB ?_)))))));clear H K1 K2 K4;intro a H;skip;refine eU (ι:=Nat × aj × List aj × OL × GH) (Tc:=[(0,_),(15,_),(16,_)]) (Lc:=[]) (fun gh=>[(5,gh.2.1),(17,vi gh.1)]) (fun gh=>[]++gh.2.2.2.1) (fun gh=>gh.2.2.2.2) (fun gh=>gh.1≤l.length∧bZ 74 6 gh.2.1 (lH acc rej (l.take gh.1)).length gh.2.2.1 gh.2.2.2.1∧bT gh.2.2.2.2 6 ((lH acc rej (l.take gh.1)).map aW.dat) gh.2.2.1∧(∀ b o,G b=some o→gh.2.2.2.2 b=some o)) (fun gh=>l.length - gh.1) ((0,.slice none 0 0,[],[],G)) (by exact (H).sub ⟨rfl,rfl,rfl,rfl,rfl,aC⟩) ?_ ?_
 ·exact ⟨by omega,bZ.nil,bT.nil,fun _ _ h=>h⟩
 clear H;rintro ⟨k,v,xs,Lo,g⟩ a w hI H;dsimp only at hI H;obtain ⟨hk,hrw,dP,hgm⟩:=hI;have hrl:=UO (acc:=acc) (rej:=rej) (l.take k);rw [List.length_take] at hrl;dsimp only [lca,bJ] at H;refine kP H (SR fun _ K5=>Rc rfl (Kz K5 (SQ fun _ K6=>Cd rfl ?_ ?_))) <;> clear H K5
 ·intro h18 a H
  try have Dl:=dT h18
  have hk2:k < l.length:=by omega
  obtain ⟨b_,o_,pA,pn,pc,dA,dn,dc,yA,yn,yc,cA,cn,cc,rfl,hrow,hhd,hcl⟩:=Le hk2 hg;replace hrow:=fun j u hj=>aJ hgm (hrow j u hj);replace hhd:=hhd.mono hgm;replace hcl:=hcl.mono hgm;have hzr:=Pn hk2;have hce:=abJ (acc:=acc) (rej:=rej) l[k];refine kP H (Kc K6 (SQ fun _ K7=>SB (SR fun _ K8=>Ri mX jP rfl rfl ?_)));clear H K6;intro a H;refine bL jP (cs:=[_,_,_,_,_,_]) H wn rfl rfl (fun j v hj=>H.hp.aI (hrow j v hj)) rfl ?_;clear H;intro a H;refine dS jP H wn rfl ?_;clear H;intro b7 a w CO H;refine bD jP 0 (vs:=[_,_,_,_,_,_]) _ H wn rfl rfl rfl rfl rfl rfl rfl rfl ?_;clear H;intro w H;dsimp only [List.set,setRow] at H;refine K8 _ _ ?_;clear K8;refine kP H (SR fun _ K9=>Rm rfl (Rf FJ rfl ?_));clear H;intro a H;refine bL eu (cs:=[_,_,_,_,_]) H wn rfl rfl (H.hp.cO 0 rfl rfl) rfl ?_;clear H;intro a H;refine ko H wn rfl rfl (hf _ _ hgm H.ro l[k].head _ _ _ hhd (by omega)) rfl ?_;clear H;rintro v25 Mf a w hd25 zV H;obtain ⟨q1,q2,q3,q4,q5,q6,q7,q8,q9,rfl,alg⟩:=hd25.ans;refine kH H (Rm rfl ?_);clear H;intro a H;(iterate 2 refine lq H wn rfl rfl rfl ?_;clear H;intro a H);refine dS eu H wn rfl ?_;clear H;intro b8 a w Ns H;refine bD eu 0 (vs:=[_,_,_,_,_]) _ H wn rfl rfl rfl rfl rfl rfl rfl rfl ?_;clear H;intro w H;dsimp only [List.set,setRow] at H;refine kH H (ak K9 rfl (SQ fun _ aR=>SR fun _ bQ=>Rm rfl (Rn rfl (Kz bQ (Cd rfl ?_ ?_))))) <;> clear H K9 bQ
  ·intro gN a H
   try have p29:=dT gN
   have hone:xC acc rej l[k]=[]:=by rw [hce,au (by simpa using gN)]
   have pX:=zV;refine dV ?_;refine K7 _ _ ?_;clear K7;refine kP H (SC (Rd rfl (Rm rfl ?_)));clear H;intro a H;refine aD ?_;refine dD ((k+1,v,xs,Lo,_)) (by exact (H.dY (Pl:=[_,_]) (dK:=[]) [] (by decide) rfl).sub ⟨rfl,rfl,rfl,rfl,rfl,aC⟩) ?_
   (try dsimp only);exact ⟨by omega,by rw [Jb hk2,hone,jf];exact hrw,by rw [Jb hk2,hone,jf];exact dP.mono pX,fun b o h=>pX b o (hgm b o h)⟩
  intro gN a H
  try have p29:=dF gN
  have Bv:¬ sI acc rej l[k].head:=by simpa using gN
  rw [ah Bv] at hce;obtain ⟨cA',cc',hcs,akL,atg,hgc⟩:=hcl.slice
  injection hcs with e1 e2 e3
  rw [bG] at e2 akL;subst e1 e2 e3;have ath:=Ju l[k].cells;refine kP H (Kc aR (SR fun _ bY=>ak bY rfl (SQ fun _ cZ=>SR fun _ dG=>aY vJ wD 1 rfl rfl (Rl om rfl (Rm rfl (Kz dG (SB ?_)))))));clear H aR bY dG;intro a H;skip;refine eU (ι:=Nat × aj × List aj × OL × GH) (Tc:=[(0,_),(5,_),(8,_),(15,_),(16,_),(17,_),(31,_),(32,_)]) (Lc:=[(_,_),(_,_)]) (fun gh=>[(10,gh.2.1),(33,vi gh.1)]) (fun gh=>[]++(Lo++gh.2.2.2.1)) (fun gh=>gh.2.2.2.2) (fun gh=>gh.1≤l[k].cells.length∧bZ 76 7 gh.2.1 (kF acc rej (l[k].cells.take gh.1)).length gh.2.2.1 gh.2.2.2.1∧bT gh.2.2.2.2 7 ((kF acc rej (l[k].cells.take gh.1)).map aX.dat) gh.2.2.1∧(∀ b o,Mf b=some o→gh.2.2.2.2 b=some o)) (fun gh=>l[k].cells.length - gh.1) ((0,.slice none 0 0,[],[],Mf)) (by exact (H.I4 (A:=[_,_])).sub ⟨rfl,rfl,rfl,rfl,rfl,rfl,rfl,rfl,rfl,rfl,aC⟩) ?_ ?_
  ·exact ⟨by omega,bZ.nil,bT.nil,fun _ _ h=>h⟩
  clear H;rintro ⟨i,v2,xs2,Lc,g2⟩ a w hI H;dsimp only at hI H;obtain ⟨hi,hrw2,vT,iM⟩:=hI;have hrl2:=UN (acc:=acc) (rej:=rej) (l[k].cells.take i);rw [List.length_take] at hrl2;obtain ⟨LU,LV,rfl,-,-⟩:=hrw2.shape;dsimp only [lca,bJ] at H;refine kP H (SR fun _ dZ=>Rc rfl (Kz dZ (SQ fun _ eB=>Cd rfl ?_ ?_))) <;> clear H dZ
  ·intro fZ a H
   try have p34:=dT fZ
   have hi2:i < l[k].cells.length:=by omega
   obtain ⟨Qi,o2_,aA,an,ac,gA,gn,gc,uA,un,uc,wA,wn_,wc,rfl,hrow2,Te,SY⟩:=Ib hi2 hgc;have hgx:∀ b o,g b=some o→g2 b=some o:=fun b o h=>iM b o (zV b o h);replace hrow2:=fun j u hj=>aJ hgx (hrow2 j u hj);replace Te:=Te.mono hgx;replace SY:=SY.mono hgx;have hzc:=Pk hi2;have Zm:=abD (acc:=acc) (rej:=rej) l[k].cells[i];refine kP H (Kc eB (SQ fun _ dW=>SB (SR fun _ fC=>Ri om kI rfl rfl ?_)));clear H eB;intro a H;refine bL kI (cs:=[_,_,_,_,_,_,_]) H wn rfl rfl (fun j v hj=>H.hp.aI (hrow2 j v hj)) rfl ?_;clear H;intro a H;refine dS kI H wn rfl ?_;clear H;intro b12 a w FU H;refine bD kI 0 (vs:=[_,_,_,_,_,_,_]) _ H wn rfl rfl rfl rfl rfl rfl rfl rfl ?_;clear H;intro w H;dsimp only [List.set,setRow] at H;refine fC _ _ ?_;clear fC;refine kP H (SR fun _ gQ=>Rm rfl (Rf FK rfl ?_));clear H;intro a H;refine bL eu (cs:=[_,_,_,_,_]) H wn rfl rfl (H.hp.cO 0 rfl rfl) rfl ?_;clear H;intro a H;refine ko H wn rfl rfl (hf _ _ (fun b o h=>hgx b o (hgm b o h)) H.ro l[k].cells[i].head _ _ _ Te (by omega)) rfl ?_;clear H;rintro v41 E5 a w akR tL H;obtain ⟨r1,r2,r3,r4,r5,r6,r7,r8,r9,rfl,alh⟩:=akR.ans;refine kH H (Rm rfl ?_);clear H;intro a H;(iterate 2 refine lq H wn rfl rfl rfl ?_;clear H;intro a H);refine dS eu H wn rfl ?_;clear H;intro b13 a w Nn H;refine bD eu 0 (vs:=[_,_,_,_,_]) _ H wn rfl rfl rfl rfl rfl rfl rfl rfl ?_;clear H;intro w H;dsimp only [List.set,setRow] at H;refine kH H (ak gQ rfl (SR fun _ fM=>Rm rfl (Kz fM (Cd rfl ?_ ?_)))) <;> clear H gQ fM
   ·intro Cv a H
    try have p44:=dT Cv
    have ZO:¬ sI acc rej l[k].cells[i].head:=by simpa using Cv
    have KI:yE acc rej l[k].cells[i]=[.mk l[k].cells[i].id (fu acc rej l[k].cells[i].head) (jh acc rej l[k].cells[i].flow)]:=by rw [Zm,ah ZO,fu,ah ZO]
    have Bz:P6 (fun (aN:Nat→aj × OL) (dB:Nat) (v:aj) (G:GH)=>match dB with|0=>v=.slice LU (kF acc rej (l[k].cells.take i)).length LV|1=>v=(aK b12 0)|2=>v=vi l[k].cells[i].id|3=>v=.agg #[.slice r1 r2 r3,vi (fu acc rej l[k].cells[i].head).marks.ins,vi (fu acc rej l[k].cells[i].head).marks.move,.slice r4 r5 r6,.slice r7 r8 r9]|4=>v=fv|5=>v=(aK b12 6)|6=>v=.slice wA wn_ wc|7=>av G (.sl 11 ((jh acc rej l[k].cells[i].flow).map ay.dat)) v|8=>∃ A n c,v=.agg #[vi l[k].cells[i].id,.slice r1 r2 r3,vi (fu acc rej l[k].cells[i].head).marks.ins,vi (fu acc rej l[k].cells[i].head).marks.move,.slice r4 r5 r6,.slice r7 r8 r9,.slice A n c]∧av G (.sl 11 ((jh acc rej l[k].cells[i].flow).map ay.dat)) (.slice A n c)|9=>∃ b A n c,v=.slice (some ⟨b,0,none⟩) 1 1∧aN 9=(.slice (some ⟨b,0,none⟩) 1 1,[(b,.cells #[vi l[k].cells[i].id,.slice r1 r2 r3,vi (fu acc rej l[k].cells[i].head).marks.ins,vi (fu acc rej l[k].cells[i].head).marks.move,.slice r4 r5 r6,.slice r7 r8 r9,.slice A n c] 76 (0,0))])∧av G (.sl 11 ((jh acc rej l[k].cells[i].flow).map ay.dat)) (.slice A n c)|_=>True):=by intro aN dB v G G' hm h;(iterate 12 (rcases dB with _|dB;(first|exact h|exact av.mono hm h|exact let ⟨A,n,c,h1,h2⟩:=h;⟨A,n,c,h1,h2.mono hm⟩|exact let ⟨b,A,n,c,h0,h1,h2⟩:=h;⟨b,A,n,c,h0,h1,h2.mono hm⟩)));exact trivial
    refine Qm [9] (hmx) [[],[],[1],[],[],[],[5],[4,5,6],(ra 1 7),(ra 1 8),(ra 0 10),(ra 0 11)] [10,11] (by kernel_rfl) (by kernel_rfl) (by decide) (by kernel_rfl) (fun (aN:Nat→aj × OL) (dB:Nat) (v:aj) (G:GH)=>match dB with|0=>v=.slice LU (kF acc rej (l[k].cells.take i)).length LV|1=>v=(aK b12 0)|2=>v=vi l[k].cells[i].id|3=>v=.agg #[.slice r1 r2 r3,vi (fu acc rej l[k].cells[i].head).marks.ins,vi (fu acc rej l[k].cells[i].head).marks.move,.slice r4 r5 r6,.slice r7 r8 r9]|4=>v=fv|5=>v=(aK b12 6)|6=>v=.slice wA wn_ wc|7=>av G (.sl 11 ((jh acc rej l[k].cells[i].flow).map ay.dat)) v|8=>∃ A n c,v=.agg #[vi l[k].cells[i].id,.slice r1 r2 r3,vi (fu acc rej l[k].cells[i].head).marks.ins,vi (fu acc rej l[k].cells[i].head).marks.move,.slice r4 r5 r6,.slice r7 r8 r9,.slice A n c]∧av G (.sl 11 ((jh acc rej l[k].cells[i].flow).map ay.dat)) (.slice A n c)|9=>∃ b A n c,v=.slice (some ⟨b,0,none⟩) 1 1∧aN 9=(.slice (some ⟨b,0,none⟩) 1 1,[(b,.cells #[vi l[k].cells[i].id,.slice r1 r2 r3,vi (fu acc rej l[k].cells[i].head).marks.ins,vi (fu acc rej l[k].cells[i].head).marks.move,.slice r4 r5 r6,.slice r7 r8 r9,.slice A n c] 76 (0,0))])∧av G (.sl 11 ((jh acc rej l[k].cells[i].flow).map ay.dat)) (.slice A n c)|_=>True) (fun m hm x y i v G hi hc h=>by
     have hm:m=9:=by simpa using hm
     rcases hm with rfl
     ·(iterate 12 (rcases i with _|i;(first|exact h|exact absurd hi (by decide)|exact absurd hc (by decide))));exact trivial
     ) H ?_ ?_ ?_
    ·clear H;refine aF ?_ ?_ ?_ ?_ (aF ?_ ?_ ?_ ?_ (aF ?_ ?_ ?_ ?_ dz))
     ·intro aN fJ bB a w G1 gu _ _ aP hc hG HT hv;have H:=HT;clear aP;have Hb:=H.full;have H:=Hb;clear hc;refine kH H (Rm rfl ?_);clear H;intro a H;refine aD ⟨rfl,?_⟩;exact fF (by kernel_rfl) (Bz aN) rfl rfl HT Hb hG hv (fun _ _ h=>h) (rfl) H
     ·intro aN fJ bB a w G1 gu _ _ aP hc hG HT hv;have H:=HT;clear aP;have Hb:=H.full;have H:=Hb;clear hc;refine kH H (Rf J9 rfl ?_);clear H;intro a H;refine aD ⟨rfl,?_⟩;exact fF (by kernel_rfl) (Bz aN) rfl rfl HT Hb hG hv (fun _ _ h=>h) (rfl) H
     ·intro aN fJ bB a w G1 gu _ _ aP hc hG HT hv;have H:=HT;clear aP;have H:=H.aM (hv 1 46 (hc 1 (by decide)) rfl) rfl;have Hb:=H.full;have H:=Hb;clear hc;refine rC aH H wn rfl (H.hp.Dh (gu _ (iQ _ gJ)) rfl) rfl ?_;clear H;intro a H;refine aD ⟨rfl,?_⟩;exact fF (by kernel_rfl) (Bz aN) rfl rfl HT Hb hG hv (fun _ _ h=>h) (rfl) H
     ·intro aN fJ bB a w G1 gu _ _ aP hc hG HT hv;have H:=HT;clear aP;have Hb:=H.full;have H:=Hb;clear hc;refine bL eu (cs:=[.slice r1 r2 r3,vi (fu acc rej l[k].cells[i].head).marks.ins,vi (fu acc rej l[k].cells[i].head).marks.move,.slice r4 r5 r6,.slice r7 r8 r9]) H wn rfl rfl (fun j v hj=>H.hp.Dh (gu _ gJ) (by simpa using hj)) rfl ?_;clear H;intro a H;refine aD ⟨rfl,?_⟩;exact fF (by kernel_rfl) (Bz aN) rfl rfl HT Hb hG hv (fun _ _ h=>h) (rfl) H
     ·intro aN fJ bB a w G1 gu _ _ aP hc hG HT hv;have H:=HT;clear aP;have Hb:=H.full;have H:=Hb;clear hc;refine kH H (Rm rfl ?_);clear H;intro a H;refine aD ⟨rfl,?_⟩;exact fF (by kernel_rfl) (Bz aN) rfl rfl HT Hb hG hv (fun _ _ h=>h) (rfl) H
     ·intro aN fJ bB a w G1 gu _ _ aP hc hG HT hv;have H:=HT;clear aP;have Hb:=H.full;have H:=Hb;clear hc;refine kH H (Rf FL rfl ?_);clear H;intro a H;refine aD ⟨rfl,?_⟩;exact fF (by kernel_rfl) (Bz aN) rfl rfl HT Hb hG hv (fun _ _ h=>h) (rfl) H
     ·intro aN fJ bB a w G1 gu _ _ aP hc hG HT hv;have H:=HT;clear aP;have H:=H.aM (hv 5 50 (hc 5 (by decide)) rfl) rfl;have Hb:=H.full;have H:=Hb;clear hc;refine rC jc H wn rfl (H.hp.Dh (gu _ (iQ _ gJ)) rfl) rfl ?_;clear H;intro a H;refine aD ⟨rfl,?_⟩;exact fF (by kernel_rfl) (Bz aN) rfl rfl HT Hb hG hv (fun _ _ h=>h) (rfl) H
     ·intro aN fJ bB a w G1 gu _ _ aP hc hG HT hv;have H:=HT;clear aP;have H:=H.aM (hv 4 49 (hc 4 (by decide)) rfl) rfl;have H:=H.aM (hv 6 51 (hc 6 (by decide)) rfl) rfl;have Hb:=H.full;have H:=Hb;clear hc;refine s_call Q5 H wn rfl (ih _ _ H.ro (hf.mono fun b o h=>hG b o (tL b o (hgx b o (hgm b o h)))) l[k].cells[i].flow _ (SY.mono fun b o h=>hG b o (tL b o h)) (by omega)) rfl ?_;clear H;rintro v52 VZ a w F4 akb H;refine aD ⟨rfl,?_⟩;exact fF (by kernel_rfl) (Bz aN) rfl rfl HT Hb hG hv akb (F4) H
     ·intro aN fJ bB a w G1 gu _ _ aP hc hG HT hv;have H:=HT;clear aP;have H:=H.aM (hv 2 47 (hc 2 (by decide)) rfl) rfl;have H:=H.aM (hv 3 48 (hc 3 (by decide)) rfl) rfl;obtain ⟨u52,ams,F4⟩:=hv 7 52 (hc 7 (by decide)) rfl;(try dsimp only at F4);obtain ⟨Hf,n52,H9,rfl⟩:=F4.form;have H:=H.jR ams;have Hb:=H.full;have H:=Hb;clear hc;refine jm Ve [_,_,_,_,_,_,_] H wn rfl rfl rfl rfl ?_;clear H;intro a H;refine aD ⟨rfl,?_⟩;exact fF (by kernel_rfl) (Bz aN) rfl rfl HT Hb hG hv (fun _ _ h=>h) (⟨_,_,_,rfl,F4⟩) H
     ·intro _ _ _ _ _ _ _ _ hB;exact absurd hB (by decide)
     ·intro _ _ _ _ _ _ _ hB;exact absurd hB (by decide)
     intro _ _ _ _ _ _ _ hB;exact absurd hB (by decide)
    ·clear H;refine aF ?_ ?_ ?_ ?_ (aF ?_ ?_ ?_ ?_ (aF ?_ ?_ ?_ ?_ dz))
     ·intro hB;exact absurd hB (by decide)
     ·intro hB;exact absurd hB (by decide)
     ·intro hB;exact absurd hB (by decide)
     ·intro hB;exact absurd hB (by decide)
     ·intro hB;exact absurd hB (by decide)
     ·intro hB;exact absurd hB (by decide)
     ·intro hB;exact absurd hB (by decide)
     ·intro hB;exact absurd hB (by decide)
     ·intro hB;exact absurd hB (by decide)
     ·intro _ aN fJ bB a w G1 gu _ hc hG HT hv;have H:=HT;obtain ⟨u53,TG,Bw⟩:=hv (.bool false,[]) 8 53 (by decide) (hc 8 (by decide)) rfl;(try dsimp only at Bw);obtain ⟨zC,n53,c53,rfl,Bw⟩:=Bw;have H:=H.jR TG;have Hb:=H.full;have H:=Hb;clear hc;refine iE om kI [_,_,_,_,_,_,_] [_,_,_,_,_,_,_] H wn rfl rfl rfl rfl rfl (by intro i q h;match i,h with|0,h=>exact h|n+1,h=>simp at h) rfl rfl ?_;clear H;intro A9 a w Zl H;refine aD ⟨rfl,(.slice (some ⟨A9,0,none⟩) 1 1,[(A9,.cells #[vi l[k].cells[i].id,.slice r1 r2 r3,vi (fu acc rej l[k].cells[i].head).marks.ins,vi (fu acc rej l[k].cells[i].head).marks.move,.slice r4 r5 r6,.slice r7 r8 r9,.slice zC n53 c53] 76 (0,0))]),?_⟩;exact FC (by kernel_rfl) (Bz (xI aN 9 (.slice (some ⟨A9,0,none⟩) 1 1,[(A9,.cells #[vi l[k].cells[i].id,.slice r1 r2 r3,vi (fu acc rej l[k].cells[i].head).marks.ins,vi (fu acc rej l[k].cells[i].head).marks.move,.slice r4 r5 r6,.slice r7 r8 r9,.slice zC n53 c53] 76 (0,0))]))) rfl HT Hb hG (fun j e h1 h2 h3=>hv (.slice (some ⟨A9,0,none⟩) 1 1,[(A9,.cells #[vi l[k].cells[i].id,.slice r1 r2 r3,vi (fu acc rej l[k].cells[i].head).marks.ins,vi (fu acc rej l[k].cells[i].head).marks.move,.slice r4 r5 r6,.slice r7 r8 r9,.slice zC n53 c53] 76 (0,0))]) j e h1 h2 h3) (fun _ _ h=>h) (⟨A9,zC,n53,c53,rfl,rfl,Bw⟩) H
     ·intro hB;exact absurd hB (by decide)
     intro hB;exact absurd hB (by decide)
    clear H;intro aN a w G Kh H hv
    simp only [qy,List.flatMap_cons,List.flatMap_nil,cond_true,jf,iW] at H
    have H:=H.aM (hv 0 45 rfl rfl) rfl;obtain ⟨u54,amt,ZW⟩:=hv 9 54 (by decide) rfl;(try dsimp only at ZW);obtain ⟨A9,Hf,n52,H9,rfl,e54,F4⟩:=ZW;have H:=H.jR amt;clear hv;rw [e54] at H;dsimp only [lca,bJ] at H;have Z6:aU G (aX.dat (.mk l[k].cells[i].id (fu acc rej l[k].cells[i].head) (jh acc rej l[k].cells[i].flow))) [vi l[k].cells[i].id,.slice r1 r2 r3,vi (fu acc rej l[k].cells[i].head).marks.ins,vi (fu acc rej l[k].cells[i].head).marks.move,.slice r4 r5 r6,.slice r7 r8 r9,.slice Hf n52 H9]:=aU.Oe (x:=.mk l[k].cells[i].id (fu acc rej l[k].cells[i].head) (jh acc rej l[k].cells[i].flow)) (alh.mono Kh) F4;refine nE (Li:=[_,_,_,_,_]++Lo) (Lo:=Lc) (news:=[vi l[k].cells[i].id,.slice r1 r2 r3,vi (fu acc rej l[k].cells[i].head).marks.ins,vi (fu acc rej l[k].cells[i].head).marks.move,.slice r4 r5 r6,.slice r7 r8 r9,.slice Hf n52 H9]) om kI rfl rfl (St.un (A:=[_,_,_,_,_]) H) wn rfl rfl hrw2 rfl (H.hp.cO 0 rfl rfl) Z6.one (by omega) (by omega) rfl ?_;clear H;intro v55 adz a w alZ H;have H:=H.assoc;dsimp only [lca,bJ] at H;refine kH H (Ra rfl ?_);clear H;intro a H;refine aD ⟨rfl,?_⟩;refine dW _ _ ?_;clear dW;refine kP H (SC (Rd rfl (Rm rfl ?_)));clear H;intro a H;refine aD ?_;refine dD ((i+1,v55,xs2++[vi l[k].cells[i].id,.slice r1 r2 r3,vi (fu acc rej l[k].cells[i].head).marks.ins,vi (fu acc rej l[k].cells[i].head).marks.move,.slice r4 r5 r6,.slice r7 r8 r9,.slice Hf n52 H9],adz,_)) (by exact (H.dY (Pl:=[_,_,_,_,_]) (dK:=[_,_]) [3,4] (by decide) rfl).sub ⟨rfl,rfl,rfl,rfl,rfl,rfl,rfl,rfl,rfl,rfl,aC⟩) ?_
    (try dsimp only);exact ⟨by omega,by rw [OE hi2,KI,iI];exact alZ,by rw [OE hi2,KI,lY];exact (vT.mono fun b o h=>Kh b o (tL b o h)).snoc Z6 rfl,fun b o h=>Kh b o (tL b o (iM b o h))⟩
   intro Cv a H
   try have p44:=dF Cv
   have KI:yE acc rej l[k].cells[i]=[]:=by rw [Zm,au (by simpa using Cv)]
   refine kP H (Kc dW (SC (Rd rfl (Rm rfl ?_))));clear H dW;intro a H;refine aD ?_;refine dD ((i+1,_,xs2,Lc,_)) (by exact (H.dY (Pl:=[_,_,_,_]) (dK:=[_,_]) [2,3] (by decide) rfl).sub ⟨rfl,rfl,rfl,rfl,rfl,rfl,rfl,rfl,rfl,rfl,aC⟩) ?_
   (try dsimp only);exact ⟨by omega,by rw [OE hi2,KI,jf];exact hrw2,by rw [OE hi2,KI,jf];exact vT.mono tL,fun b o h=>tL b o (iM b o h)⟩
  intro fZ a H
  try have p34:=dF fZ
  obtain rfl:i=l[k].cells.length:=by omega
  rw [xL] at hrw2 vT hrl2 H;have H:=H.un (A:=[_,_]);obtain ⟨Gr,hmr,hrep,H⟩:=St.nW (Li:=[_,_]++Lo) H hrw2 (rows:=(kF acc rej l[k].cells).map aX.dat) (by simp) vT;have pX:∀ b o,g b=some o→Gr b=some o:=fun b o h=>hmr b o (iM b o (zV b o h));dsimp only [lca,bJ] at H;refine dV ?_;refine cZ _ _ ?_;clear cZ;refine kP H (SR fun _ gV=>Rm rfl (Rl om rfl (Rc rfl (Kz gV (Cd rfl ?_ ?_))))) <;> clear H gV
  ·intro iK a H
   try have p59:=dT iK
   have hone:xC acc rej l[k]=[.mk (fu acc rej l[k].head) (kF acc rej l[k].cells)]:=by rw [hce,ah (by omega),fu,ah Bv]
   have Z7:aU Gr (aW.dat (.mk (fu acc rej l[k].head) (kF acc rej l[k].cells))) [.slice q1 q2 q3,vi (fu acc rej l[k].head).marks.ins,vi (fu acc rej l[k].head).marks.move,.slice q4 q5 q6,.slice q7 q8 q9,.slice LU (kF acc rej l[k].cells).length LV]:=aU.Og (x:=.mk (fu acc rej l[k].head) (kF acc rej l[k].cells)) (alg.mono fun b o h=>hmr b o (iM b o h)) hrep;refine kP H (SC (Rm rfl ?_));clear H;intro a H;refine bL eu (cs:=[_,_,_,_,_]) H wn rfl rfl (H.hp.cO 0 rfl rfl) rfl ?_;clear H;intro a H;refine kH H (Rm rfl ?_);clear H;intro a H;refine jm Vd [_,_,_,_,_,_] H wn rfl rfl rfl rfl ?_;clear H;intro a H;refine iE mX jP [_,_,_,_,_,_] [_,_,_,_,_,_] H wn rfl rfl rfl rfl rfl (by intro i q h;match i,h with|0,h=>exact h|n+1,h=>simp at h) rfl rfl ?_;clear H;intro b64 a w atb H;refine nE (Li:=[_,_,_]) (Lo:=Lo) (news:=[.slice q1 q2 q3,vi (fu acc rej l[k].head).marks.ins,vi (fu acc rej l[k].head).marks.move,.slice q4 q5 q6,.slice q7 q8 q9,.slice LU (kF acc rej l[k].cells).length LV]) mX jP rfl rfl H wn rfl rfl hrw rfl (H.hp.cO 0 rfl rfl) Z7.one (by omega) (by omega) rfl ?_;clear H;intro v65 adI a w ama H;refine kH H (bq K7 rfl (SC (Rd rfl (Rm rfl ?_))));clear H K7;intro a H;refine aD ?_;refine dD ((k+1,v65,xs++[.slice q1 q2 q3,vi (fu acc rej l[k].head).marks.ins,vi (fu acc rej l[k].head).marks.move,.slice q4 q5 q6,.slice q7 q8 q9,.slice LU (kF acc rej l[k].cells).length LV],adI,_)) (by exact (H.dY (Pl:=[_,_,_]) (dK:=[]) [] (by decide) rfl).sub ⟨rfl,rfl,rfl,rfl,rfl,aC⟩) ?_
   (try dsimp only);exact ⟨by omega,by rw [Jb hk2,hone,iI];exact ama,by rw [Jb hk2,hone,lY];exact (dP.mono pX).snoc Z7 rfl,fun b o h=>pX b o (hgm b o h)⟩
  intro iK a H
  try have p59:=dF iK
  have hone:xC acc rej l[k]=[]:=by rw [hce,au (by omega)]
  refine kP H (Kc K7 (SC (Rd rfl (Rm rfl ?_))));clear H K7;intro a H;refine aD ?_;refine dD ((k+1,v,xs,Lo,_)) (by exact (H.dY (Pl:=[_,_]) (dK:=[]) [] (by decide) rfl).sub ⟨rfl,rfl,rfl,rfl,rfl,aC⟩) ?_
  (try dsimp only);exact ⟨by omega,by rw [Jb hk2,hone,jf];exact hrw,by rw [Jb hk2,hone,jf];exact dP.mono pX,fun b o h=>pX b o (hgm b o h)⟩
 intro h18 a H
 try have Dl:=dF h18
 obtain rfl:k=l.length:=by omega
 rw [xL] at hrw dP;refine dV ?_;refine K3 _ _ ?_;clear K3;refine kP H (SR fun _ jo=>Rm rfl (ak jo rfl ?_));clear H jo;intro a H;refine bW ?_;obtain ⟨G',hm,yu,H⟩:=H.nW (Li:=[]) hrw (rows:=(lH acc rej l).map aW.dat) (by simp) dP;refine lv H results165 rfl ?_;exact H.rt yu
set_option maxHeartbeats 4000000 in
theorem apk {fv:aj} {n:Nat} (ih:Mw fv acc rej n) (hn:n≤536870912):Mw fv acc rej (n+1):=by
 intro G w0 hG hf l v hv hz;obtain ⟨A,c,rfl,hc1,hc2,hg⟩:=hv.slice
 have hml:4294967297≤maxLen:=by decide
 have hll:=DI l;rw [bG] at *;refine eN [(0,_),(1,_)] func98 rfl ntmps98 rfl rfl hG ?_;intro a H;refine kP H (SR fun _ K1=>ak K1 rfl (SR fun _ K2=>ak K2 rfl (SQ fun _ K3=>SR fun _ K4=>Rm rfl (Rl iF rfl (Rm rfl (Kz K4 (SB ?_)))))));clear H K1 K2 K4;intro a H;skip;refine eU (ι:=Nat × aj × List aj × OL × GH) (Tc:=[(0,_),(10,_),(11,_)]) (Lc:=[]) (fun gh=>[(5,gh.2.1),(12,vi gh.1)]) (fun gh=>[]++gh.2.2.2.1) (fun gh=>gh.2.2.2.2) (fun gh=>gh.1≤l.length∧bZ 68 11 gh.2.1 (jh acc rej (l.take gh.1)).length gh.2.2.1 gh.2.2.2.1∧bT gh.2.2.2.2 11 ((jh acc rej (l.take gh.1)).map ay.dat) gh.2.2.1∧(∀ b o,G b=some o→gh.2.2.2.2 b=some o)) (fun gh=>l.length - gh.1) ((0,.slice none 0 0,[],[],G)) (by exact (H).sub ⟨rfl,rfl,rfl,rfl,rfl,aC⟩) ?_ ?_
 ·exact ⟨by omega,bZ.nil,bT.nil,fun _ _ h=>h⟩
 clear H;rintro ⟨k,v,xs,Lo,g⟩ a w hI H;dsimp only at hI H;obtain ⟨hk,hrw,dP,hgm⟩:=hI;have hrl:=abI (acc:=acc) (rej:=rej) (l.take k);rw [List.length_take] at hrl;dsimp only [lca,bJ] at H;refine kP H (SR fun _ K5=>Rc rfl (Kz K5 (SQ fun _ K6=>Cd rfl ?_ ?_))) <;> clear H K5
 ·intro gG a H
  try have rz:=dT gG
  have hk2:k < l.length:=by omega
  obtain ⟨b_,o_,pA,pn,pc,dA,dn,dc,yA,yn,yc,fA,fn,fc,rA,rn,rc,rfl,hrow,hhd,hfl,hrs⟩:=Bh hk2 hg;replace hrow:=fun j u hj=>aJ hgm (hrow j u hj);replace hhd:=hhd.mono hgm;replace hfl:=hfl.mono hgm;replace hrs:=hrs.mono hgm;have hzi:=Pm hk2;have hce:=abG (acc:=acc) (rej:=rej) l[k];refine kP H (Kc K6 (SQ fun _ K7=>SB (SR fun _ K8=>Ri iF fG rfl rfl ?_)));clear H K6;intro a H;refine bL fG (cs:=[_,_,_,_,_,_,_,_,_,_,_]) H wn rfl rfl (fun j v hj=>H.hp.aI (hrow j v hj)) rfl ?_;clear H;intro a H;refine dS fG H wn rfl ?_;clear H;intro b7 a w CO H;refine bD fG 0 (vs:=[_,_,_,_,_,_,_,_,_,_,_]) _ H wn rfl rfl rfl rfl rfl rfl rfl rfl ?_;clear H;intro w H;dsimp only [List.set,setRow] at H;refine K8 _ _ ?_;clear K8;refine kP H (SR fun _ K9=>Rm rfl (Rf vI rfl ?_));clear H;intro a H;refine bL eu (cs:=[_,_,_,_,_]) H wn rfl rfl (H.hp.cO 0 rfl rfl) rfl ?_;clear H;intro a H;refine ko H wn rfl rfl (hf _ _ hgm H.ro l[k].head _ _ _ hhd (by omega)) rfl ?_;clear H;rintro v20 EZ a w akQ qB H;obtain ⟨q1,q2,q3,q4,q5,q6,q7,q8,q9,rfl,Td⟩:=akQ.ans;refine kH H (Rm rfl ?_);clear H;intro a H;(iterate 2 refine lq H wn rfl rfl rfl ?_;clear H;intro a H);refine dS eu H wn rfl ?_;clear H;intro b8 a w Ns H;refine bD eu 0 (vs:=[_,_,_,_,_]) _ H wn rfl rfl rfl rfl rfl rfl rfl rfl ?_;clear H;intro w H;dsimp only [List.set,setRow] at H;refine kH H (ak K9 rfl (SQ fun _ aR=>SR fun _ bQ=>Rm rfl (Rn rfl (Kz bQ (Cd rfl ?_ ?_))))) <;> clear H K9 bQ
  ·intro fB a H
   try have mU:=dT fB
   have hone:xB acc rej l[k]=[]:=by rw [hce,au (by simpa using fB)]
   refine dV ?_;refine K7 _ _ ?_;clear K7;refine kP H (SC (Rd rfl (Rm rfl ?_)));clear H;intro a H;refine aD ?_;refine dD ((k+1,v,xs,Lo,_)) (by exact (H.dY (Pl:=[_,_]) (dK:=[]) [] (by decide) rfl).sub ⟨rfl,rfl,rfl,rfl,rfl,aC⟩) ?_
   (try dsimp only);exact ⟨by omega,by rw [Ja hk2,hone,jf];exact hrw,by rw [Ja hk2,hone,jf];exact dP.mono qB,fun b o h=>qB b o (hgm b o h)⟩
  intro fB a H
  try have mU:=dF fB
  have Bv:¬ sI acc rej l[k].head:=by simpa using fB
  rw [ah Bv] at hce;have han:fu acc rej l[k].head=mJ acc rej l[k].head:=ah Bv;refine gU ?_;refine aR _ _ ?_;clear aR;refine cu (fun _ bY=>?_);refine bL eu (cs:=[_,_,_,_,_]) H wn rfl rfl (H.hp.cO 0 rfl rfl) rfl ?_;clear H;intro a H;refine kH H (Rf vI rfl ?_);clear H;intro a H;refine bD eu 1 (vs:=[_,_,_,_,_]) _ H wn rfl rfl rfl rfl rfl rfl rfl rfl ?_;clear H;intro w H;dsimp only [List.set,setRow] at H;refine bY _ _ ?_;clear bY;refine sW (ι:=ay × List aj × GH) (Tc:=[(0,_),(5,_),(7,_),(10,_),(11,_),(12,_)]) (Lc:=[(_,_)]) (fun gh=>[]) (fun gh=>[(b7,.cells gh.2.1.toArray 68 (0,0))]++Lo) (fun gh=>gh.2.2) (fun gh=>xB acc rej l[k]=[gh.1]∧aU gh.2.2 gh.1.dat gh.2.1∧(∀ b o,EZ b=some o→gh.2.2 b=some o)) (by exact (H).sub ⟨rfl,rfl,rfl,rfl,rfl,rfl,aC⟩) ?_ ?_
  ·skip;refine kP H (SR fun _ cZ=>aY jZ aH 1 rfl rfl (Kz cZ (SB (SR fun _ dG=>Rc rfl (ak dG rfl (Cd rfl ?_ ?_)))))) <;> clear H cZ dG
   ·intro gN a H
    try have p29:=dT gN
    refine kP H (SC (Rm rfl (aY zK jc 1 rfl rfl ?_)));clear H;intro a H;refine s_call Q5 H wn rfl (ih _ _ H.ro (hf.mono fun b o h=>qB b o (hgm b o h)) l[k].flow _ (hfl.mono qB) (by omega)) rfl ?_;clear H;rintro v34 Mh a w Ey IC H;obtain ⟨DJ,n34,c34,rfl⟩:=Ey.form;refine kH H (Rf zK rfl ?_);clear H;intro a H;refine bD jc 1 (vs:=[_]) _ H wn rfl rfl rfl rfl rfl rfl rfl rfl ?_;clear H;intro w H;dsimp only [List.set,setRow] at H;refine aD ?_;refine ⟨(.mk l[k].kind l[k].code l[k].id l[k].text (fu acc rej l[k].head) (jh acc rej l[k].flow) l[k].rows,[vi l[k].kind,vi l[k].code,vi l[k].id,.string l[k].text,.slice q1 q2 q3,vi (fu acc rej l[k].head).marks.ins,vi (fu acc rej l[k].head).marks.move,.slice q4 q5 q6,.slice q7 q8 q9,.slice DJ n34 c34,.slice rA rn rc],Mh),by exact (H).sub ⟨rfl,rfl,rfl,rfl,rfl,rfl,aC⟩,?_⟩;(try dsimp only);exact ⟨by rw [hce,au p29,han],aU.mkItem (x:=.mk l[k].kind l[k].code l[k].id l[k].text (fu acc rej l[k].head) (jh acc rej l[k].flow) l[k].rows) (Td.mono IC) Ey (hrs.mono fun b o h=>IC b o (qB b o h)),IC⟩
   intro gN a H
   try have p29:=dF gN
   refine kP H (SR fun _ dZ=>Rc rfl (ak dZ rfl (Cd rfl ?_ ?_))) <;> clear H dZ
   ·intro vP a H
    try have p36:=dT vP
    refine kP H (SR fun _ eB=>Rm rfl (aY qP rF 1 rfl rfl ?_));clear H;intro a H;refine s_call agV H wn rfl (apm ih (by omega) _ _ H.ro (hf.mono fun b o h=>qB b o (hgm b o h)) l[k].rows _ (hrs.mono qB) (by omega)) rfl ?_;clear H;rintro v41 E5 a w KM tL H;obtain ⟨A41,n41,c41,rfl⟩:=KM.form;have ZM:=KM.len;rw [bG] at ZM;subst ZM;refine kH H (Rf qP rfl ?_);clear H;intro a H;refine bD rF 1 (vs:=[_]) _ H wn rfl rfl rfl rfl rfl rfl rfl rfl ?_;clear H;intro w H;dsimp only [List.set,setRow] at H;refine eB _ _ ?_;clear eB;refine kP H (SR fun _ dW=>aY qP rF 1 rfl rfl (Rl mX rfl (Rc rfl (Kz dW (Cd rfl ?_ ?_))))) <;> clear H dW
    ·intro h46 a H
     try have p46:=dT h46
     have hone:xB acc rej l[k]=[]:=by rw [hce,ah p29,au p36,au (by omega)]
     refine dV ?_;refine K7 _ _ ?_;clear K7;refine kP H (SC (Rd rfl (Rm rfl ?_)));clear H;intro a H;refine aD ?_;refine dD ((k+1,v,xs,Lo,_)) (by exact (H.dY (Pl:=[_,_]) (dK:=[]) [] (by decide) rfl).sub ⟨rfl,rfl,rfl,rfl,rfl,aC⟩) ?_
     (try dsimp only);exact ⟨by omega,by rw [Ja hk2,hone,jf];exact hrw,by rw [Ja hk2,hone,jf];exact dP.mono fun b o h=>tL b o (qB b o h),fun b o h=>tL b o (qB b o (hgm b o h))⟩
    intro h46 a H
    try have p46:=dF h46
    refine gU ?_;refine ⟨(.mk l[k].kind l[k].code l[k].id l[k].text (fu acc rej l[k].head) l[k].flow (lH acc rej l[k].rows),[vi l[k].kind,vi l[k].code,vi l[k].id,.string l[k].text,.slice q1 q2 q3,vi (fu acc rej l[k].head).marks.ins,vi (fu acc rej l[k].head).marks.move,.slice q4 q5 q6,.slice q7 q8 q9,.slice fA fn fc,.slice A41 (lH acc rej l[k].rows).length c41],E5),by exact (H).sub ⟨rfl,rfl,rfl,rfl,rfl,rfl,aC⟩,?_⟩;(try dsimp only);exact ⟨by rw [hce,ah p29,au p36,ah (by omega),han],aU.mkItem (x:=.mk l[k].kind l[k].code l[k].id l[k].text (fu acc rej l[k].head) l[k].flow (lH acc rej l[k].rows)) (Td.mono tL) (hfl.mono fun b o h=>tL b o (qB b o h)) KM,tL⟩
   intro vP a H
   try have p36:=dF vP
   refine gU ?_;refine ⟨(.mk l[k].kind l[k].code l[k].id l[k].text (fu acc rej l[k].head) l[k].flow l[k].rows,[vi l[k].kind,vi l[k].code,vi l[k].id,.string l[k].text,.slice q1 q2 q3,vi (fu acc rej l[k].head).marks.ins,vi (fu acc rej l[k].head).marks.move,.slice q4 q5 q6,.slice q7 q8 q9,.slice fA fn fc,.slice rA rn rc],_),by exact (H).sub ⟨rfl,rfl,rfl,rfl,rfl,rfl,aC⟩,?_⟩;(try dsimp only);exact ⟨by rw [hce,ah p29,ah p36,han],aU.mkItem (x:=.mk l[k].kind l[k].code l[k].id l[k].text (fu acc rej l[k].head) l[k].flow l[k].rows) Td (hfl.mono qB) (hrs.mono qB),fun _ _ h=>h⟩
  clear H;rintro ⟨y,XA,g9⟩ a w hI H;dsimp only at hI H;obtain ⟨hone,Da,Bp⟩:=hI;obtain ⟨e1,e2,e3,e4,e5,e6,e7,e8,e9,f1,f2,f3,f4,f5,f6,Nw,-,-,-⟩:=Da.item;rw [Nw] at H;dsimp only [lca,bJ] at H;refine kP H (SC (Rm rfl ?_));clear H;intro a H;refine bL fG (cs:=[_,_,_,_,_,_,_,_,_,_,_]) H wn rfl rfl (H.hp.cO 1 rfl rfl) rfl ?_;clear H;intro a H;refine iE iF fG [_,_,_,_,_,_,_,_,_,_,_] [_,_,_,_,_,_,_,_,_,_,_] H wn rfl rfl rfl rfl rfl (by intro i q h;match i,h with|0,h=>exact h|n+1,h=>simp at h) rfl rfl ?_;clear H;intro b49 a w asZ H;refine nE (Li:=[_,_,_]) (Lo:=Lo) (news:=XA) iF fG rfl rfl H wn rfl rfl hrw (by rw [Nw];rfl) (by rw [Nw];exact H.hp.cO 0 rfl rfl) Da.one (by omega) (by omega) rfl ?_;clear H;intro v50 adG a w alY H;refine kH H (bq K7 rfl (SC (Rd rfl (Rm rfl ?_))));clear H K7;intro a H;refine aD ?_;refine dD ((k+1,v50,xs++XA,adG,_)) (by exact (H.dY (Pl:=[_,_,_]) (dK:=[]) [] (by decide) rfl).sub ⟨rfl,rfl,rfl,rfl,rfl,aC⟩) ?_
  (try dsimp only);exact ⟨by omega,by rw [Ja hk2,hone,iI];exact alY,by rw [Ja hk2,hone,lY];exact (dP.mono fun b o h=>Bp b o (qB b o h)).snoc Da (by rw [Nw];rfl),fun b o h=>Bp b o (qB b o (hgm b o h))⟩
 intro gG a H
 try have rz:=dF gG
 obtain rfl:k=l.length:=by omega
 rw [xL] at hrw dP;refine dV ?_;refine K3 _ _ ?_;clear K3;refine kP H (SR fun _ fC=>Rm rfl (ak fC rfl ?_));clear H fC;intro a H;refine bW ?_;obtain ⟨G',hm,yu,H⟩:=H.nW (Li:=[]) hrw (rows:=(jh acc rej l).map ay.dat) (by simp) dP;refine lv H results98 rfl ?_;exact H.rt yu
theorem abF {fv:aj}:∀ n:Nat,n≤536870913→Mw fv acc rej n
 | 0,_=>fun _ _ _ _ _ _ _ h=>absurd h (by omega)
 | n+1,hn=>apk (abF n (by omega)) (by omega)
end

section
section
variable {N:Nat} {D:List Deferred} {w0:World} {F:Nat→Prop} {G0 G:GH} {L:OL} {T:List (Nat × aj)}
variable {r:Option Nat} {P:Program} {ops:Array Oper} {Q:Exit→Act→World→Prop} {rest:List Oper} {a:Act} {w:World}
variable {d:Nat} {ty:TypeId} {pos:String} {aL:Array Edge} {g:Option (Nat × Bool)}
end
end
def aaC:Go.Shelf.Ren:=⟨fun|7=>90|10=>150|n=>n,fun|0=>0|3=>4|4=>4|23=>131|26=>3|27=>165|28=>166|33=>137|n=>n,fun n=>n⟩
theorem aaB:Go.Proofs.SlLaysZI.n7 prog aaC where
 mixed:=by kernel_rfl
 f7:=⟨f90.name,by kernel_rfl,func90.trans (aB some (by kernel_rfl))⟩
 f10:=⟨f150.name,by kernel_rfl,func150.trans (aB some (by kernel_rfl))⟩
 t0:=underlying0
 a0:=isAgg0
 z0:=sizeOf0
 v0:=zeroValue0
 t4:=underlying4
 a4:=isAgg4
 z4:=sizeOf4
 v4:=zeroValue4
 t23:=underlying131
 a23:=isAgg131
 z23:=sizeOf131
 v23:=zeroValue131
 t26:=underlying3
 a26:=isAgg3
 z26:=sizeOf3
 v26:=zeroValue3
 t27:=underlying165
 a27:=isAgg165
 z27:=sizeOf165
 v27:=zeroValue165
 t28:=underlying166
 a28:=isAgg166
 z28:=sizeOf166
 v28:=zeroValue166
 t33:=underlying137
 a33:=isAgg137
 z33:=sizeOf137
 v33:=zeroValue137
def acf:Go.Shelf.Ren:=⟨fun|6=>89|8=>149|9=>148|11=>209|n=>n,fun|0=>0|24=>41|26=>3|28=>166|33=>137|n=>n,fun n=>n⟩
theorem aqN:Go.Proofs.SlLaysZI.n6 prog acf where
 mixed:=by kernel_rfl
 f6:=⟨f89.name,by kernel_rfl,func89.trans (aB some (by kernel_rfl))⟩
 f8:=⟨f149.name,by kernel_rfl,func149.trans (aB some (by kernel_rfl))⟩
 f11:=⟨f209.name,by kernel_rfl,func209.trans (aB some (by kernel_rfl))⟩
 t0:=underlying0
 a0:=isAgg0
 z0:=sizeOf0
 v0:=zeroValue0
 t24:=underlying41
 a24:=isAgg41
 z24:=sizeOf41
 v24:=zeroValue41
 t26:=underlying3
 a26:=isAgg3
 z26:=sizeOf3
 v26:=zeroValue3
 t28:=underlying166
 a28:=isAgg166
 z28:=sizeOf166
 v28:=zeroValue166
 i26:=by kernel_rfl
def aqM:Go.Shelf.Ren:=⟨fun|5=>148|7=>207|8=>208|10=>230|11=>231|12=>232|13=>233|14=>234|15=>235|16=>114|17=>236|18=>237|19=>238|20=>239|30=>255|31=>256|32=>257|33=>258|34=>259|35=>174|40=>269|n=>n,fun|0=>0|3=>3|4=>4|5=>5|9=>9|22=>41|23=>41|25=>3|32=>199|35=>301|36=>302|41=>114|44=>308|46=>310|53=>328|57=>180|63=>344|64=>345|n=>n,fun n=>n⟩
theorem ace:Go.Proofs.SlLaysM.n5 prog aqM where
 mixed:=by kernel_rfl
 f5:=⟨f148.name,by kernel_rfl,func148.trans (aB some (by kernel_rfl))⟩
 f7:=⟨f207.name,by kernel_rfl,func207.trans (aB some (by kernel_rfl))⟩
 f8:=func208.trans (aB some (by kernel_rfl))
 f10:=⟨f230.name,by kernel_rfl,func230.trans (aB some (by kernel_rfl))⟩
 f11:=⟨f231.name,by kernel_rfl,func231.trans (aB some (by kernel_rfl))⟩
 f12:=⟨f232.name,by kernel_rfl,func232.trans (aB some (by kernel_rfl))⟩
 f13:=⟨f233.name,by kernel_rfl,func233.trans (aB some (by kernel_rfl))⟩
 f14:=⟨f234.name,by kernel_rfl,func234.trans (aB some (by kernel_rfl))⟩
 f15:=⟨f235.name,by kernel_rfl,func235.trans (aB some (by kernel_rfl))⟩
 f16:=⟨f114.name,by kernel_rfl,func114.trans (aB some (by kernel_rfl))⟩
 f17:=⟨f236.name,by kernel_rfl,func236.trans (aB some (by kernel_rfl))⟩
 f18:=⟨f237.name,by kernel_rfl,func237.trans (aB some (by kernel_rfl))⟩
 f19:=func238.trans (aB some (by kernel_rfl))
 f20:=func239.trans (aB some (by kernel_rfl))
 f30:=⟨f255.name,by kernel_rfl,func255.trans (aB some (by kernel_rfl))⟩
 f31:=func256.trans (aB some (by kernel_rfl))
 f32:=func257.trans (aB some (by kernel_rfl))
 f33:=⟨f258.name,by kernel_rfl,func258.trans (aB some (by kernel_rfl))⟩
 f34:=⟨f259.name,by kernel_rfl,func259.trans (aB some (by kernel_rfl))⟩
 f35:=⟨f174.name,by kernel_rfl,func174.trans (aB some (by kernel_rfl))⟩
 f40:=⟨f269.name,by kernel_rfl,func269.trans (aB some (by kernel_rfl))⟩
 t0:=underlying0
 a0:=isAgg0
 z0:=sizeOf0
 v0:=zeroValue0
 t3:=underlying3
 a3:=isAgg3
 z3:=sizeOf3
 v3:=zeroValue3
 t4:=underlying4
 a4:=isAgg4
 z4:=sizeOf4
 v4:=zeroValue4
 t5:=underlying5
 a5:=isAgg5
 z5:=sizeOf5
 v5:=zeroValue5
 t9:=underlying9
 a9:=isAgg9
 z9:=sizeOf9
 v9:=zeroValue9
 t22:=underlying41
 a22:=isAgg41
 z22:=sizeOf41
 v22:=zeroValue41
 t23:=underlying41
 a23:=isAgg41
 z23:=sizeOf41
 v23:=zeroValue41
 t25:=underlying3
 a25:=isAgg3
 z25:=sizeOf3
 v25:=zeroValue3
 t32:=underlying199
 a32:=isAgg199
 z32:=sizeOf199
 v32:=zeroValue199
 t35:=underlying301
 a35:=isAgg301
 z35:=sizeOf301
 v35:=zeroValue301
 t36:=underlying302
 a36:=isAgg302
 z36:=sizeOf302
 v36:=zeroValue302
 t41:=underlying114
 a41:=isAgg114
 z41:=sizeOf114
 v41:=zeroValue114
 t44:=underlying308
 a44:=isAgg308
 z44:=sizeOf308
 v44:=zeroValue308
 t46:=underlying310
 a46:=isAgg310
 z46:=sizeOf310
 v46:=zeroValue310
 t53:=underlying328
 a53:=isAgg328
 z53:=sizeOf328
 v53:=zeroValue328
 t57:=underlying180
 a57:=isAgg180
 z57:=sizeOf180
 v57:=zeroValue180
 t63:=underlying344
 a63:=isAgg344
 z63:=sizeOf344
 v63:=zeroValue344
 t64:=underlying345
 a64:=isAgg345
 z64:=sizeOf345
 v64:=zeroValue345
section
open Go.RowKit Go.Maps
theorem agI:∀ args w,(callFunc 148 args).run prog w=.ok (.enter 148 args) w:=enters func148 rfl (by kernel_rfl)
theorem agK:∀ args w,(callFunc 150 args).run prog w=.ok (.enter 150 args) w:=enters func150 rfl (by kernel_rfl)
theorem alK {G:GH} {w:World} (h:Hold G w) {b:Nat} (hb:w.heap.size≤b):G b=none:=by
 cases hg:G b with
 | none=>rfl
 | some o=>exact absurd (lt_of_heap (h b o hg)) (by omega)
theorem Yw {G:GH} {w w':World} (h:Hold G w) (hb:Below w.heap.size w w') {b:Nat} {o:Obj} (hn:w.heap.size≤b) (ho:w'.heap[b]?=some o):Ext w.heap.size G (G.add b o) w':=by
 refine ⟨fun k o' hk=>GH.HV G (alK h hn) k o' hk,fun k o' hk=>?_,fun k o' hk=>?_⟩
 ·unfold GH.add at hk
  split at hk
  ·rename_i e;exact .inr (e ▸ hn)
  exact .inl hk
 unfold GH.add at hk
 split at hk
 ·rename_i e;rw [e,ho,hk]
 exact (hb.block k (lt_of_heap (h k o' hk))).trans (h k o' hk)
theorem anr (G:GH) (w0:World) (hG:Hold G w0) (mb:Option Nat) :
  Calls prog 90 #[.map mb] w0 (aZ w0 G fun u G'=>∃ bx,u=.func (.func 150) #[] #[(aK bx 0)]∧G' bx=some (.cells #[.map mb] 131 (0,0))):=by
 have h:CallsIn Fence.wide 5 prog 90 #[.map mb] w0 fun e w'=>e=.returned (.func (.func 150) #[] #[(aK w0.heap.size 0)])∧w'=w0.alloc (.cells #[.map mb] 131):=AnyZI.keys_in aaB Fence.wide 5 trivial rfl mb w0;refine ((callsIn_wide (n:=5)).1 h).mono ?_;rintro e w' ⟨rfl,rfl⟩;have hb:Below w0.heap.size w0 (w0.alloc (.cells #[.map mb] 131)):=(Below.refl _ w0).alloc (bM _) _;exact ⟨_,_,rfl,hb,Yw hG hb (bM _) (show (w0.heap.push _)[w0.heap.size]?=_ by simp),_,rfl,GH.HY _ _ _⟩
def GN (_:aj):Option (DataW Unit × List MemPlace):=some (.nil,[])
theorem aod {w:World} {b clock:Nat} {es:Array MapEntry} {l:List Int} (hb:w.heap[b]?=some (.map es clock)) (hs:MapKept.Stamped es clock) (hk:es.toList.map (·.key)=l.map (Value.int .i64)) (hw:∀ k∈l,-9223372036854775808≤k∧k < 9223372036854775808) (hl:l.length≤4294967296) :
  ∃ D:DataW Unit,w.ownsMap prog 3 GN b l.length D∧(intKeys D).Perm l∧Maps.size D=l.length:=by
 have hlen:es.size=l.length:=by
  have:=aB List.length hk
  simpa using this
 have hml:maxLen=9223372036854775807:=rfl
 have hr:∀ x∈es.toList,∃ k∈l,Go.WideElems.rd prog 3 GN x=some (.int .i64 k,.nil):=by
  intro x hx
  have h1:x.key∈l.map (Value.int .i64):=by rw [← hk];exact List.mem_map_of_mem hx
  obtain ⟨k,h2,h3⟩:=List.mem_map.1 h1;obtain ⟨h4,h5⟩:=hw k h2
  have hwf:(Lit.int .i64 k).wf=true:=by
   show (decide (IntKind.i64.min≤k) && decide (k≤IntKind.i64.max))=true
   rw [show IntKind.i64.min=-9223372036854775808 by decide,show IntKind.i64.max=9223372036854775807 by decide]
   simp;omega
  refine ⟨k,h2,?_⟩
  unfold Go.WideElems.rd
  rw [← h3]
  have h6:keyOf prog 3 (.int .i64 k)=some (.int .i64 k):=by
   unfold keyOf mapKey
   rw [underlying3]
   simp [hwf]
  rw [h6]
  rfl
 refine ⟨_,⟨es,clock,hb,⟨by omega,hs,fun x hx=>?_⟩,by omega,rfl⟩,?_,?_⟩
 ·obtain ⟨k,-,h⟩:=hr x hx;exact ⟨_,h⟩
 ·show (((es.toList.map (Go.WideElems.rg prog 3 GN)).foldr DataW.insert []).map fun p=>Go.intOf p.1).Perm l
  refine ((Go.WideShapes.sorted_perm _).map _).trans ?_;rw [List.map_map]
  have h1:es.toList.map ((fun p:Lit × DataW Unit=>Go.intOf p.1) ∘ Go.WideElems.rg prog 3 GN)=l:=by
   have h2:es.toList.map ((fun p:Lit × DataW Unit=>Go.intOf p.1) ∘ Go.WideElems.rg prog 3 GN)=(es.toList.map (·.key)).map fun v=>match v with|.int _ a=>a|_=>0:=by
    rw [List.map_map];refine List.map_congr_left fun x hx=>?_;obtain ⟨k,hkl,h⟩:=hr x hx
    obtain ⟨k',h3,h4⟩:∃ k',Go.WideElems.rd prog 3 GN x=some (.int .i64 k',.nil)∧x.key=.int .i64 k':=by
     have h5:x.key∈l.map (Value.int .i64):=by rw [← hk];exact List.mem_map_of_mem hx
     obtain ⟨k',h6,h7⟩:=List.mem_map.1 h5;refine ⟨k,h,?_⟩;have h8:=Go.WideElems.rd_key h;obtain ⟨z,h9,h10,-⟩:=Maps.keyOf_i64 underlying3 h8
     cases h10
     exact h9
    simp only [Function.comp,Go.WideElems.rg_of h3,h4,Go.intOf]
   rw [h2,hk,List.map_map]
   simp [Function.comp_def]
  rw [h1]
 show ((es.toList.map (Go.WideElems.rg prog 3 GN)).foldr DataW.insert []).length=_
 rw [(Go.WideShapes.sorted_perm _).length_eq,bG,uz,hlen]
theorem aqP (m:Nat):AnyZI.SortsIn prog acf Fence.wide m :=
  ⟨fun blk off cap ss W hH hblk hsz=>callsIn_wide.2 (AnyM.slices_Sort_int ace blk off cap ss W hH hblk hsz),
   fun p cap W=>callsIn_wide.2 (AnyM.slices_Sort_int_none ace p cap W)⟩
def Dr (l:List Int):List Int:=l.mergeSort leI
theorem aqO (G:GH) (w0:World) (hG:Hold G w0) (b bx clock:Nat) (es:Array MapEntry) (l:List Int) (hbx:G bx=some (.cells #[.map (some b)] 131 (0,0))) (hb:w0.heap[b]?=some (.map es clock)) (hs:MapKept.Stamped es clock) (hk:es.toList.map (·.key)=l.map (Value.int .i64))
  (hw:∀ k∈l,-9223372036854775808≤k∧k < 9223372036854775808) (hl:l.length≤4294967296) :
  Calls prog 89 #[.func (.func 150) #[] #[(aK bx 0)]] w0 (aZ w0 G fun u G'=>av G' (.sl 1 ((Dr l).map fun k=>[li k])) u):=by
 obtain ⟨D0,hown,hperm,hsize⟩:=aod hb hs hk hw hl;have hml:maxLen=9223372036854775807:=rfl
 have hseq:SeqGives Fence.wide 2 prog 150 #[(aK bx 0)] encZ (fun ss=>ss.Perm (intKeys D0)) (Maps.size D0) w0 :=
  AnyZI.keys_gives (ρ:=aaC) { aaB with } Fence.wide _ trivial rfl (by omega) bx b l.length D0 _ (lt_of_heap (hG _ _ hbx)) (by simp [World.cell?,hG _ _ hbx]) hown
 have cS:=AnyZI.sorted_in aqN Fence.wide 5 trivial trivial trivial trivial rfl (by omega) (aqP _) agI 150 #[(aK bx 0)] trivial agK _ _ (by omega) (by omega) _ hseq
 change CallsIn _ _ prog 89 _ _ _ at cS
 refine ((callsIn_wide (n:=5)).1 cS).mono ?_;rintro e w' ⟨v,ss,rfl,hS,hrow,-,hbel⟩;have hS2:ss.mergeSort (fun x y=>decide (x≤y))=Dr l:=mergeSort_of_perm_i (hS.trans hperm);rw [hS2] at hrow
 have hlen:ss.length=(Dr l).length:=by rw [Dr,List.length_mergeSort,hS.length_eq,hperm.length_eq]
 have dP:∀ (G1:GH) (xs:List Int),bT G1 1 (xs.map fun k=>[li k]) (xs.map encZ):=by
  intro G1 xs
  induction xs with
  | nil=>exact bT.nil
  | cons x xs ih =>
   have h8:=((bT.nil (G:=G1) (sz:=1)).snoc (q:=[li x]) (cs:=[encZ x]) (by simp [aU,av,li,Value.oneCell']) rfl).append ih
   simpa using h8
 rcases hrow.2 with ⟨rfl,hz⟩|⟨gb,cap,cur,rfl,hbase,hgb,r1,r2,r3,r4⟩
 ·refine ⟨_,G,rfl,hbel,⟨fun _ _ h=>h,fun _ _ h=>.inl h,fun k o hk=>(hbel.block k (lt_of_heap (hG k o hk))).trans (hG k o hk)⟩,?_⟩;rw [List.eq_nil_of_length_eq_zero (by omega:(Dr l).length=0)]
  simp only [av]
  exact ⟨none,0,by simp,by simp,by simp [maxLen],fun h=>absurd rfl h⟩
 exact ⟨_,_,rfl,hbel,Yw hG hbel hbase hgb,av.fE (GH.HY G gb _) (by simp [hlen]) r1 r2 (by simpa using r4) (dP _ _)⟩
end
section
abbrev jA (l:List Int):List (Int × aj):=l.map fun q=>(q,.bool true)
theorem abX (l:List Int):(jA l).map (·.1)=l:=by rw [List.map_map];simp [Function.comp_def]
theorem aqi (l r:List Int):jA (l++r)=jA l++jA r:=lY
theorem Un:∀ (i:Nat) (l:List (Int × aj)),(iV i l).map (·.key)=l.map fun x=>Value.int .i64 x.1
 | _,[]=>rfl
 | i,(k,v) :: r=>by rw [iV,fK,fK,Un (i+1) r]
theorem Um:∀ (i:Nat) (l:List (Int × aj)),(iV i l).map (·.born)=List.range' i l.length
 | _,[]=>rfl
 | i,(k,v) :: r=>by rw [iV,fK,Um (i+1) r];rfl
theorem aaN:∀ (i n:Nat) (l:List (Int × aj)),(iV i l)[n]?=(l[n]?).map fun x=>⟨.int .i64 x.1,x.2,i+n⟩
 | _,_,[]=>rfl
 | i,0,(k,v) :: r=>rfl
 | i,n+1,(k,v) :: r=>by rw [iV,List.getElem?_cons_succ,List.getElem?_cons_succ,aaN (i+1) n r,show i+1+n=i+(n+1) by omega]
theorem anq {l:List (Int × aj)} (h:(l.map (·.1)).Nodup):MapKept.Stamped (iV 0 l).toArray l.length:=by
 refine ⟨fun x hx=>?_,?_,?_⟩
 ·have h1:=List.mem_map_of_mem (f:=(·.born)) hx
  rw [Um] at h1
  have:=List.mem_range'_1.1 h1
  omega
 ·show ((iV 0 l).map (·.born)).Nodup
  rw [Um];exact List.nodup_range'
 ·show ((iV 0 l).map (·.key)).Nodup
  rw [Un,show (fun x:Int × aj=>Value.int .i64 x.1)=Value.int .i64 ∘ (·.1) from rfl,← List.map_map]
  exact List.pairwise_map.2 (h.imp fun hne e=>hne (by injection e))
theorem Rt (x:Int):∀ (i j:Nat) (l:List Int),∃ an,Instr.findNow (.int .i64) (.int .i64 x) (iV i (jA l)) j=some an∧((x∈l∧∃ n,an=some (j+n,.bool true)∧l[n]?=some x)∨(x∉l∧an=none))
 | _,_,[]=>⟨none,rfl,.inr ⟨by simp,rfl⟩⟩
 | i,j,k :: r=>by
  by_cases e:k=x
  ·subst e
   exact ⟨some (j,.bool true),by simp only [jA,fK,iV,Instr.findNow,Instr.sameNow,au,beq_self_eq_true],.inl ⟨gJ,0,rfl,rfl⟩⟩
  ·have hb:(x == k)=false:=by simp;exact fun h=>e h.symm
   obtain ⟨an,h1,h2⟩:=Rt x (i+1) (j+1) r
   refine ⟨an,by simpa only [jA,fK,iV,Instr.findNow,Instr.sameNow,au,hb] using h1,?_⟩
   rcases h2 with ⟨h3,n,h4,h5⟩|⟨h3,h4⟩
   ·exact .inl ⟨iQ _ h3,n+1,by rw [h4,show j+1+n=j+(n+1) by omega],h5⟩
   ·exact .inr ⟨fun h=>(jS.1 h).elim (fun h=>e h.symm) h3,h4⟩
theorem Uo {α β:Type} (f:α→β):∀ (l:List α) (j:Nat),(l.eraseIdx j).map f=(l.map f).eraseIdx j
 | [],_=>rfl
 | x :: l,0=>rfl
 | x :: l,j+1=>by rw [List.eraseIdx_cons_succ,fK,fK,List.eraseIdx_cons_succ,Uo f l j]
def xK (l:List Int) (x:Int):List Int:=if x∈l then l else l++[x]
theorem adR {l:List Int} {x y:Int}:y∈xK l x↔y∈l∨y=x:=by
 unfold xK
 split
 ·rename_i h
  exact ⟨.inl,fun h2=>h2.elim id fun e=>e ▸ h⟩
 ·simp
theorem adS {l:List Int} {x:Int} (h:l.Nodup):(xK l x).Nodup:=by
 unfold xK
 split
 ·exact h
 ·rename_i hx
  exact List.nodup_append.2 ⟨h,List.pairwise_singleton _ _,fun a ha b hb e=>hx (by rw [uE] at hb;rw [← hb,← e];exact ha)⟩
section
variable {N:Nat} {D:List Deferred} {w0:World} {F:Nat→Prop} {G0 G:GH} {L:OL} {T:List (Nat × aj)}
variable {r:Option Nat} {P:Program} {ops:Array Oper} {Q:Exit→Act→World→Prop} {rest:List Oper} {a:Act} {w:World}
variable {d:Nat} {ty:TypeId} {pos:String} {aL:Array Edge} {g:Option (Nat × Bool)}
theorem U2 {t kt et:TypeId} {x y z:Operand} {b i:Nat} {l:List Int} {ky:Int} (hm:P.underlying t=some (.map kt et)) (hk:P.underlying kt=some (.int .i64)) (H:St N D w0 F G0 G L T a w)
  (hw:Region.wanted ⟨none,.mapUpdate t x y z,ty,pos,aL,g⟩ (yielded ops a.tmps)=true) (hx:ev T x=some (.map (some b))) (hy:ev T y=some (.int .i64 ky)) (hzv:ev T z=some (.bool true)) (hi:L[i]?=some (b,fD (jA l)))
  (k:∀ w',St N D w0 F G0 G (L.set i (b,fD (jA (xK l ky)))) T a w'→WL r P ops Q rest a w'):WL r P ops Q (⟨none,.mapUpdate t x y z,ty,pos,aL,g⟩ :: rest) a w:=by
 obtain ⟨an,hf,han⟩:=Rt ky 0 0 l
 rcases han with ⟨hm2,n,rfl,hn⟩|⟨hm2,rfl⟩
 ·have hkey:MapKept.IsKey (.int .i64) (.int .i64 ky):=by trivial
  have hb:w.heap[b]?=some (.map (iV 0 (jA l)).toArray (jA l).length):=H.hp.own _ (kQ hi)
  have h1:=MapKept.run_checkKey (P:=P) (w:=w) hk hkey false 9999
  have h2:=MapKept.run_findKey (P:=P) (w:=w) (l:=(iV 0 (jA l)).toArray.toList) hk (by simpa using hf)
  have h3:=MapKept.run_keyThatStays (P:=P) (w:=w) hkey
  have hgn:(iV 0 (jA l))[n]?=some ⟨.int .i64 ky,.bool true,0+n⟩:=by
   rw [aaN];unfold jA;rw [pQ,hn];rfl
  have hg:((iV 0 (jA l)).toArray[n]?.map (·.key)).getD (.int .i64 ky)=.int .i64 ky:=by
   rw [List.getElem?_toArray,hgn];rfl
  have hmod:(iV 0 (jA l)).toArray.modify n (fun e=>{ e with key:=.int .i64 ky,val:=.bool true })=(iV 0 (jA l)).toArray:=by
   apply Array.ext_getElem?
   intro j
   rw [Array.getElem?_modify]
   by_cases hij:n=j
   ·subst hij
    rw [au rfl,List.getElem?_toArray,hgn];rfl
   ·rw [ah hij]
  have ha:xK l ky=l:=by unfold xK;rw [au hm2]
  rw [ha] at k
  refine Vy (w':={ w with heap:=w.heap.setIfInBounds b (fD (jA l)) }) hw rfl ?_ (k _ (H.move (H.hp.upd hi (Vu hb))))
  show (execOp a.eval _).run P w=.ok _ { w with heap:=w.heap.setIfInBounds b (.map (iV 0 (jA l)).toArray (jA l).length) }
  generalize (iV 0 (jA l)).toArray=es at hb h2 hg hmod ⊢
  simp [execOp,Instr.mapUpdate,H.ev hx,H.ev hy,H.ev hzv,dO,mW hm,MapKept.run_getObj_map hb,h1,h2,hg,h3,hmod,MapKept.run_setObj_map _ hb,Result.andThen]
 ·refine Lm hm hk H hw hx hy hzv hi (KY (by rw [abX];exact hm2)) fun w' H'=>k w' ?_
  have ha:xK l ky=l++[ky]:=by unfold xK;rw [ah hm2]
  rw [ha,aqi]
  exact H'
theorem apG {t kt et:TypeId} {x y:Operand} {b i:Nat} {l:List Int} {ky:Int} (hm:P.underlying t=some (.map kt et)) (hk:P.underlying kt=some (.int .i64)) (hnd:l.Nodup) (H:St N D w0 F G0 G L T a w)
  (hw:Region.wanted ⟨none,.call { callee:=.builtin .delete,args:=#[x,y],argTypes:=#[t,kt] },ty,pos,aL,g⟩ (yielded ops a.tmps)=true) (hx:ev T x=some (.map (some b))) (hy:ev T y=some (.int .i64 ky)) (hi:L[i]?=some (b,fD (jA l)))
  (k:∀ es clock w',MapKept.Stamped es clock→es.toList.map (·.key)=(l.filter fun q=>decide (q≠ky)).map (Value.int .i64)→St N D w0 F G0 G (L.set i (b,.map es clock)) T a w'→WL r P ops Q rest a w'):WL r P ops Q (⟨none,.call { callee:=.builtin .delete,args:=#[x,y],argTypes:=#[t,kt] },ty,pos,aL,g⟩ :: rest) a w:=by
 obtain ⟨an,hf,han⟩:=Rt ky 0 0 l
 have hkey:MapKept.IsKey (.int .i64) (.int .i64 ky):=by trivial
 have hb:w.heap[b]?=some (.map (iV 0 (jA l)).toArray (jA l).length):=H.hp.own _ (kQ hi)
 have hst:=anq (l:=jA l) (by rw [abX];exact hnd)
 have hks:(iV 0 (jA l)).toArray.toList.map (·.key)=l.map (Value.int .i64):=by
  show (iV 0 (jA l)).map (·.key)=_
  rw [Un,List.map_map];rfl
 have h2:=fun es':Array MapEntry=>Vu (o:=.map es' (jA l).length) hb
 have h3:=MapKept.run_findKey (P:=P) (w:=w) (l:=(iV 0 (jA l)).toArray.toList) hk (by simpa using hf)
 rcases han with ⟨hm2,n,rfl,hn⟩|⟨hm2,rfl⟩
 ·have hnl:n < l.length:=(jB.1 hn).1
  have hln:l[n]=ky:=(jB.1 hn).2
  have hsz:n < (iV 0 (jA l)).toArray.size:=by
   have:=aB List.length hks
   simp at this
   simp;omega
  have alc:((iV 0 (jA l)).toArray.eraseIdxIfInBounds n).toList=(iV 0 (jA l)).toArray.toList.eraseIdx n:=by
   unfold Array.eraseIdxIfInBounds
   rw [dif_pos hsz]
   simp
  refine fO (v:=.tuple #[]) (w':={ w with heap:=w.heap.setIfInBounds b (.map ((iV 0 (jA l)).toArray.eraseIdxIfInBounds n) (jA l).length) }) hw rfl ?_
   (k _ _ _ (MapKept.stamped_erase hst n) ?_ (H.move (H.hp.upd hi (h2 _))))
  ·generalize (iV 0 (jA l)).toArray=es at hb h3 ⊢
   have h1:=MapKept.run_checkKey (P:=P) (w:=w) hk hkey es.isEmpty 9999
   simp [execOp,resolve,invoke,builtin,Builtin.delete_,H.ev hx,H.ev hy,dO,mW hm,MapKept.run_getObj_map hb,h1,h3,MapKept.run_setObj_map _ hb,Result.andThen]
  ·rw [alc,Uo,hks,← Uo]
   congr 1
   have he:l.erase ky=l.eraseIdx n:=by
    have:=hnd.idxOf_getElem n hnl
    rw [hln] at this
    rw [← this];exact List.erase_eq_eraseIdx_of_idxOf rfl
   rw [← he,hnd.erase_eq_filter]
   exact List.filter_congr fun x _=>by by_cases h:x=ky <;> simp [h]
 ·refine fO (v:=.tuple #[]) (w':={ w with heap:=w.heap.setIfInBounds b (.map (iV 0 (jA l)).toArray (jA l).length) }) hw rfl ?_ (k _ _ _ hst ?_ (H.move (H.hp.upd hi (h2 _))))
  ·generalize (iV 0 (jA l)).toArray=es at hb h3 ⊢
   have h1:=MapKept.run_checkKey (P:=P) (w:=w) hk hkey es.isEmpty 9999
   simp [execOp,resolve,invoke,builtin,Builtin.delete_,H.ev hx,H.ev hy,dO,mW hm,MapKept.run_getObj_map hb,h1,h3,MapKept.run_setObj_map _ hb,Result.andThen]
  ·rw [hks,List.filter_eq_self.2 fun x hx=>jM (show ¬ x=ky from fun e=>hm2 (e ▸ hx))]
end
end
theorem aiE:∀ args w,(callFunc 90 args).run prog w=.ok (.enter 90 args) w:=enters func90 rfl (by kernel_rfl)
theorem aiD:∀ args w,(callFunc 89 args).run prog w=.ok (.enter 89 args) w:=enters func89 rfl (by kernel_rfl)
theorem Yq:∀ args w,(callFunc 87 args).run prog w=.ok (.enter 87 args) w:=enters func87 rfl (by kernel_rfl)
theorem ain:∀ args w,(callFunc 38 args).run prog w=.ok (.enter 38 args) w:=enters func38 rfl (by kernel_rfl)
def refs (h:dM):List Int:=h.marks.ins :: (h.marks.bE.map gq.rev++h.marks.layers.map cK.rev)
def sD (K l:List Int):List Int:=l.foldl xK K
theorem MB (K l r:List Int):sD K (l++r)=sD (sD K l) r:=List.foldl_append
theorem WM {l:List Int}:∀ {K:List Int} {y:Int},y∈sD K l↔y∈K∨y∈l:=by
 induction l with
 | nil=>intro K y;simp [sD]
 | cons x l ih =>
  intro K y
  show y∈sD (xK K x) l↔_
  rw [ih,adR,jS,or_assoc]
theorem WO {l:List Int}:∀ {K:List Int},K.Nodup→(sD K l).Nodup:=by
 induction l with
 | nil=>intro K h;exact h
 | cons x l ih=>intro K h;exact ih (adS h)
theorem adT {K:List Int} {x:Int} {α:Type} {f:α→Int} {A:List α} {k:Nat} (hk:k < A.length):xK (sD K (x :: (A.take k).map f)) (f A[k])=sD K (x :: (A.take (k+1)).map f):=by
 rw [iU hk,lY,← nJ,MB];rfl
theorem adU {K B:List Int} {x:Int} {α:Type} {f:α→Int} {A:List α} {k:Nat} (hk:k < A.length):xK (sD K (x :: (B++(A.take k).map f))) (f A[k])=sD K (x :: (B++(A.take (k+1)).map f)):=by
 rw [iU hk,lY,show x :: (B++((A.take k).map f++[A[k]].map f))=(x :: (B++(A.take k).map f))++[f A[k]] from by simp,MB];rfl
abbrev BO (b3 bm:Nat) (K:List Int):OL:=[(b3,.cells #[.map (some bm)] 131 (0,0)),(bm,fD (jA K))]
set_option maxHeartbeats 2000000 in
theorem abd (G:GH) (w0:World) (b3 bm:Nat) (K:List Int) (h:dM) (p d y:Option Addr × Nat × Nat) (hR:jd G h (cB p) (cB d) (cB y)) (hO:gD G (BO b3 bm K) w0) :
  Calls prog 87 #[.agg #[cB p,vi h.marks.ins,vi h.marks.move,cB d,cB y],(aK b3 0)] w0 (fV w0 G (BO b3 bm K) fun _ G' L'=>L'=BO b3 bm (sD K (refs h))):=by
 obtain ⟨dA,dn,dc⟩:=d;obtain ⟨yA,yn,yc⟩:=y;have hml:maxLen=9223372036854775807:=rfl;have hd:=hR.bE;have hy:=hR.layers;dsimp only [cB] at hd hy;have e1:=hd.len;have e2:=hy.len;rw [bG] at e1 e2;subst e1 e2;obtain ⟨_,_,hu1,hd1,hd2,-⟩:=hd.slice;obtain ⟨_,_,hu2,hy1,hy2,-⟩:=hy.slice
 injection hu1 with q1 q2 q3
 subst q1 q3
 injection hu2 with q1 q2 q3
 subst q1 q3;rw [bG] at hd1 hy1;refine iX (N:=35) (T:=[(0,_),(1,_)]) func87 rfl ntmps87 rfl rfl hO ?_;intro a H;refine cu (fun _ K1=>?_);refine dQ (cs:=[_,_,_,_,_]) H wn rfl rfl rfl ?_;clear H;intro b2 a w hb2 H;refine K1 _ _ ?_;clear K1;refine kP H (SR fun _ K2=>Ro uj 1 rfl (Rf lZ rfl (aY rR aH 0 rfl rfl ?_)));clear H;intro a H;refine U2 (i:=2) xG lu H wn rfl rfl rfl rfl ?_;clear H;intro w H;dsimp only [List.set] at H;refine K2 _ _ ?_;clear K2;refine kP H (SQ fun _ K3=>SR fun _ K4=>Rf lZ rfl (aY pU qj 0 rfl rfl (Rl lJ rfl (Rm rfl (Kz K4 (SB ?_))))));clear H K4;intro a H;skip;refine eU (ι:=Nat) (Tc:=[(1,_),(2,_),(13,_),(14,_)]) (Lc:=[(_,_),(_,_)]) (fun gh=>[(15,vi gh)]) (fun gh=>[(bm,fD (jA (sD K (h.marks.ins :: (h.marks.bE.take gh).map gq.rev))))]) (fun gh=>G) (fun gh=>gh≤h.marks.bE.length) (fun gh=>h.marks.bE.length - gh) (0) (by exact (H).sub ⟨rfl,rfl,rfl,rfl,rfl,aC⟩) ?_ ?_
 ·exact gW _
 clear H;intro i a w hI H;have hi:=hI;dsimp only [lca,bJ] at H;refine kP H (SR fun _ K5=>Rc rfl (Kz K5 (SQ fun _ K6=>Cd rfl ?_ ?_))) <;> clear H K5
 ·intro h16 a H
  try have p16:=dT h16
  have hi2:i < h.marks.bE.length:=by omega
  obtain ⟨b,o,rfl,hrow⟩:=MW hd hi2;refine kP H (Kc K6 (SQ fun _ K7=>SB (SR fun _ K8=>Ri lJ nG rfl rfl ?_)));clear H K6;intro a H;refine bL nG (cs:=[_,_]) H wn rfl rfl (fun j v hj=>H.hp.aI (hrow j v hj)) rfl ?_;clear H;intro a H;refine dS nG H wn rfl ?_;clear H;intro b4 a w hb4 H;refine bD nG 0 (vs:=[_,_]) _ H wn rfl rfl rfl rfl rfl rfl rfl rfl ?_;clear H;intro w H;dsimp only [List.set,setRow] at H;refine K8 _ _ ?_;clear K8;refine kP H (SC (Ro uj 2 rfl (aY Eb aH 0 rfl rfl ?_)));clear H;intro a H;refine U2 (i:=3) xG lu H wn rfl rfl rfl rfl ?_;clear H;intro w H;dsimp only [List.set] at H;rw [adT hi2] at H;refine kH H (Kn K7 (SC (Rd rfl (Rm rfl ?_))));clear H K7;intro a H;refine aD ?_;refine dD (i+1) (by exact (H.dY (Pl:=[_,_,_,_]) (dK:=[_,_,_]) [1,2,3] (by decide) rfl).sub ⟨rfl,rfl,rfl,rfl,rfl,aC⟩) ?_
  omega
 intro h16 a H
 try have p16:=dF h16
 obtain rfl:i=h.marks.bE.length:=by omega
 rw [xL] at H;refine dV ?_;refine K3 _ _ ?_;clear K3;refine kP H (SR fun _ K9=>Rf lZ rfl (aY zJ Ap 0 rfl rfl (Rl ku rfl (Rm rfl (Kz K9 (SB ?_))))));clear H K9;intro a H;skip;refine eU (ι:=Nat) (Tc:=[(1,_),(25,_),(26,_)]) (Lc:=[(_,_),(_,_)]) (fun gh=>[(27,vi gh)]) (fun gh=>[(bm,fD (jA (sD K (h.marks.ins :: (h.marks.bE.map gq.rev++(h.marks.layers.take gh).map cK.rev)))))]) (fun gh=>G) (fun gh=>gh≤h.marks.layers.length) (fun gh=>h.marks.layers.length - gh) (0) (by exact (by rw [List.take_zero,qL,jf];exact (H.sub ⟨rfl,rfl,rfl,rfl,aC⟩))) ?_ ?_
 ·exact gW _
 clear H;intro k a w hI H;have hk:=hI;dsimp only [lca,bJ] at H;refine kP H (SR fun _ aR=>Rc rfl (Kz aR (SQ fun _ bQ=>Cd rfl ?_ ?_))) <;> clear H aR
 ·intro fQ a H
  try have p28:=dT fQ
  have hk2:k < h.marks.layers.length:=by omega
  obtain ⟨b,o,rfl,hrow⟩:=EA hy hk2;refine kP H (Kc bQ (SQ fun _ bY=>SB (SR fun _ cZ=>Ri ku jk rfl rfl ?_)));clear H bQ;intro a H;refine bL jk (cs:=[_,_,_,_]) H wn rfl rfl (fun j v hj=>H.hp.aI (hrow j v hj)) rfl ?_;clear H;intro a H;refine dS jk H wn rfl ?_;clear H;intro b6 a w hb6 H;refine bD jk 0 (vs:=[_,_,_,_]) _ H wn rfl rfl rfl rfl rfl rfl rfl rfl ?_;clear H;intro w H;dsimp only [List.set,setRow] at H;refine cZ _ _ ?_;clear cZ;refine kP H (SC (Ro uj 2 rfl (aY M6 aH 0 rfl rfl ?_)));clear H;intro a H;refine U2 (i:=3) xG lu H wn rfl rfl rfl rfl ?_;clear H;intro w H;dsimp only [List.set] at H;rw [adU hk2] at H;refine kH H (Kn bY (SC (Rd rfl (Rm rfl ?_))));clear H bY;intro a H;refine aD ?_;refine dD (k+1) (by exact (H.dY (Pl:=[_,_,_,_]) (dK:=[_,_,_]) [1,2,3] (by decide) rfl).sub ⟨rfl,rfl,rfl,rfl,aC⟩) ?_
  omega
 intro fQ a H
 try have p28:=dF fQ
 obtain rfl:k=h.marks.layers.length:=by omega
 rw [xL] at H;refine dV ?_;refine (leave0 H results87 ?_).2;exact H.hp.iq (L':=BO b3 bm _) (by repeat (first|exact gT _|apply List.Sublist.cons)) rfl
def UK (d:jG):List Int:=(oU d.flow).flatMap refs++refs d.fin
def uY (d:jG):List Int:=(sD [] (UK d)).filter fun q=>decide (q≠0)
theorem anR {G:GH} {b3 bm:Nat} {hs:List dM}:VI prog (.func (.func 87) #[] #[(aK b3 0)]) G (hs.map FY) fun k _ L=>L=BO b3 bm (sD [] ((hs.take k).flatMap refs)):=by
 rintro k args G1 L w ⟨p,hp,h⟩ hG rfl hO;rw [pQ] at hp;obtain ⟨x,hx,rfl⟩:=ou.1 hp;obtain ⟨q1,q2,q3,rfl,hR⟩:=h;obtain ⟨hk,rfl⟩:=jB.1 hx;refine jI (caps:=[(aK b3 0)]) Yq ((abd G1 w b3 bm _ hs[k] q1 q2 q3 hR hO).mono ?_);rintro e w' ⟨v,G',L',rfl,hc,rfl⟩;exact ⟨v,G',_,rfl,hc,by show BO b3 bm _=BO b3 bm (sD [] ((hs.take (k+1)).flatMap refs));rw [iU hk,List.flatMap_append,MB];simp⟩
theorem afS (G:GH) (w0:World) (hG:Hold G w0) (D:jV) (d:jG) (hR:oK G D d) (hz:bK d.flow≤4294967296) (hw:∀ k∈uY d,-9223372036854775808≤k∧k < 9223372036854775808) (hl:(uY d).length≤4294967296) :
  Calls prog 38 #[D.val] w0 (aZ w0 G fun u G'=>av G' (.sl 1 ((Dr (uY d)).map fun k=>[li k])) u):=by
 refine eN [(0,_)] func38 rfl ntmps38 rfl rfl hG ?_;intro a H;refine cu (fun _ K1=>?_);refine dQ (cs:=[_,_,_,_,_,_,_,_,_,_,_]) H wn rfl rfl rfl ?_;clear H;intro b1 a w hb1 H;refine kH H (ak K1 rfl (SQ fun _ K2=>?_));clear H K1;intro a H;obtain ⟨Ga,hma,hb1',HQ⟩:=H.eH;clear H;have H:=HQ;clear HQ;have hga:=fun j v hj=>vO hb1' 0 D.cells rfl j v hj
 have hgd:∀ j v,[cB D.p,vi d.fin.marks.ins,vi d.fin.marks.move,cB D.d,cB D.y][j]?=some v→aI Ga b1 (1+j)=some v:=fun j v hj=>by rw [← hR.ins,← hR.mv] at hj;exact vO hb1' 1 [cB D.p,vi D.ins,vi D.move,cB D.d,cB D.y] rfl j v hj
 replace hR:=hR.mono hma;refine pR ?_;refine GQ H wn rfl ?_;clear H;intro b5 a w hb5 H;refine dS uj H wn rfl ?_;clear H;intro b3 a w hb3 H;refine bD uj 0 (vs:=[_]) _ H wn rfl rfl rfl rfl rfl rfl rfl rfl ?_;clear H;intro w H;dsimp only [List.set,setRow] at H;refine aD ?_;refine K2 _ _ ?_;clear K2;refine cu (fun _ K3=>?_);refine oZ H wn rfl rfl ?_;clear H;intro a H;refine kH H (ak K3 rfl (SR fun _ K4=>Rf vG rfl (Rg jc rfl (hga 0 _ rfl) (Rm rfl ?_))));clear H K3;intro a H;refine gH QZ (Li:=[]) (L:=BO b3 b5 []) H wn rfl (Zq 4294967297 (by omega) _ Ga ((oU d.flow).map FY) (fun k _ L=>L=BO b3 b5 (sD [] (((oU d.flow).take k).flatMap refs))) Ga _ _ 0 d.flow _ (fun _ _ h=>h) anR (fun _ _ _ _ _ h=>h) rfl (Hp.owns (Li:=[]) H.hp) hR.fl (by omega) (fun i a h=>by rw [gI,pQ,h];rfl)) rfl ?_;clear H;rintro v10 Ce L10 a w rfl En H;rw [gI,xL] at H;dsimp only [List.nil_append] at H;refine K4 _ _ ?_;clear K4;refine kP H (SR fun _ K5=>Rm rfl (Rf Ed rfl ?_));clear H;intro a H;refine bL eu (cs:=[cB D.p,vi d.fin.marks.ins,vi d.fin.marks.move,cB D.d,cB D.y]) H wn rfl rfl (fun j v hj=>H.hp.aI (aJ En (hgd j v hj))) rfl ?_;clear H;intro a H;refine Aj (Li:=[]) (L:=BO b3 b5 _) H wn rfl rfl (jI (caps:=[(aK b3 0)]) Yq (abd _ _ b3 b5 _ d.fin D.p D.d D.y (hR.hd.mono En) (Hp.owns (Li:=[]) H.hp))) rfl ?_;clear H;rintro v14 Aw L14 a w rfl yY H;rw [← MB] at H;dsimp only [List.nil_append] at H;refine K5 _ _ ?_;clear K5;refine kP H (SR fun _ K6=>Ro uj 0 rfl ?_);clear H;intro a H;refine apG (i:=1) xG lu (WO List.nodup_nil) H wn rfl rfl rfl ?_;clear H;intro es clock w hst hks H;dsimp only [List.set] at H;refine K6 _ _ ?_;clear K6;refine kP H (SR fun _ K7=>Ro uj 0 rfl ?_);clear H;intro a H;refine s_call aiE H wn rfl (anr _ _ H.ro _) rfl ?_;clear H;rintro v17 vg a w ⟨bx,rfl,hbx⟩ nN H;refine s_call aiD H wn rfl (aqO _ _ H.ro b5 bx clock es (uY d) hbx (H.hp.own (b5,.map es clock) (by simp)) hst hks hw hl) rfl ?_;clear H;rintro v18 PE a w NV hm18 H;exact kH H (ak K7 rfl (LR results38 rfl fun H=>H.rt NV))
end Go.Proofs.YtdiflmikikiedaaGreat
