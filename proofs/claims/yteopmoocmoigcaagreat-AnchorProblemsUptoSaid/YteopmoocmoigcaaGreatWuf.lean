/-
  What the claim stands on, part 6: Pl16 Mb16 Mp16 Pr16 Brd Brs.
-/
import Derived.Test.YteopmoocmoigcaaGreatWue
import Derived.ProofKit
import Derived.Deep.Slices
import Derived.Laws.StructEq
namespace Go.Proofs.YteopmoocmoigcaaGreat
open Go.Proofs.Tryz
section
open Go.RowKit
theorem ade:∀ args w,(callFunc 52 args).run prog w=.ok (.enter 52 args) w:=enters func52 rfl (by kernel_rfl)
theorem vI:prog.underlying 84=some (.slice 87):=by kernel_rfl
theorem wH:Ty prog 87 4 32 [.int .i64 0,.int .i64 0,.int .i64 0,.int .i64 0] true:=⟨by kernel_rfl,by kernel_rfl⟩
theorem Lg:pq prog 87 [(0,1),(1,1),(2,2)] [.int .i64 0,.int .i64 0,.int .i64 0,.int .i64 0]:=⟨by kernel_rfl,by kernel_rfl⟩
set_option maxHeartbeats 4000000 in
theorem aiq (G:GH) (w0:World) (hG:Hold G w0) (D:mI) (l:List aA) (cm:List eO) (hv:av G (.sl 11 (l.map aA.dat)) (eD D.f)) (hcm:av G (.sl 6 (cm.map eO.dat)) (eD D.s3)) (hok:eY l) (hz:bC l≤1073741824) (hcl:cm.length≤1073741824) (hcd:∀ a∈dL 0 0 l,1≤a.code∧a.code≤4) :
  Calls prog 29 #[D.val] w0 (bE w0 G fun u G'=>av G' (.sl 4 ((lS (dL 0 0 l) cm (dL 0 0 l).length++pW (dL 0 0 l) cm).map jZ.dat)) u):=by
 have hn:=wP 0 0 l;have hml:maxLen=9223372036854775807:=rfl;obtain ⟨A,hA⟩:∃ A,A=dL 0 0 l:=⟨_,rfl⟩;rw [← hA] at hn hcd ⊢;obtain ⟨⟨sA,sn,sc⟩,hs3⟩:∃ s,s=D.s3:=⟨_,rfl⟩;have hcm0:=hcm;rw [← hs3] at hcm0
 have hsn:sn=cm.length:=by have:=hcm0.len;rwa [bQ] at this
 subst hsn;refine eN [(0,_)] func29 rfl ntmps29 rfl rfl hG ?_;intro a H;refine dB (fun _ K1=>?_);refine eU (cs:=[_,_,_,_,_,_,_,_,_,_,_]) H wn rfl rfl rfl ?_;clear H;intro b1 a w hb1 H;refine kH H (ak K1 rfl (SQ fun _ K2=>?_));clear H K1;intro a H;obtain ⟨Ga,hma,hb',H⟩:=H.dP;have hga:=fun j v hj=>xq hb' 0 D.cells rfl j v hj;replace hv:=hv.mono hma;replace hcm:=hcm.mono hma;replace hcm0:=hcm0.mono hma;refine pE ?_;refine bD ru (cs:=D.cells) H wn rfl rfl (fun j v hj=>H.hp.aI (hga j v hj)) rfl ?_;clear H;intro a H;refine s_call TD H wn rfl (Wh _ _ H.ro D l hv hok (by omega)) rfl ?_;clear H;rintro v15 BD a w hr oM H;rw [← hA] at hr;obtain ⟨vA,n15,c15,rfl⟩:=hr.form;have Vm:=hr.len;rw [bQ] at Vm;subst Vm;refine kH H (aU K2 rfl (SR fun _ K3=>Rm rfl ?_));clear H K2;intro a H;refine s_call TU H wn rfl (Uz _ _ H.ro A _ hr (by omega)) rfl ?_;clear H;rintro v17 uL a w ⟨bm,acc,rfl,sQ,hfm⟩ nO H;replace hr:=hr.mono nO;replace hcm:=(hcm.mono oM).mono nO;replace hcm0:=(hcm0.mono oM).mono nO;replace hga:=fun j v hj=>aK nO (aK oM (hga j v hj));refine Cx H wn rfl ?_;clear H;intro b18 a w Ho H;refine kH H (Ra rfl (ak K3 rfl (SR fun _ K4=>ak K4 rfl (SQ fun _ K5=>SR fun _ K6=>Rm rfl (Rl kF rfl (Rm rfl (Kz K6 (SB ?_))))))));clear H K3 K4 K6;intro a H;skip;refine eT (ι:=Nat × aj × List ByteArray × OL × GH) (Tc:=[(1,_),(4,_),(5,_),(19,_),(20,_)]) (Lc:=[]) (fun gh=>[(6,gh.2.1),(21,vi gh.1)]) (fun gh=>[(b18,lH gh.2.2.1)]++gh.2.2.2.1) (fun gh=>gh.2.2.2.2) (fun gh=>gh.1≤A.length∧dx 87 4 gh.2.1 (lS A cm gh.1).length (Bd (lS A cm gh.1)) gh.2.2.2.1∧(∀ s,hasB gh.2.2.1 s=qz A gh.1 s)∧(∀ b o,uL b=some o→gh.2.2.2.2 b=some o)) (fun gh=>A.length - gh.1) ((0,.slice none 0 0,[],[],uL)) (by exact (H).sub ⟨rfl,rfl,rfl,rfl,rfl,rfl,rfl,aD⟩) ?_ ?_
 ·exact ⟨iy _,dx.nil,fun _=>rfl,fun _ _ h=>h⟩
 clear H;intro gh a w hI H;obtain ⟨k,v6,nm,Lo,g⟩:=gh;dsimp only at hI H;obtain ⟨hk,hrw,hnm,hgm⟩:=hI;have hpl:=Il A cm k;obtain ⟨FR,FT,rfl,-,-⟩:=hrw.shape;dsimp only [lca,bg] at H;refine kP H (SR fun _ K7=>Rc rfl (Kz K7 (SQ fun _ K8=>Cd rfl ?_ ?_))) <;> clear H K7
 ·intro h22 a H
  try have iw:=dT h22
  have hk2:k < A.length:=by omega
  obtain ⟨b,o,rfl,hrow⟩:=BJ (hr.mono hgm) hk2;have hcx:=hcd _ (iL hk2);have DL:=Xb (cm:=cm) hk2;have hcn:=Xa A cm (qz A k A[k].name) A[k];refine kP H (Kc K8 (SQ fun _ K9=>SB (SR fun _ aT=>Ri kF gq rfl rfl ?_)));clear H K8;intro a H;refine bD gq (cs:=A[k].cells) H wn rfl rfl (fun j v hj=>H.hp.aI (hrow j v hj)) rfl ?_;clear H;intro a H;refine eB gq H wn rfl ?_;clear H;intro b8 a w Dz H;refine bH gq 0 (vs:=[_,_,_,_,_]) _ H wn rfl rfl rfl rfl rfl rfl rfl rfl ?_;clear H;intro w H;dsimp only [List.set,setRow] at H;refine aT _ _ ?_;clear aT;refine pF (ι:=aj × OL × GH) (Tc:=[(1,_),(4,_),(5,_),(8,_),(19,_),(20,_),(21,_)]) (Lc:=[]) (fun gh=>[(6,gh.1)]) (fun gh=>[(b8,.cells #[vi A[k].code,vi A[k].id,.string A[k].name,vi A[k].flow,vi A[k].at_] 47 (0,0)),(b18,lH nm)]++gh.2.1) (fun gh=>gh.2.2) (fun gh=>dx 87 4 gh.1 (lS A cm (k+1)).length (Bd (lS A cm (k+1))) gh.2.1∧(∀ b o,g b=some o→gh.2.2 b=some o)) (by exact (H).sub ⟨rfl,rfl,rfl,rfl,rfl,rfl,rfl,aD⟩) ?_ ?_
  ·skip;refine dB (fun _ bq=>?_);refine bD ru (cs:=D.cells) H wn rfl rfl (fun j v hj=>H.hp.aI (aK hgm (hga j v hj))) rfl ?_;clear H;intro a H;refine kH H (Rm rfl (Rm rfl ?_));clear H;intro a H;refine bD gq (cs:=[_,_,_,_,_]) H wn rfl rfl (H.hp.dS 0 rfl rfl) rfl ?_;clear H;intro a H;refine gU ade (Li:=[_]) (L:=(b18,lH nm) :: Lo) H wn rfl (aip _ _ D A cm A[k] bm b18 acc nm Lo (Hp.owns (Li:=[_]) H.hp) (hcm.mono hgm) (hgm _ _ sQ) hfm (iL hk2) hcx) rfl ?_;clear H;rintro v29 Md L29 a w ⟨rfl,rfl⟩ OI H;dsimp only [lca,bg] at H;rw [hnm] at H;refine kH H (ak bq rfl (SR fun _ bF=>Rm rfl (Rc rfl (Kz bF (Cd rfl ?_ ?_))))) <;> clear H bq bF
   ·intro h31 a H
    try have p31:=dT h31
    refine kP H (SC (Rm rfl (Rm rfl (aP nM aC 0 rfl rfl (Rf ou rfl ?_)))));clear H;intro a H;refine bD FM (cs:=[_,_]) H wn rfl rfl (H.hp.dS 0 rfl rfl) rfl ?_;clear H;intro a H;refine iT Lg [_,_,_,_] H wn rfl rfl rfl rfl ?_;clear H;intro a H;refine gQ vI wH [_,_,_,_] [_,_,_,_] H wn rfl rfl rfl rfl rfl (by intro i q h;match i,h with|0,h=>exact h|n+1,h=>simp at h) rfl rfl ?_;clear H;intro b39 a w afp H;refine nU (Li:=[_,_,_]) (Lo:=Lo) (news:=[vi (kC A cm (qz A k A[k].name) A[k]),vi A[k].id,vi A[k].flow,vi A[k].at_]) vI wH rfl rfl H wn rfl rfl hrw rfl (H.hp.dS 0 rfl rfl) rfl (by omega) (by omega) rfl ?_;clear H;intro v40 Zx a w agq H;refine kH H (Ra rfl ?_);clear H;intro a H;refine aH ?_;refine ⟨(v40,Zx,_),by exact (H.dK (Pl:=[_,_,_]) (cB:=[_,_]) [1,2] (by decide) rfl).sub ⟨rfl,rfl,rfl,rfl,rfl,rfl,rfl,rfl,aD⟩,?_⟩;(try dsimp only);exact ⟨by rw [DL,Cq,ah p31,KH,iA];exact agq,OI⟩
   intro h31 a H
   try have p31:=dF h31
   refine gI ?_;refine ⟨(_,Lo,_),by exact (H).sub ⟨rfl,rfl,rfl,rfl,rfl,rfl,rfl,rfl,aD⟩,?_⟩;(try dsimp only);exact ⟨by rw [DL,Cq,au (mY.1 p31),mX];exact hrw,OI⟩
  clear H;intro gh a w hI H;obtain ⟨v7,Mk,g7⟩:=gh;dsimp only at hI H;obtain ⟨Kj,JZ⟩:=hI;have alA:=Il A cm (k+1);obtain ⟨v7A,v7c,rfl,-,-⟩:=Kj.shape;dsimp only [lca,bg] at H;refine bA (fun _ bJ=>?_)
  by_cases c0:A[k].code=1
  ·skip;refine dI hmx [[],[0],[0,1],[0,1,2],(ra 0 4),(ra 0 4),[0,1,2,3,5],(ra 0 4),[0,1,2,3,7],(ra 0 4++ra 5 4),(ra 0 10),(ra 0 4),(ra 0 12),(ra 0 13)] [] (by kernel_rfl) [_,vi A[k].code,_,_,_,_,vi A[k].code,_,vi A[k].id,.agg #[vi A[k].code,vi A[k].id],((iU A A[k].code A[k].id).getD mH).val,A[k].val,.bool (jE A A[k].code A[k]),_] H (aF (Z0 rfl (Rf jr rfl)) (Z1 0 41 rfl (Ro aC 0 rfl)) (Z1 1 42 rfl (Rc rfl)) (Z1 2 43 rfl (Rm rfl)) (aF (Z1 3 44 rfl (YM (aB c0) rfl)) (Z1 3 44 rfl (YF jr (aB c0) rfl)) (Z2 5 46 3 44 rfl (YO aC 0 (aB c0) rfl)) (Z1 3 44 rfl (YF nM (aB c0) rfl)) (aF (Z2 7 48 3 44 rfl (YO aC 0 (aB c0) rfl)) ?_ ?_ ?_ (aS ?_ (aS (Z2 3 44 12 53 rfl (Pt (aB c0) rfl)) bX))))) ?_
   ·refine qg 6 47 8 49 3 44 rfl rfl fun _ a w G1 hG HT H fin=>?_;refine iT Bo [_,_] H (wg H rfl rfl (aB c0)) rfl rfl rfl rfl ?_;clear H;intro a H;exact fin H iJ rfl
   ·refine qg 4 45 9 50 3 44 rfl rfl fun _ a w G1 hG HT H fin=>?_;refine KY (ky:=(A[k].code,A[k].id)) (zv:=mH.val) (l:=acc) zL yS (by kernel_rfl) H (wg H rfl rfl (aB c0)) rfl rfl (H.ro _ _ (hG _ _ (JZ _ _ (hgm _ _ sQ)))) rfl ?_;clear H;intro a H;rw [AZ hfm] at H;exact fin H iJ rfl
   ·refine dR 3 44 rfl rfl fun _ a w G1 hG HT H fin=>?_;refine bD gq (cs:=[_,_,_,_,_]) H (wg H rfl rfl (aB c0)) rfl rfl (H.hp.dS 0 rfl rfl) rfl ?_;clear H;intro a H;exact fin H iJ rfl
   ·refine qg 10 51 11 52 3 44 rfl rfl fun _ a w G1 hG HT H fin=>?_;refine XA JE H (wg H rfl rfl (aB c0)) rfl rfl rfl rfl ?_;clear H;intro a H;rw [Jk] at H;exact fin H iJ (by show _=_;first|rfl|exact aG (Bool.not_inj (Jl hfm (fun h=>h rfl) (iL hk2))))
   clear H;intro a w G oJ H hv;have H:=H.aR (hv 13 54 rfl rfl) rfl;clear hv;refine aH ⟨rfl,?_⟩;refine bJ _ _ ?_;clear bJ;refine kr H rfl ?_ ?_
   ·intro fJ
    try have p54:=dT fJ
    refine kP H (SC (Rm rfl (aP Dq fZ 0 rfl rfl ?_)));clear H;intro a H;refine aiY (i:=1) (l:=nm) (ky:=A[k].name) Yg gu H wn rfl rfl rfl rfl ?_;clear H;intro w H;dsimp only [List.set] at H;refine kH H (Kn K9 (SC (Rd rfl (Rm rfl ?_))));clear H K9;intro a H;refine aH ?_;refine cu ((k+1,_,Dc nm A[k].name,Mk,_)) (by exact (H.dK (Pl:=[_,_]) (cB:=[_]) [1] (by decide) rfl).sub ⟨rfl,rfl,rfl,rfl,rfl,rfl,rfl,aD⟩) ?_ ?_
    ·(try dsimp only);exact ⟨by omega,Kj,fun s=>by rw [Ed hk2,← hnm,ZR];rw [iQ c0,show jE A 1 A[k]=true by first|(rw [← c0];exact fJ)|simp_all];simp,fun b o h=>oJ b o (JZ b o (hgm b o h))⟩
    first|omega|(dsimp only;omega)
   intro fJ
   try have p54:=dF fJ
   refine kP H (Kc K9 (SC (Rd rfl (Rm rfl ?_))));clear H K9;intro a H;refine aH ?_;refine cu ((k+1,_,nm,Mk,_)) (by exact (H.dK (Pl:=[_,_]) (cB:=[_]) [1] (by decide) rfl).sub ⟨rfl,rfl,rfl,rfl,rfl,rfl,rfl,aD⟩) ?_ ?_
   ·(try dsimp only);exact ⟨by omega,Kj,fun s=>by rw [Ed hk2,hnm];first|(rw [gL c0];simp)|(rw [show jE A 1 A[k]=false by first|(rw [← c0];exact fJ)|simp_all];simp),fun b o h=>oJ b o (JZ b o (hgm b o h))⟩
   first|omega|(dsimp only;omega)
  skip;refine dI hmx [[],[0],[0,1],[0,1,2],(ra 0 4),(ra 0 4),[0,1,2,3,5],(ra 0 4),[0,1,2,3,7],(ra 0 4++ra 5 4),(ra 0 10),(ra 0 4),(ra 0 12),(ra 0 13)] [] (by kernel_rfl) [_,vi A[k].code,_,_,undef,undef,undef,undef,undef,undef,undef,undef,undef,_] H (aF (Z0 rfl (Rf jr rfl)) (Z1 0 41 rfl (Ro aC 0 rfl)) (Z1 1 42 rfl (Rc rfl)) (Z1 2 43 rfl (Rm rfl)) (aF (aL (j:=3) (by kernel_rfl) (fun _ _ _ _ _ h=>h) rfl rfl rfl rfl rfl (fun _ _ h=>aM h (aG (aO c0))) rfl (fun _=>rfl)) (aL (j:=3) (by kernel_rfl) (fun _ _ _ _ _ h=>h) rfl rfl rfl rfl rfl (fun _ _ h=>aM h (aG (aO c0))) rfl (fun _=>rfl)) (aL (j:=3) (by kernel_rfl) (fun _ _ _ _ _ h=>h) rfl rfl rfl rfl rfl (fun _ _ h=>aM h (aG (aO c0))) rfl (fun _=>rfl)) (aL (j:=3) (by kernel_rfl) (fun _ _ _ _ _ h=>h) rfl rfl rfl rfl rfl (fun _ _ h=>aM h (aG (aO c0))) rfl (fun _=>rfl)) (aF (aL (j:=3) (by kernel_rfl) (fun _ _ _ _ _ h=>h) rfl rfl rfl rfl rfl (fun _ _ h=>aM h (aG (aO c0))) rfl (fun _=>rfl)) (aL (j:=3) (by kernel_rfl) (fun _ _ _ _ _ h=>h) rfl rfl rfl rfl rfl (fun _ _ h=>aM h (aG (aO c0))) rfl (fun _=>rfl)) (aL (j:=3) (by kernel_rfl) (fun _ _ _ _ _ h=>h) rfl rfl rfl rfl rfl (fun _ _ h=>aM h (aG (aO c0))) rfl (fun _=>rfl)) (aL (j:=3) (by kernel_rfl) (fun _ _ _ _ _ h=>h) rfl rfl rfl rfl rfl (fun _ _ h=>aM h (aG (aO c0))) rfl (fun _=>rfl)) (aS (aL (j:=3) (by kernel_rfl) (fun _ _ _ _ _ h=>h) rfl rfl rfl rfl rfl (fun _ _ h=>aM h (aG (aO c0))) rfl (fun _=>rfl)) (aS (Z2 3 44 12 53 rfl (Pf (aO c0) rfl)) bX))))) ?_
  clear H;intro a w G oJ H hv;have H:=H.aR (hv 13 54 rfl rfl) rfl;clear hv;refine aH ⟨rfl,?_⟩;refine bJ _ _ ?_;clear bJ;refine kS H rfl rfl ?_;refine kP H (Kc K9 (SC (Rd rfl (Rm rfl ?_))));clear H K9;intro a H;refine aH ?_;refine cu ((k+1,_,nm,Mk,_)) (by exact (H.dK (Pl:=[_,_]) (cB:=[_]) [1] (by decide) rfl).sub ⟨rfl,rfl,rfl,rfl,rfl,rfl,rfl,aD⟩) ?_ ?_
  ·(try dsimp only);exact ⟨by omega,Kj,fun s=>by rw [Ed hk2,hnm];first|(rw [gL c0];simp)|(rw [show jE A 1 A[k]=false by first|(rw [← c0];exact fJ)|simp_all];simp),fun b o h=>oJ b o (JZ b o (hgm b o h))⟩
  first|omega|(dsimp only;omega)
 intro h22 a H
 try have iw:=dF h22
 obtain rfl:k=A.length:=by omega
 refine dU ?_;refine K5 _ _ ?_;clear K5;refine kP H (SQ fun _ bN=>SR fun _ cK=>Rf xk rfl (Rf Ad rfl (Rg uI rfl (aK hgm (hga 9 (.slice sA cm.length sc) (by show some (eD D.s3)=_;rw [← hs3]))) (Rl tF rfl (Rm rfl (Kz cK (SB ?_)))))));clear H cK;intro a H;skip;refine eT (ι:=Nat × aj × OL) (Tc:=[(4,_),(61,_),(62,_)]) (Lc:=[]) (fun gh=>[(6,gh.2.1),(63,vi gh.1)]) (fun gh=>[(b18,lH nm)]++gh.2.2) (fun gh=>g) (fun gh=>gh.1≤cm.length∧dx 87 4 gh.2.1 (lS A cm A.length++pW A (cm.take gh.1)).length (Bd (lS A cm A.length++pW A (cm.take gh.1))) gh.2.2) (fun gh=>cm.length - gh.1) ((0,_,Lo)) (by exact (H).sub ⟨rfl,rfl,rfl,rfl,rfl,aD⟩) ?_ ?_
 ·exact ⟨iy _,by rw [List.take_zero,show pW A []=[] from rfl,mX];exact hrw⟩
 clear H;intro gh a w hI H;obtain ⟨j,v8,Da⟩:=gh;dsimp only at hI H;obtain ⟨hj,sZ⟩:=hI;have O1:=P8 A (cm.take j);rw [List.length_take] at O1;obtain ⟨v8A,v8c,rfl,-,-⟩:=sZ.shape;rw [iA] at sZ H;dsimp only [lca,bg] at H;refine kP H (SR fun _ dw=>Rc rfl (Kz dw (SQ fun _ bY=>Cd rfl ?_ ?_))) <;> clear H dw
 ·intro h64 a H
  try have p64:=dT h64
  have hj2:j < cm.length:=by omega
  obtain ⟨b',o',rfl,hrow',-⟩:=EL (hcm0.mono hgm) hj2;refine kP H (Kc bY (SQ fun _ dz=>SB (SR fun _ fC=>Ri tF qF rfl rfl ?_)));clear H bY;intro a H;refine bD qF (cs:=cm[j].cells) H wn rfl rfl (fun i v hi=>H.hp.aI (hrow' i v hi)) rfl ?_;clear H;intro a H;refine eB qF H wn rfl ?_;clear H;intro b11 a w Dx H;refine bH qF 0 (vs:=[_,_,_,_,_,_]) _ H wn rfl rfl rfl rfl rfl rfl rfl rfl ?_;clear H;intro w H;dsimp only [List.set,setRow] at H;refine fC _ _ ?_;clear fC;refine kP H (SR fun _ dN=>Rm rfl (aP Ag aC 0 rfl rfl ?_));clear H;intro a H;refine iT Bo [_,_] H wn rfl rfl rfl rfl ?_;clear H;intro a H;refine Iq (ky:=(3,cm[j].id)) (zv:=mH.val) (l:=acc) zL yS (by kernel_rfl) H wn rfl rfl (H.ro _ _ (hgm _ _ sQ)) rfl ?_;clear H;intro a H;rw [AZ hfm,show (lG (3,cm[j].id) acc).isSome=(iU A 3 cm[j].id).isSome by rw [hfm,Option.isSome_map]] at H;dsimp only at H;refine kH H (Rm rfl ?_);clear H;intro a H;(iterate 2 refine kN H wn rfl rfl rfl ?_;clear H;intro a H);refine eB gq H wn rfl ?_;clear H;intro b12 a w Aw H;refine bH gq 0 (vs:=[_,_,_,_,_]) _ H wn rfl rfl rfl rfl rfl rfl rfl rfl ?_;clear H;intro w H;dsimp only [List.set,setRow] at H;refine kH H (ak dN rfl (SR fun _ fQ=>Rm rfl (Rn rfl (Rm rfl (Sp 77 rfl ?_ ?_))))) <;> clear H dN
  ·intro qR a H
   try have Co:=dT qR
   refine kH H (YF JL qR rfl (YO aC 1 qR rfl (YC qR rfl (Pt qR rfl (Kz fQ (Cd rfl ?_ ?_)))))) <;> clear H fQ
   ·intro Dw a H
    try have P5:=dT Dw
    refine kP H (SC (Rm rfl (aP Ag aC 1 rfl rfl ?_)));clear H;intro a H;refine iT Lg [_,_,_,_] H wn rfl rfl rfl rfl ?_;clear H;intro a H;refine gQ vI wH [_,_,_,_] [_,_,_,_] H wn rfl rfl rfl rfl rfl (by intro i q h;match i,h with|0,h=>exact h|n+1,h=>simp at h) rfl rfl ?_;clear H;intro b86 a w ala H;refine nU (Li:=[_,_,_,_]) (Lo:=Da) (news:=[vi 8,vi cm[j].id,vi 0,vi 0]) vI wH rfl rfl H wn rfl rfl sZ rfl (H.hp.dS 0 rfl rfl) rfl (by omega) (by omega) rfl ?_;clear H;intro v87 Ml a w O7 H;refine kH H (aU dz rfl (SC (Rd rfl (Rm rfl ?_))));clear H dz;intro a H;refine aH ?_;refine cu ((j+1,v87,Ml)) (by exact (H.dK (Pl:=[_,_,_,_]) (cB:=[_]) [3] (by decide) rfl).sub ⟨rfl,rfl,rfl,rfl,rfl,aD⟩) ?_ ?_
    ·(try dsimp only);exact ⟨by omega,by rw [Xe hj2 (by unfold Bc;simp_all),← oo,KH,iA,iA];exact O7⟩
    first|omega|(dsimp only;omega)
   intro Dw a H
   try have P5:=dF Dw
   refine kP H (Kc dz (SC (Rd rfl (Rm rfl ?_))));clear H dz;intro a H;refine aH ?_;refine cu ((j+1,_,Da)) (by exact (H.dK (Pl:=[_,_,_]) (cB:=[_]) [2] (by decide) rfl).sub ⟨rfl,rfl,rfl,rfl,rfl,aD⟩) ?_ ?_
   ·(try dsimp only);exact ⟨by omega,by rw [KJ hj2 (by unfold Bc;simp_all),iA];exact sZ⟩
   first|omega|(dsimp only;omega)
  intro qR a H
  try have Co:=dF qR
  refine kH H (aX qR rfl (Pf qR rfl (Kz fQ (Cf rfl rfl (Kc dz (SC (Rd rfl (Rm rfl ?_))))))));clear H fQ dz;intro a H;refine aH ?_;refine cu ((j+1,_,Da)) (by exact (H.dK (Pl:=[_,_,_]) (cB:=[_]) [2] (by decide) rfl).sub ⟨rfl,rfl,rfl,rfl,rfl,aD⟩) ?_ ?_
  ·(try dsimp only);exact ⟨by omega,by rw [KJ hj2 (by unfold Bc;simp_all),iA];exact sZ⟩
  first|omega|(dsimp only;omega)
 intro h64 a H
 try have p64:=dF h64
 refine dU ?_;refine bN _ _ ?_;clear bN;refine kP H (SR fun _ iq=>Rm rfl (ak iq rfl ?_));clear H iq;intro a H;refine lr H results29 rfl ?_
 obtain rfl:j=cm.length:=by omega
 rw [wT,← iA] at sZ;obtain ⟨Gr,hmr,hrep,H⟩:=St.uo (Li:=[_]) H sZ (rows:=(lS A cm A.length++pW A cm).map jZ.dat) (by simp) (P7 _ _);exact H.rt (by rw [wT];rw [iA] at hrep;exact hrep)
end
section
open Go.RowKit
theorem aie {A:List aY} {cm:List eO} {nb:Bool} {x:aY} (h:jE A x.code x=false):kC A cm nb x=3:=by unfold kC;rw [au (by rw [h];rfl)]
theorem KI {A:List aY} {cm:List eO} {nb:Bool} {x:aY} (h:jE A x.code x=true) (hc:x.code=2∨x.code=4):kC A cm nb x=if (iU A (x.code - 1) x.id).isSome=true then 0 else 1:=by unfold kC;rw [ah (by rw [h];decide),au hc]
theorem Xd {A:List aY} {cm:List eO} {nb:Bool} {x:aY} (h:jE A x.code x=true) (hc:¬ (x.code=2∨x.code=4)):kC A cm nb x=if x.code=1∧nb=true then 6 else if ¬ (iU A (x.code+1) x.id).isSome=true then 2 else if ¬ ((iU A (x.code+1) x.id).getD mH).flow=x.flow then 4 else if ((iU A (x.code+1) x.id).getD mH).at_ < x.at_ then 5 else if x.code=3∧¬ (cm.any fun c=>decide (c.id=x.id))=true then 7 else 0:=by
 unfold kC;rw [ah (by rw [h];decide),ah hc]
theorem ahL {A:List aY} {s:ByteArray} {k i:Nat} (h:qz A k s=true) (hk:k≤i):qz A i s=true:=by
 unfold qz at h ⊢
 obtain ⟨x,hx,hp⟩:=List.any_eq_true.1 h;exact List.any_eq_true.2 ⟨x,(List.take_prefix_take_left (l:=A) hk).subset hx,hp⟩
set_option maxHeartbeats 4000000 in
theorem ahx (G:GH) (w0:World) (hG:Hold G w0) (D:mI) (A:List aY) (cm:List eO) (v:aj) (i:Nat) (hv:av G (.sl 5 (A.map aY.dat)) v) (hcm:av G (.sl 6 (cm.map eO.dat)) (eD D.s3)) (hi:i < A.length) (hl:A.length≤1073741824) (hcl:cm.length≤1073741824) (hnd:A.Nodup) (hcd:1≤A[i].code∧A[i].code≤4) :
  Calls prog 53 #[D.val,v,vi i] w0 (bE w0 G fun u G'=>u=vi (kC A cm (qz A i A[i].name) A[i])):=by
 obtain ⟨vA,n,cc,rfl⟩:=hv.form;have hn:=hv.len;rw [bQ] at hn;subst hn;obtain ⟨⟨sA,sn,sc⟩,hs3⟩:∃ s,s=D.s3:=⟨_,rfl⟩;have hcm0:=hcm;rw [← hs3] at hcm0
 have hsn:sn=cm.length:=by have:=hcm0.len;rwa [bQ] at this
 subst hsn;obtain ⟨b,o,rfl,hrow⟩:=BJ hv hi;have OD:=fun c (hc:A[i].code=c)=>Ib hnd hi hc;obtain ⟨x,hx⟩:∃ x,x=A[i]:=⟨_,rfl⟩;rw [← hx] at hrow hcd OD ⊢;obtain ⟨R,hR⟩:∃ R,kC A cm (qz A i x.name) x=R:=⟨_,rfl⟩;rw [hR];refine eN [(0,_),(1,_),(2,_)] func53 rfl ntmps53 rfl rfl hG ?_;intro a H;refine dB (fun _ K1=>?_);refine eU (cs:=[_,_,_,_,_,_,_,_,_,_,_]) H wn rfl rfl rfl ?_;clear H;intro b3 a w hb3 H;refine kH H (ak K1 rfl (SQ fun _ K2=>?_));clear H K1;intro a H;obtain ⟨Ga,hma,xI,H⟩:=H.dP
 have hgd:aI Ga b3 9=some (.slice sA cm.length sc):=by unfold aI;rw [xI];show some (eD D.s3)=_;rw [← hs3]
 replace hv:=hv.mono hma;replace hcm0:=hcm0.mono hma;replace hrow:=fun j u hj=>aK hma (hrow j u hj);refine kP H (SC (Rm rfl (Rm rfl (Ri kF gq rfl rfl ?_))));clear H;intro a H;refine bD gq (cs:=x.cells) H wn rfl rfl (fun j v hj=>H.hp.aI (hrow j v hj)) rfl ?_;clear H;intro a H;refine eB gq H wn rfl ?_;clear H;intro b7 a w Ce H;refine bH gq 0 (vs:=[_,_,_,_,_]) _ H wn rfl rfl rfl rfl rfl rfl rfl rfl ?_;clear H;intro w H;dsimp only [List.set,setRow] at H;refine kH H (Kn K2 (SQ fun _ K3=>SR fun _ K4=>Rm rfl (aP jr aC 0 rfl rfl (aP nM aC 0 rfl rfl ?_))));clear H K2;intro a H;refine s_call BL H wn rfl (BQ _ _ H.ro A _ x.code x.id hv (by omega)) rfl ?_;clear H;rintro v20 _ a w ⟨rfl,rfl⟩ - H;refine kH H (Rm rfl (Rc rfl (Kz K4 (Cd rfl ?_ ?_)))) <;> clear H K4
 ·intro h22 a H
  try have iw:=dT h22
  have e:R=3:=by
   have h1:=OD _ rfl;rw [gL iw] at h1;rw [← hR];exact aie (by simpa using h1)
  exact kP H (SR fun _ K5=>ak K5 rfl (LR results53 rfl fun H=>H.rt (ay vi e.symm)))
 intro h22 a H
 try have iw:=dF h22
 have hst:jE A x.code x=true:=by
  have h1:=OD _ rfl;rw [iQ (mY.1 iw)] at h1
  simpa using h1
 refine kP H (Kc K3 (SQ fun _ K6=>SR fun _ K7=>aP jr aC 0 rfl rfl (Rc rfl (Rm rfl (Sp 26 rfl ?_ ?_))))) <;> clear H K3
 ·intro fq a H
  try have p26:=dT fq
  refine kH H (aX fq rfl (Pt fq rfl (Kz K7 (Ct rfl rfl (SQ fun _ K8=>SR fun _ K9=>Rm rfl (aP jr aC 0 rfl rfl (Rs rfl (aP nM aC 0 rfl rfl ?_))))))));clear H K7;intro a H;refine s_call BL H wn rfl (BQ _ _ H.ro A _ (x.code - 1) x.id hv (by omega)) rfl ?_;clear H;rintro v37 _ a w ⟨rfl,rfl⟩ - H;refine kH H (Rc rfl (Kz K9 (Cd rfl ?_ ?_))) <;> clear H K9
  ·intro kT a H
   try have p38:=dT kT
   have e:R=1:=by
    rw [← hR,KI hst (by omega),Kt (by omega)];rfl
   exact kP H (SR fun _ aT=>ak aT rfl (LR results53 rfl fun H=>H.rt (ay vi e.symm)))
  intro kT a H
  try have p38:=dF kT
  have e:R=0:=by
   obtain ⟨j,hj,e1,e2⟩:=Fq (A:=A) (c:=x.code - 1) (i:=x.id) (by omega);rw [← hR,KI hst (by omega),e2];rfl
  exact kP H (Kc K8 (SR fun _ bq=>ak bq rfl (LR results53 rfl fun H=>H.rt (ay vi e.symm))))
 intro fq a H
 try have p26:=dF fq
 refine kH H (YF jr fq rfl (YO aC 0 fq rfl (YC fq rfl (Pf fq rfl (Kz K7 (Cd rfl ?_ ?_)))))) <;> clear H K7
 ·intro ow a H
  try have p30:=dT ow
  refine kP H (SQ fun _ bF=>SR fun _ bJ=>Rm rfl (aP jr aC 0 rfl rfl (Rs rfl (aP nM aC 0 rfl rfl ?_))));clear H;intro a H;refine s_call BL H wn rfl (BQ _ _ H.ro A _ (x.code - 1) x.id hv (by omega)) rfl ?_;clear H;rintro v37 _ a w ⟨rfl,rfl⟩ - H;refine kH H (Rc rfl (Kz bJ (Cd rfl ?_ ?_))) <;> clear H bJ
  ·intro kT a H
   try have p38:=dT kT
   have e:R=1:=by
    rw [← hR,KI hst (by omega),Kt (by omega)];rfl
   exact kP H (SR fun _ bN=>ak bN rfl (LR results53 rfl fun H=>H.rt (ay vi e.symm)))
  intro kT a H
  try have p38:=dF kT
  have e:R=0:=by
   obtain ⟨j,hj,e1,e2⟩:=Fq (A:=A) (c:=x.code - 1) (i:=x.id) (by omega);rw [← hR,KI hst (by omega),e2];rfl
  exact kP H (Kc bF (SR fun _ cK=>ak cK rfl (LR results53 rfl fun H=>H.rt (ay vi e.symm))))
 intro ow a H
 try have p30:=dF ow
 refine gI ?_;refine K6 _ _ ?_;clear K6;refine pF (ι:=GH) (Tc:=[(1,_),(3,_),(7,_)]) (Lc:=[]) (fun gh=>[]) (fun gh=>[(b7,.cells #[vi x.code,vi x.id,.string x.name,vi x.flow,vi x.at_] 47 (0,0))]) (fun gh=>gh) (fun gh=>¬ (x.code=1∧qz A i x.name=true)∧(∀ b o,Ga b=some o→gh b=some o)) (by exact (H).sub ⟨rfl,rfl,rfl,aD⟩) ?_ ?_
 ·skip;refine bA (fun _ dw=>?_);rw [Xd hst (by omega)] at hR;refine kP H (SC (aU dw rfl (SB ?_)));clear H dw;intro a H;skip;refine eT (ι:=Nat × GH) (Tc:=[(1,_),(2,_),(3,_),(7,_)]) (Lc:=[]) (fun gh=>[(8,vi gh.1)]) (fun gh=>[(b7,.cells #[vi x.code,vi x.id,.string x.name,vi x.flow,vi x.at_] 47 (0,0))]) (fun gh=>gh.2) (fun gh=>gh.1≤i∧(x.code=1→qz A gh.1 x.name=false)∧(∀ b o,Ga b=some o→gh.2 b=some o)) (fun gh=>i - gh.1) ((0,Ga)) (by exact (H).sub ⟨rfl,rfl,rfl,rfl,rfl,aD⟩) ?_ ?_
  ·exact ⟨iy _,fun _=>rfl,fun _ _ h=>h⟩
  clear H;intro gh a w hI H;obtain ⟨k,g⟩:=gh;dsimp only at hI H;obtain ⟨hk,hno,hgm⟩:=hI;dsimp only [lca,bg] at H;refine kP H (SQ fun _ bY=>SR fun _ dz=>Rm rfl (Rm rfl (Rc rfl (Rm rfl (Sp 42 rfl ?_ ?_))))) <;> clear H
  ·intro qP a H
   try have p42:=dT qP
   refine kH H (YF jr qP rfl (YO aC 0 qP rfl (YC qP rfl (Pt qP rfl (Kz dz (Cd rfl ?_ ?_)))))) <;> clear H dz
   ·intro h46 a H
    try have p46:=dT h46
    have hk2:k < A.length:=by omega
    obtain ⟨b2,o2,e3,hrow2⟩:=BJ (hv.mono hgm) hk2
    injection e3 with e3
    injection e3 with e4 e5 _
    subst e4;subst e5;refine kP H (Kc bY (SQ fun _ fC=>SB (SQ fun _ dN=>?_)));clear H bY;intro a H
    by_cases c0:A[k].code=x.code
    ·skip
     by_cases c1:pR A x.code A[k].id=(k:Int)
     ·skip
      by_cases c2:A[k].name=x.name
      ·skip;refine dI hmx [[],[],[0,1],[0,1,2],(ra 0 4),[],[5],(ra 0 7),(ra 0 8),(ra 0 9),(ra 0 9),(ra 0 9++[10]),(ra 0 9),(ra 0 9),(ra 0 9++[12,13]),(ra 0 9++[12,13,14]),(ra 0 9++ra 12 4),(ra 0 17),(ra 0 9),(ra 0 19),(ra 0 20),(ra 0 21),(ra 0 22),(ra 0 22),(ra 0 24),(ra 0 25),(ra 0 26),(ra 0 22),(ra 0 22++[27]),(ra 0 29),(ra 0 30)] [] (by kernel_rfl) [_,_,_,_,_,_,vi x.code,_,_,_,_,vi x.code,_,_,_,_,_,vi (pR A x.code A[k].id),_,_,_,_,_,_,_,_,_,_,.string x.name,.bool (decide (A[k].name=x.name)),_] H (aF (Z0 rfl (Rm rfl)) (Z0 rfl (Rm rfl)) (Z2 0 49 1 50 rfl (Ri kF gq rfl rfl)) (Z1 2 51 rfl (Rf jr rfl)) (aF (X1 3 52 rfl fun hG=>Rg aC rfl (aK hG (hrow2 0 _ rfl))) (Z0 rfl (Rf jr rfl)) (Z1 5 54 rfl (Ro aC 0 rfl)) (Z2 4 53 6 55 rfl (Rc rfl)) (aF (Z1 7 56 rfl (Rm rfl)) (Z1 8 57 rfl (YM (aB c0) rfl)) (Z1 8 57 rfl (YF jr (aB c0) rfl)) (Z2 10 59 8 57 rfl (YO aC 0 (aB c0) rfl)) (aF (Z1 8 57 rfl (YM (aB c0) rfl)) (Z1 8 57 rfl (YM (aB c0) rfl)) (Z3 12 61 13 62 8 57 rfl (YI kF gq (aB c0) rfl rfl)) (Z2 14 63 8 57 rfl (YF nM (aB c0) rfl)) (aF (X2 15 64 8 57 rfl fun hG=>YR aC (aB c0) rfl (aK hG (hrow2 1 _ rfl))) ?_ (Z1 8 57 rfl (YM (aB c0) rfl)) (Z3 17 66 18 67 8 57 rfl (YC (aB c0) rfl)) (aF (Z2 8 57 19 68 rfl (Pt (aB c0) rfl)) (Z1 20 69 rfl (Rm rfl)) (Z1 21 70 rfl (YM (aB c1) rfl)) (Z1 21 70 rfl (YM (aB c1) rfl)) (aF (Z3 22 71 23 72 21 70 rfl (YI kF gq (aB c1) rfl rfl)) (Z2 24 73 21 70 rfl (YF Dq (aB c1) rfl)) (X2 25 74 21 70 rfl fun hG=>YR fZ (aB c1) rfl (aK hG (hrow2 2 _ rfl))) (Z1 21 70 rfl (YF Dq (aB c1) rfl)) (aS (Z2 27 76 21 70 rfl (YO fZ 0 (aB c1) rfl)) (aS ?_ (aS (Z2 21 70 29 78 rfl (Pt (aB c1) rfl)) bX)))))))))) ?_
       ·refine dQ [(9,58,_),(11,60,_),(16,65,_),(8,57,_)] rfl ⟨fun _ _ h=>h,fun _ _ h=>h,fun _ _ h=>h,fun _ _ h=>h,aD⟩ (by kernel_rfl) (fun _ _ _ _ _ h=>h) rfl rfl ?_;intro bR a w G1 hG HT H fin;refine s_call BL H (wg H rfl rfl (aB c0)) rfl (BQ _ _ H.ro A _ x.code A[k].id ((hv.mono hgm).mono hG) (by omega)) rfl ?_;clear H;rintro v66 _ a w ⟨rfl,rfl⟩ - H;have He:∀ (k:Nat) (o:Obj),G1 k=some o→G1 k=some o:=fun _ _ h=>h;exact fin H He (rfl)
       ·refine qg 26 75 28 77 21 70 rfl rfl fun _ a w G1 hG HT H fin=>?_;refine zy H (wg H rfl rfl (aB c1)) rfl rfl rfl ?_;clear H;intro a H;exact fin H iJ (by show _=_;first|rfl|exact aG (by rw [ng,decide_eq_true_iff,beq_iff_eq];exact ⟨Jt,fun h=>by rw [h]⟩))
       clear H;intro a w G iY H hv;have H:=H.aR (hv 30 79 rfl rfl) rfl;clear hv;refine aH ⟨rfl,?_⟩;refine dN _ _ ?_;clear dN;refine uQ H rfl (aB c2) ?_;refine bA (fun _ fQ=>?_)
       have hc1:x.code=1:=by first|exact p45|omega
       have OU:qz A i x.name=true:=by
        refine ahL (k:=k+1) ?_ (by omega)
        have d0:A[k].code=1:=by omega
        have h2:=Ib hnd hk2 (c:=1) d0;rw [hc1] at c1;rw [iQ c1] at h2;rw [Ed hk2,iQ d0,show jE A 1 A[k]=true by simpa using h2,iQ c2]
        simp
       have e:R=6:=by rw [← hR,au ⟨hc1,OU⟩]
       exact kP H (SC (aU fQ rfl (LR results53 rfl fun H=>H.rt (ay vi e.symm))))
      skip;refine dI hmx [[],[],[0,1],[0,1,2],(ra 0 4),[],[5],(ra 0 7),(ra 0 8),(ra 0 9),(ra 0 9),(ra 0 9++[10]),(ra 0 9),(ra 0 9),(ra 0 9++[12,13]),(ra 0 9++[12,13,14]),(ra 0 9++ra 12 4),(ra 0 17),(ra 0 9),(ra 0 19),(ra 0 20),(ra 0 21),(ra 0 22),(ra 0 22),(ra 0 24),(ra 0 25),(ra 0 26),(ra 0 22),(ra 0 22++[27]),(ra 0 29),(ra 0 30)] [] (by kernel_rfl) [_,_,_,_,_,_,vi x.code,_,_,_,_,vi x.code,_,_,_,_,_,vi (pR A x.code A[k].id),_,_,_,_,_,_,_,_,_,_,.string x.name,.bool (decide (A[k].name=x.name)),_] H (aF (Z0 rfl (Rm rfl)) (Z0 rfl (Rm rfl)) (Z2 0 49 1 50 rfl (Ri kF gq rfl rfl)) (Z1 2 51 rfl (Rf jr rfl)) (aF (X1 3 52 rfl fun hG=>Rg aC rfl (aK hG (hrow2 0 _ rfl))) (Z0 rfl (Rf jr rfl)) (Z1 5 54 rfl (Ro aC 0 rfl)) (Z2 4 53 6 55 rfl (Rc rfl)) (aF (Z1 7 56 rfl (Rm rfl)) (Z1 8 57 rfl (YM (aB c0) rfl)) (Z1 8 57 rfl (YF jr (aB c0) rfl)) (Z2 10 59 8 57 rfl (YO aC 0 (aB c0) rfl)) (aF (Z1 8 57 rfl (YM (aB c0) rfl)) (Z1 8 57 rfl (YM (aB c0) rfl)) (Z3 12 61 13 62 8 57 rfl (YI kF gq (aB c0) rfl rfl)) (Z2 14 63 8 57 rfl (YF nM (aB c0) rfl)) (aF (X2 15 64 8 57 rfl fun hG=>YR aC (aB c0) rfl (aK hG (hrow2 1 _ rfl))) ?_ (Z1 8 57 rfl (YM (aB c0) rfl)) (Z3 17 66 18 67 8 57 rfl (YC (aB c0) rfl)) (aF (Z2 8 57 19 68 rfl (Pt (aB c0) rfl)) (Z1 20 69 rfl (Rm rfl)) (Z1 21 70 rfl (YM (aB c1) rfl)) (Z1 21 70 rfl (YM (aB c1) rfl)) (aF (Z3 22 71 23 72 21 70 rfl (YI kF gq (aB c1) rfl rfl)) (Z2 24 73 21 70 rfl (YF Dq (aB c1) rfl)) (X2 25 74 21 70 rfl fun hG=>YR fZ (aB c1) rfl (aK hG (hrow2 2 _ rfl))) (Z1 21 70 rfl (YF Dq (aB c1) rfl)) (aS (Z2 27 76 21 70 rfl (YO fZ 0 (aB c1) rfl)) (aS ?_ (aS (Z2 21 70 29 78 rfl (Pt (aB c1) rfl)) bX)))))))))) ?_
      ·refine dQ [(9,58,_),(11,60,_),(16,65,_),(8,57,_)] rfl ⟨fun _ _ h=>h,fun _ _ h=>h,fun _ _ h=>h,fun _ _ h=>h,aD⟩ (by kernel_rfl) (fun _ _ _ _ _ h=>h) rfl rfl ?_;intro bR a w G1 hG HT H fin;refine s_call BL H (wg H rfl rfl (aB c0)) rfl (BQ _ _ H.ro A _ x.code A[k].id ((hv.mono hgm).mono hG) (by omega)) rfl ?_;clear H;rintro v66 _ a w ⟨rfl,rfl⟩ - H;have He:∀ (k:Nat) (o:Obj),G1 k=some o→G1 k=some o:=fun _ _ h=>h;exact fin H He (rfl)
      ·refine qg 26 75 28 77 21 70 rfl rfl fun _ a w G1 hG HT H fin=>?_;refine zy H (wg H rfl rfl (aB c1)) rfl rfl rfl ?_;clear H;intro a H;exact fin H iJ (by show _=_;first|rfl|exact aG (by rw [ng,decide_eq_true_iff,beq_iff_eq];exact ⟨Jt,fun h=>by rw [h]⟩))
      clear H;intro a w G iY H hv;have H:=H.aR (hv 30 79 rfl rfl) rfl;clear hv;refine aH ⟨rfl,?_⟩;refine dN _ _ ?_;clear dN;refine kS H rfl (aO c2) ?_;refine kP H (Kc fC (SC (Rm rfl (Rd rfl (Ra rfl ?_)))));clear H fC;intro a H;refine aH ?_;refine cu ((k+1,_)) (by exact (H).sub ⟨rfl,rfl,rfl,rfl,rfl,aD⟩) ?_ ?_
      ·try dsimp only
       exact ⟨by omega,fun h1=>by
        rw [Ed hk2,hno h1,Bool.false_or]
        by_cases d0:A[k].code=1
        ·rw [iQ d0,yK];have h2:=Ib hnd hk2 (c:=1) d0
         by_cases d1:pR A 1 A[k].id=k
         ·rw [show decide (A[k].name=x.name)=false from gL (by first|exact c2|(exfalso;first|exact c0 (d0.trans h1.symm)|(rw [h1] at c1;exact c1 d1)))];exact Bool.and_false _
         rw [gL d1] at h2;rw [show jE A 1 A[k]=false by simpa using h2];rfl
        rw [gL d0];rfl,fun b o h=>iY b o (hgm b o h)⟩
      first|omega|(dsimp only;omega)
     skip;refine dI hmx [[],[],[0,1],[0,1,2],(ra 0 4),[],[5],(ra 0 7),(ra 0 8),(ra 0 9),(ra 0 9),(ra 0 9++[10]),(ra 0 9),(ra 0 9),(ra 0 9++[12,13]),(ra 0 9++[12,13,14]),(ra 0 9++ra 12 4),(ra 0 17),(ra 0 9),(ra 0 19),(ra 0 20),(ra 0 21),(ra 0 22),(ra 0 22),(ra 0 24),(ra 0 25),(ra 0 26),(ra 0 22),(ra 0 22++[27]),(ra 0 29),(ra 0 30)] [] (by kernel_rfl) [_,_,_,_,_,_,vi x.code,_,_,_,_,vi x.code,_,_,_,_,_,vi (pR A x.code A[k].id),_,_,_,_,undef,undef,undef,undef,undef,undef,undef,undef,_] H (aF (Z0 rfl (Rm rfl)) (Z0 rfl (Rm rfl)) (Z2 0 49 1 50 rfl (Ri kF gq rfl rfl)) (Z1 2 51 rfl (Rf jr rfl)) (aF (X1 3 52 rfl fun hG=>Rg aC rfl (aK hG (hrow2 0 _ rfl))) (Z0 rfl (Rf jr rfl)) (Z1 5 54 rfl (Ro aC 0 rfl)) (Z2 4 53 6 55 rfl (Rc rfl)) (aF (Z1 7 56 rfl (Rm rfl)) (Z1 8 57 rfl (YM (aB c0) rfl)) (Z1 8 57 rfl (YF jr (aB c0) rfl)) (Z2 10 59 8 57 rfl (YO aC 0 (aB c0) rfl)) (aF (Z1 8 57 rfl (YM (aB c0) rfl)) (Z1 8 57 rfl (YM (aB c0) rfl)) (Z3 12 61 13 62 8 57 rfl (YI kF gq (aB c0) rfl rfl)) (Z2 14 63 8 57 rfl (YF nM (aB c0) rfl)) (aF (X2 15 64 8 57 rfl fun hG=>YR aC (aB c0) rfl (aK hG (hrow2 1 _ rfl))) ?_ (Z1 8 57 rfl (YM (aB c0) rfl)) (Z3 17 66 18 67 8 57 rfl (YC (aB c0) rfl)) (aF (Z2 8 57 19 68 rfl (Pt (aB c0) rfl)) (Z1 20 69 rfl (Rm rfl)) (aL (j:=21) (by kernel_rfl) (fun _ _ _ _ _ h=>h) rfl rfl rfl rfl rfl (fun _ _ h=>aM h (aG (aO c1))) rfl (fun _=>rfl)) (aL (j:=21) (by kernel_rfl) (fun _ _ _ _ _ h=>h) rfl rfl rfl rfl rfl (fun _ _ h=>aM h (aG (aO c1))) rfl (fun _=>rfl)) (aF (aL (j:=21) (by kernel_rfl) (fun _ _ _ _ _ h=>h) rfl rfl rfl rfl rfl (fun _ _ h=>aM h (aG (aO c1))) rfl (fun _=>rfl)) (aL (j:=21) (by kernel_rfl) (fun _ _ _ _ _ h=>h) rfl rfl rfl rfl rfl (fun _ _ h=>aM h (aG (aO c1))) rfl (fun _=>rfl)) (aL (j:=21) (by kernel_rfl) (fun _ _ _ _ _ h=>h) rfl rfl rfl rfl rfl (fun _ _ h=>aM h (aG (aO c1))) rfl (fun _=>rfl)) (aL (j:=21) (by kernel_rfl) (fun _ _ _ _ _ h=>h) rfl rfl rfl rfl rfl (fun _ _ h=>aM h (aG (aO c1))) rfl (fun _=>rfl)) (aS (aL (j:=21) (by kernel_rfl) (fun _ _ _ _ _ h=>h) rfl rfl rfl rfl rfl (fun _ _ h=>aM h (aG (aO c1))) rfl (fun _=>rfl)) (aS (aL (j:=21) (by kernel_rfl) (fun _ _ _ _ _ h=>h) rfl rfl rfl rfl rfl (fun _ _ h=>aM h (aG (aO c1))) rfl (fun _=>rfl)) (aS (Z2 21 70 29 78 rfl (Pf (aO c1) rfl)) bX)))))))))) ?_
     ·refine dQ [(9,58,_),(11,60,_),(16,65,_),(8,57,_)] rfl ⟨fun _ _ h=>h,fun _ _ h=>h,fun _ _ h=>h,fun _ _ h=>h,aD⟩ (by kernel_rfl) (fun _ _ _ _ _ h=>h) rfl rfl ?_;intro bR a w G1 hG HT H fin;refine s_call BL H (wg H rfl rfl (aB c0)) rfl (BQ _ _ H.ro A _ x.code A[k].id ((hv.mono hgm).mono hG) (by omega)) rfl ?_;clear H;rintro v66 _ a w ⟨rfl,rfl⟩ - H;have He:∀ (k:Nat) (o:Obj),G1 k=some o→G1 k=some o:=fun _ _ h=>h;exact fin H He (rfl)
     clear H;intro a w G iY H hv;have H:=H.aR (hv 30 79 rfl rfl) rfl;clear hv;refine aH ⟨rfl,?_⟩;refine dN _ _ ?_;clear dN;refine kS H rfl rfl ?_;refine kP H (Kc fC (SC (Rm rfl (Rd rfl (Ra rfl ?_)))));clear H fC;intro a H;refine aH ?_;refine cu ((k+1,_)) (by exact (H).sub ⟨rfl,rfl,rfl,rfl,rfl,aD⟩) ?_ ?_
     ·try dsimp only
      exact ⟨by omega,fun h1=>by
       rw [Ed hk2,hno h1,Bool.false_or]
       by_cases d0:A[k].code=1
       ·rw [iQ d0,yK];have h2:=Ib hnd hk2 (c:=1) d0
        by_cases d1:pR A 1 A[k].id=k
        ·rw [show decide (A[k].name=x.name)=false from gL (by first|exact c2|(exfalso;first|exact c0 (d0.trans h1.symm)|(rw [h1] at c1;exact c1 d1)))];exact Bool.and_false _
        rw [gL d1] at h2;rw [show jE A 1 A[k]=false by simpa using h2];rfl
       rw [gL d0];rfl,fun b o h=>iY b o (hgm b o h)⟩
     first|omega|(dsimp only;omega)
    skip;refine dI hmx [[],[],[0,1],[0,1,2],(ra 0 4),[],[5],(ra 0 7),(ra 0 8),(ra 0 9),(ra 0 9),(ra 0 9++[10]),(ra 0 9),(ra 0 9),(ra 0 9++[12,13]),(ra 0 9++[12,13,14]),(ra 0 9++ra 12 4),(ra 0 17),(ra 0 9),(ra 0 19),(ra 0 20),(ra 0 21),(ra 0 22),(ra 0 22),(ra 0 24),(ra 0 25),(ra 0 26),(ra 0 22),(ra 0 22++[27]),(ra 0 29),(ra 0 30)] [] (by kernel_rfl) [_,_,_,_,_,_,vi x.code,_,_,undef,undef,undef,undef,undef,undef,undef,undef,undef,undef,undef,_,_,undef,undef,undef,undef,undef,undef,undef,undef,_] H (aF (Z0 rfl (Rm rfl)) (Z0 rfl (Rm rfl)) (Z2 0 49 1 50 rfl (Ri kF gq rfl rfl)) (Z1 2 51 rfl (Rf jr rfl)) (aF (X1 3 52 rfl fun hG=>Rg aC rfl (aK hG (hrow2 0 _ rfl))) (Z0 rfl (Rf jr rfl)) (Z1 5 54 rfl (Ro aC 0 rfl)) (Z2 4 53 6 55 rfl (Rc rfl)) (aF (Z1 7 56 rfl (Rm rfl)) (aL (j:=8) (by kernel_rfl) (fun _ _ _ _ _ h=>h) rfl rfl rfl rfl rfl (fun _ _ h=>aM h (aG (aO c0))) rfl (fun _=>rfl)) (aL (j:=8) (by kernel_rfl) (fun _ _ _ _ _ h=>h) rfl rfl rfl rfl rfl (fun _ _ h=>aM h (aG (aO c0))) rfl (fun _=>rfl)) (aL (j:=8) (by kernel_rfl) (fun _ _ _ _ _ h=>h) rfl rfl rfl rfl rfl (fun _ _ h=>aM h (aG (aO c0))) rfl (fun _=>rfl)) (aF (aL (j:=8) (by kernel_rfl) (fun _ _ _ _ _ h=>h) rfl rfl rfl rfl rfl (fun _ _ h=>aM h (aG (aO c0))) rfl (fun _=>rfl)) (aL (j:=8) (by kernel_rfl) (fun _ _ _ _ _ h=>h) rfl rfl rfl rfl rfl (fun _ _ h=>aM h (aG (aO c0))) rfl (fun _=>rfl)) (aL (j:=8) (by kernel_rfl) (fun _ _ _ _ _ h=>h) rfl rfl rfl rfl rfl (fun _ _ h=>aM h (aG (aO c0))) rfl (fun _=>rfl)) (aL (j:=8) (by kernel_rfl) (fun _ _ _ _ _ h=>h) rfl rfl rfl rfl rfl (fun _ _ h=>aM h (aG (aO c0))) rfl (fun _=>rfl)) (aF (aL (j:=8) (by kernel_rfl) (fun _ _ _ _ _ h=>h) rfl rfl rfl rfl rfl (fun _ _ h=>aM h (aG (aO c0))) rfl (fun _=>rfl)) (aL (j:=8) (by kernel_rfl) (fun _ _ _ _ _ h=>h) rfl rfl rfl rfl rfl (fun _ _ h=>aM h (aG (aO c0))) rfl (fun _=>rfl)) (aL (j:=8) (by kernel_rfl) (fun _ _ _ _ _ h=>h) rfl rfl rfl rfl rfl (fun _ _ h=>aM h (aG (aO c0))) rfl (fun _=>rfl)) (aL (j:=8) (by kernel_rfl) (fun _ _ _ _ _ h=>h) rfl rfl rfl rfl rfl (fun _ _ h=>aM h (aG (aO c0))) rfl (fun _=>rfl)) (aF (Z2 8 57 19 68 rfl (Pf (aO c0) rfl)) (Z1 20 69 rfl (Rm rfl)) (aL (j:=21) (by kernel_rfl) (fun _ _ _ _ _ h=>h) rfl rfl rfl rfl rfl (fun _ _ h=>aM h (aG rfl)) rfl (fun _=>rfl)) (aL (j:=21) (by kernel_rfl) (fun _ _ _ _ _ h=>h) rfl rfl rfl rfl rfl (fun _ _ h=>aM h (aG rfl)) rfl (fun _=>rfl)) (aF (aL (j:=21) (by kernel_rfl) (fun _ _ _ _ _ h=>h) rfl rfl rfl rfl rfl (fun _ _ h=>aM h (aG rfl)) rfl (fun _=>rfl)) (aL (j:=21) (by kernel_rfl) (fun _ _ _ _ _ h=>h) rfl rfl rfl rfl rfl (fun _ _ h=>aM h (aG rfl)) rfl (fun _=>rfl)) (aL (j:=21) (by kernel_rfl) (fun _ _ _ _ _ h=>h) rfl rfl rfl rfl rfl (fun _ _ h=>aM h (aG rfl)) rfl (fun _=>rfl)) (aL (j:=21) (by kernel_rfl) (fun _ _ _ _ _ h=>h) rfl rfl rfl rfl rfl (fun _ _ h=>aM h (aG rfl)) rfl (fun _=>rfl)) (aS (aL (j:=21) (by kernel_rfl) (fun _ _ _ _ _ h=>h) rfl rfl rfl rfl rfl (fun _ _ h=>aM h (aG rfl)) rfl (fun _=>rfl)) (aS (aL (j:=21) (by kernel_rfl) (fun _ _ _ _ _ h=>h) rfl rfl rfl rfl rfl (fun _ _ h=>aM h (aG rfl)) rfl (fun _=>rfl)) (aS (Z2 21 70 29 78 rfl (Pf rfl rfl)) bX)))))))))) ?_
    clear H;intro a w G iY H hv;have H:=H.aR (hv 30 79 rfl rfl) rfl;clear hv;refine aH ⟨rfl,?_⟩;refine dN _ _ ?_;clear dN;refine kS H rfl rfl ?_;refine kP H (Kc fC (SC (Rm rfl (Rd rfl (Ra rfl ?_)))));clear H fC;intro a H;refine aH ?_;refine cu ((k+1,_)) (by exact (H).sub ⟨rfl,rfl,rfl,rfl,rfl,aD⟩) ?_ ?_
    ·try dsimp only
     exact ⟨by omega,fun h1=>by
      rw [Ed hk2,hno h1,Bool.false_or]
      by_cases d0:A[k].code=1
      ·rw [iQ d0,yK];have h2:=Ib hnd hk2 (c:=1) d0
       by_cases d1:pR A 1 A[k].id=k
       ·rw [show decide (A[k].name=x.name)=false from gL (by first|exact c2|(exfalso;first|exact c0 (d0.trans h1.symm)|(rw [h1] at c1;exact c1 d1)))];exact Bool.and_false _
       rw [gL d1] at h2;rw [show jE A 1 A[k]=false by simpa using h2];rfl
      rw [gL d0];rfl,fun b o h=>iY b o (hgm b o h)⟩
    first|omega|(dsimp only;omega)
   intro h46 a H
   try have p46:=dF h46
   refine dU ?_;refine ⟨g,by exact (H).sub ⟨rfl,rfl,rfl,aD⟩,?_⟩;exact ⟨by rintro ⟨h1,h2⟩;have h3:=hno h1;first|omega|(rw [show i=k by omega,h3] at h2;cases h2),hgm⟩
  intro qP a H
  try have p42:=dF qP
  refine kH H (aX qP rfl (Pf qP rfl (Kz dz (Cf rfl rfl ?_))));clear H dz;intro a H;refine dU ?_;refine ⟨g,by exact (H).sub ⟨rfl,rfl,rfl,aD⟩,?_⟩;exact ⟨by rintro ⟨h1,h2⟩;have h3:=hno h1;first|omega|(rw [show i=k by omega,h3] at h2;cases h2),hgm⟩
 clear H;intro gh a w hI H;obtain ⟨g13,hgh⟩:∃ x,x=gh:=⟨_,rfl⟩;subst hgh;obtain ⟨OU,hgm⟩:=hI;rw [Xd hst (by omega),ah OU] at hR;dsimp only [lca,bg] at H;refine kP H (SR fun _ iq=>Rm rfl (aP jr aC 0 rfl rfl (Rd rfl (aP nM aC 0 rfl rfl ?_))));clear H;intro a H;refine s_call BL H wn rfl (BQ _ _ H.ro A _ (x.code+1) x.id (hv.mono hgm) (by omega)) rfl ?_;clear H;rintro v86 _ a w ⟨rfl,rfl⟩ - H;obtain ⟨K,hK⟩:∃ K,K=pR A (x.code+1) x.id:=⟨_,rfl⟩;rw [← hK] at H;refine kH H (ak iq rfl (SQ fun _ jA=>SB (SR fun _ jo=>Rm rfl (Rc rfl (ak jo rfl (Cd rfl ?_ ?_)))))) <;> clear H iq jo
 ·intro h87 a H
  try have Ij:=dT h87
  have e:R=2:=by
   have h0:=om h87;rw [← hR,Kt (by rw [← hK];omega),au (by simp)]
  exact kP H (SR fun _ jc=>ak jc rfl (LR results53 rfl fun H=>H.rt (ay vi e.symm)))
 intro h87 a H
 try have Ij:=dF h87
 have h0:=of_decide_eq_false h87;obtain ⟨j,hj,e1,e2⟩:=Fq (A:=A) (c:=x.code+1) (i:=x.id) (by rw [← hK];omega);rw [← hK] at e1;rw [e1] at H;rw [e2,ah (by simp),Option.getD_some] at hR;obtain ⟨b2,o2,e3,hrow2⟩:=BJ (hv.mono hgm) hj
 injection e3 with e3
 injection e3 with e4 e5 _
 subst e4;subst e5;refine bA (fun _ jG=>?_);refine dI hmx [[],[],[0,1],[0,1,2],(ra 0 4),(ra 0 5),[],[6],[6,7],(ra 0 9),(ra 0 10)] [] (by kernel_rfl) [_,_,_,_,_,_,_,_,vi x.flow,_,_] H (aF (Z0 rfl (Rm rfl)) (Z0 rfl (Rm rfl)) (Z2 0 91 1 92 rfl (Ri kF gq rfl rfl)) (Z1 2 93 rfl (Rf ou rfl)) (aF (Z1 3 94 rfl (Rf Ae rfl)) (X1 4 95 rfl fun hG=>Rg aC rfl (aK hG (hrow2 3 _ rfl))) (Z0 rfl (Rf ou rfl)) (Z1 6 97 rfl (Rf Ae rfl)) (aS (Z1 7 98 rfl (Ro aC 0 rfl)) (aS (Z2 5 96 8 99 rfl (Rc rfl)) (aS (Z1 9 100 rfl (Ra rfl)) bX))))) ?_
 clear H;intro a w G UN H hv;have H:=H.aR (hv 10 90 rfl rfl) rfl;clear hv;refine aH ⟨rfl,?_⟩;refine jG _ _ ?_;clear jG;refine kr H rfl ?_ ?_
 ·intro jC
  have e:R=4:=by rw [← hR,au (om jC)]
  exact kP H (SR fun _ jM=>ak jM rfl (LR results53 rfl fun H=>H.rt (ay vi e.symm)))
 intro jC
 try have Fx:=dF jC
 rw [ah (of_decide_eq_false jC)] at hR;refine bA (fun _ iI=>?_);refine dI hmx [[],[],[0,1],[0,1,2],(ra 0 4),(ra 0 5),[],[6],[6,7],(ra 0 9),(ra 0 10)] [] (by kernel_rfl) [_,_,_,_,_,_,_,_,vi x.at_,_,_] H (aF (Z0 rfl (Rm rfl)) (Z0 rfl (Rm rfl)) (Z2 0 102 1 103 rfl (Ri kF gq rfl rfl)) (Z1 2 104 rfl (Rf ou rfl)) (aF (Z1 3 105 rfl (Rf uh rfl)) (X1 4 106 rfl fun hG=>Rg aC rfl (aK hG (aK UN (hrow2 4 _ rfl)))) (Z0 rfl (Rf ou rfl)) (Z1 6 108 rfl (Rf uh rfl)) (aS (Z1 7 109 rfl (Ro aC 0 rfl)) (aS (Z2 5 107 8 110 rfl (Rc rfl)) (aS (Z1 9 111 rfl (Ra rfl)) bX))))) ?_
 clear H;intro a w G NZ H hv;have H:=H.aR (hv 10 101 rfl rfl) rfl;clear hv;refine aH ⟨rfl,?_⟩;refine iI _ _ ?_;clear iI;refine kr H rfl ?_ ?_
 ·intro BS
  have e:R=5:=by rw [← hR,au (om BS)]
  exact kP H (SR fun _ lU=>ak lU rfl (LR results53 rfl fun H=>H.rt (ay vi e.symm)))
 intro BS
 try have WX:=dF BS
 rw [ah (of_decide_eq_false BS)] at hR;have afK:=fun b o h=>NZ b o (UN b o (hgm b o h));refine kP H (Kc jA (SQ fun _ mJ=>SR fun _ nH=>aP jr aC 0 rfl rfl (Rc rfl (Kz nH (Cd rfl ?_ ?_))))) <;> clear H jA nH
 ·intro JQ a H
  try have alO:=dT JQ
  have hc3:x.code=3:=om JQ;refine kP H (SQ fun _ mV=>SR fun _ mK=>ak mK rfl (SB ?_));clear H mK;intro a H;skip;refine eT (ι:=Nat × GH) (Tc:=[(3,_),(7,_)]) (Lc:=[]) (fun gh=>[(10,vi gh.1)]) (fun gh=>[(b7,.cells #[vi x.code,vi x.id,.string x.name,vi x.flow,vi x.at_] 47 (0,0))]) (fun gh=>gh.2) (fun gh=>gh.1≤cm.length∧((cm.take gh.1).any fun c=>decide (c.id=x.id))=false∧(∀ b o,Ga b=some o→gh.2 b=some o)) (fun gh=>cm.length - gh.1) ((0,_)) (by exact (H).sub ⟨rfl,rfl,rfl,aD⟩) ?_ ?_
  ·exact ⟨iy _,rfl,afK⟩
  clear H;intro gh a w hI H;obtain ⟨m,g2⟩:=gh;dsimp only at hI H;obtain ⟨hm,hna,hg2⟩:=hI;dsimp only [lca,bg] at H;refine kP H (SQ fun _ nZ=>SR fun _ oV=>Rm rfl (Rf xk rfl (Rf Ad rfl (Rg uI rfl (aK hg2 hgd) (Rl tF rfl (Rc rfl (Kz oV (Cd rfl ?_ ?_)))))))) <;> clear H oV
  ·intro sP a H
   try have PX:=dT sP
   have hm2:m < cm.length:=by omega
   obtain ⟨b',o',rfl,hrow',-⟩:=EL (hcm0.mono hg2) hm2;refine kP H (Kc nZ (SQ fun _ nI=>SB (SQ fun _ oW=>?_)));clear H nZ;intro a H
   by_cases c0:cm[m].id=x.id
   ·skip;refine dI hmx [[],[0],[0,1],[],(ra 0 4),(ra 0 5),(ra 0 6),[],[7],(ra 0 9)] [] (by kernel_rfl) [_,_,_,_,_,_,_,_,vi x.id,_] H (aF (Z0 rfl (Rf xk rfl)) (Z1 0 123 rfl (Rf Ad rfl)) (X1 1 124 rfl fun hG=>Rg uI rfl (aK hG (aK hg2 hgd))) (Z0 rfl (Rm rfl)) (aF (Z2 2 125 3 126 rfl (Ri tF qF rfl rfl)) (Z1 4 127 rfl (Rf Ag rfl)) (X1 5 128 rfl fun hG=>Rg aC rfl (aK hG (hrow' 0 _ rfl))) (Z0 rfl (Rf nM rfl)) (aS (Z1 7 130 rfl (Ro aC 0 rfl)) (aS (Z2 6 129 8 131 rfl (Rc rfl)) bX)))) ?_
    clear H;intro a w G UO H hv;have H:=H.aR (hv 9 132 rfl rfl) rfl;clear hv;refine aH ⟨rfl,?_⟩;refine oW _ _ ?_;clear oW;refine uQ H rfl (aB c0) ?_;refine bA (fun _ zQ=>?_)
    have e:R=0:=by
     rw [← hR,ah];rintro ⟨-,h2⟩;exact h2 (List.any_eq_true.2 ⟨_,iL hm2,iQ c0⟩)
    exact kP H (SC (aU zQ rfl (LR results53 rfl fun H=>H.rt (ay vi e.symm))))
   skip;refine dI hmx [[],[0],[0,1],[],(ra 0 4),(ra 0 5),(ra 0 6),[],[7],(ra 0 9)] [] (by kernel_rfl) [_,_,_,_,_,_,_,_,vi x.id,_] H (aF (Z0 rfl (Rf xk rfl)) (Z1 0 123 rfl (Rf Ad rfl)) (X1 1 124 rfl fun hG=>Rg uI rfl (aK hG (aK hg2 hgd))) (Z0 rfl (Rm rfl)) (aF (Z2 2 125 3 126 rfl (Ri tF qF rfl rfl)) (Z1 4 127 rfl (Rf Ag rfl)) (X1 5 128 rfl fun hG=>Rg aC rfl (aK hG (hrow' 0 _ rfl))) (Z0 rfl (Rf nM rfl)) (aS (Z1 7 130 rfl (Ro aC 0 rfl)) (aS (Z2 6 129 8 131 rfl (Rc rfl)) bX)))) ?_
   clear H;intro a w G UO H hv;have H:=H.aR (hv 9 132 rfl rfl) rfl;clear hv;refine aH ⟨rfl,?_⟩;refine oW _ _ ?_;clear oW;refine kS H rfl (aO c0) ?_;refine kP H (Kc nI (SC (Rm rfl (Rd rfl (Ra rfl ?_)))));clear H nI;intro a H;refine aH ?_;refine cu ((m+1,_)) (by exact (H).sub ⟨rfl,rfl,rfl,aD⟩) ?_ ?_
   ·(try dsimp only);exact ⟨by omega,by rw [jq hm2,List.any_append,hna];simp [c0],fun b o h=>UO b o (hg2 b o h)⟩
   first|omega|(dsimp only;omega)
  intro sP a H
  try have PX:=dF sP
  have e:R=7:=by
   rw [show cm.take m=cm from jH (by omega)] at hna;rw [← hR,au ⟨hc3,by rw [hna];decide⟩]
  refine dU ?_;refine mV _ _ ?_;clear mV;exact kP H (SR fun _ zR=>ak zR rfl (LR results53 rfl fun H=>H.rt (ay vi e.symm)))
 intro JQ a H
 have e:R=0:=by rw [← hR,ah (fun h=>of_decide_eq_false JQ h.1)]
 exact kP H (Kc mJ (SR fun _ og=>ak og rfl (LR results53 rfl fun H=>H.rt (ay vi e.symm))))
end
section
open Go.RowKit
theorem adf:∀ args w,(callFunc 53 args).run prog w=.ok (.enter 53 args) w:=enters func53 rfl (by kernel_rfl)
set_option maxHeartbeats 4000000 in
theorem ahy (G:GH) (w0:World) (hG:Hold G w0) (D:mI) (l:List aA) (cm:List eO) (hv:av G (.sl 11 (l.map aA.dat)) (eD D.f)) (hcm:av G (.sl 6 (cm.map eO.dat)) (eD D.s3)) (hok:eY l) (hz:bC l≤1073741824) (hcl:cm.length≤1073741824) (hnd:(dL 0 0 l).Nodup) (hcd:∀ a∈dL 0 0 l,1≤a.code∧a.code≤4) :
  Calls prog 30 #[D.val] w0 (bE w0 G fun u G'=>av G' (.sl 4 ((lS (dL 0 0 l) cm (dL 0 0 l).length++pW (dL 0 0 l) cm).map jZ.dat)) u):=by
 have hn:=wP 0 0 l;have hml:maxLen=9223372036854775807:=rfl;obtain ⟨A,hA⟩:∃ A,A=dL 0 0 l:=⟨_,rfl⟩;rw [← hA] at hn hnd hcd ⊢;obtain ⟨⟨sA,sn,sc⟩,hs3⟩:∃ s,s=D.s3:=⟨_,rfl⟩;have hcm0:=hcm;rw [← hs3] at hcm0
 have hsn:sn=cm.length:=by have:=hcm0.len;rwa [bQ] at this
 subst hsn;refine eN [(0,_)] func30 rfl ntmps30 rfl rfl hG ?_;intro a H;refine dB (fun _ K1=>?_);refine eU (cs:=[_,_,_,_,_,_,_,_,_,_,_]) H wn rfl rfl rfl ?_;clear H;intro b1 a w hb1 H;refine kH H (ak K1 rfl (SQ fun _ K2=>?_));clear H K1;intro a H;obtain ⟨Ga,hma,hb',H⟩:=H.dP;have hga:=fun j v hj=>xq hb' 0 D.cells rfl j v hj;have hgf:aI Ga b1 0=some (eD D.f):=hga 0 _ rfl
 have hgd:aI Ga b1 9=some (.slice sA cm.length sc):=by unfold aI;rw [hb'];show some (eD D.s3)=_;rw [← hs3]
 replace hv:=hv.mono hma;replace hcm:=hcm.mono hma;replace hcm0:=hcm0.mono hma;refine kP H (SC (aU K2 rfl (SR fun _ K3=>Rf Dp rfl (Rg iD rfl hgf ?_))));clear H K2;intro a H;refine s_call Ng H wn rfl (WB 1073741825 (bU _) _ _ H.ro 0 l _ hv hok (by omega)) rfl ?_;clear H;rintro v11 tL a w hr AB H;rw [← hA] at hr;obtain ⟨vA,n11,c11,rfl⟩:=hr.form;have Vk:=hr.len;rw [bQ] at Vk;subst Vk;replace hcm:=hcm.mono AB;replace hcm0:=hcm0.mono AB;replace hga:=fun j v hj=>aK AB (hga j v hj);replace hgd:=aK AB hgd;refine kH H (ak K3 rfl (SQ fun _ K4=>SR fun _ K5=>ak K5 rfl (SB ?_)));clear H K3 K5;intro a H;skip;refine eT (ι:=Nat × aj × OL × GH) (Tc:=[(1,_),(4,_)]) (Lc:=[]) (fun gh=>[(3,gh.2.1),(5,vi gh.1)]) (fun gh=>[]++gh.2.2.1) (fun gh=>gh.2.2.2) (fun gh=>gh.1≤A.length∧dx 87 4 gh.2.1 (lS A cm gh.1).length (Bd (lS A cm gh.1)) gh.2.2.1∧(∀ b o,tL b=some o→gh.2.2.2 b=some o)) (fun gh=>A.length - gh.1) ((0,.slice none 0 0,[],tL)) (by exact (H).sub ⟨rfl,rfl,rfl,rfl,aD⟩) ?_ ?_
 ·exact ⟨iy _,dx.nil,fun _ _ h=>h⟩
 clear H;intro gh a w hI H;obtain ⟨k,v3,Lo,g⟩:=gh;dsimp only at hI H;obtain ⟨hk,hrw,hgm⟩:=hI;have hpl:=Il A cm k;obtain ⟨LP,LQ,rfl,-,-⟩:=hrw.shape;dsimp only [lca,bg] at H;refine kP H (SQ fun _ K6=>SR fun _ K7=>Rm rfl (Rm rfl (Rl kF rfl (Rc rfl (Kz K7 (Cd rfl ?_ ?_)))))) <;> clear H K7
 ·intro mg a H
  try have qY:=dT mg
  have hk2:k < A.length:=by omega
  have DL:=Xb (cm:=cm) hk2;have hcn:=Xa A cm (qz A k A[k].name) A[k];refine kP H (Kc K6 (SQ fun _ K8=>SB (SR fun _ K9=>?_)));clear H K6;intro a H;refine bD ru (cs:=D.cells) H wn rfl rfl (fun j v hj=>H.hp.aI (aK hgm (hga j v hj))) rfl ?_;clear H;intro a H;refine kH H (Rm rfl (Rm rfl ?_));clear H;intro a H;refine s_call adf H wn rfl (ahx _ _ H.ro D A cm _ k (hr.mono hgm) (hcm.mono hgm) hk2 (by omega) hcl hnd (hcd _ (iL hk2))) rfl ?_;clear H;rintro v21 I4 a w rfl sV H;obtain ⟨b,o,rfl,hrow⟩:=BJ ((hr.mono hgm).mono sV) hk2;obtain ⟨C,hC⟩:∃ C,C=kC A cm (qz A k A[k].name) A[k]:=⟨_,rfl⟩;rw [← hC] at H hcn;have DL:lS A cm (k+1)=lS A cm k++Cq A cm k A[k]:=DL;refine kH H (ak K9 rfl (SR fun _ aT=>Rm rfl (Rc rfl (Kz aT (Cd rfl ?_ ?_))))) <;> clear H K9 aT
  ·intro h23 a H
   try have rU:=dT h23
   have vo:∀ (eF bT:Nat) (v:aj) (G G':GH),(∀ k o,G k=some o→G' k=some o)→(fun (eF bT:Nat) (v:aj) (G:GH)=>match bT with|0=>v=.slice LP (lS A cm k).length LQ|1=>v=vi C|2=>v=.slice (some ⟨b,o,none⟩) A.length c11|3=>v=vi k|4=>v=(aJ b (o+k*5))|5=>v=(aJ b (o+k*5+1))|6=>v=vi A[k].id|7=>v=.slice (some ⟨b,o,none⟩) A.length c11|8=>v=vi k|9=>v=(aJ b (o+k*5))|10=>v=(aJ b (o+k*5+3))|11=>v=.agg #[vi A[k].flow,vi A[k].at_]|12=>v=.agg #[vi C,vi A[k].id,vi A[k].flow,vi A[k].at_]|13=>v=.slice (some ⟨eF,0,none⟩) 1 1|_=>True) eF bT v G→(fun (eF bT:Nat) (v:aj) (G:GH)=>match bT with|0=>v=.slice LP (lS A cm k).length LQ|1=>v=vi C|2=>v=.slice (some ⟨b,o,none⟩) A.length c11|3=>v=vi k|4=>v=(aJ b (o+k*5))|5=>v=(aJ b (o+k*5+1))|6=>v=vi A[k].id|7=>v=.slice (some ⟨b,o,none⟩) A.length c11|8=>v=vi k|9=>v=(aJ b (o+k*5))|10=>v=(aJ b (o+k*5+3))|11=>v=.agg #[vi A[k].flow,vi A[k].at_]|12=>v=.agg #[vi C,vi A[k].id,vi A[k].flow,vi A[k].at_]|13=>v=.slice (some ⟨eF,0,none⟩) 1 1|_=>True) eF bT v G':=by
    intro eF bT v G G' hm h
    match bT,h with
    | 0,h=>exact h
    | 1,h=>exact h
    | 2,h=>exact h
    | 3,h=>exact h
    | 4,h=>exact h
    | 5,h=>exact h
    | 6,h=>exact h
    | 7,h=>exact h
    | 8,h=>exact h
    | 9,h=>exact h
    | 10,h=>exact h
    | 11,h=>exact h
    | 12,h=>exact h
    | 13,h=>exact h
    | 14,h=>exact trivial
    | 15,h=>exact trivial
    | _+16,h=>exact trivial
   refine aan (hmx) [[],[],[],[],[2,3],[2,3,4],(ra 2 4),[],[],[7,8],[7,8,9],(ra 7 4),(ra 1 11),(ra 1 12),(ra 0 14),(ra 0 15)] [14,15] (by kernel_rfl) (by kernel_rfl) 13 (by decide) (.cells #[vi C,vi A[k].id,vi A[k].flow,vi A[k].at_] 87 (0,0)) (fun (eF bT:Nat) (v:aj) (G:GH)=>match bT with|0=>v=.slice LP (lS A cm k).length LQ|1=>v=vi C|2=>v=.slice (some ⟨b,o,none⟩) A.length c11|3=>v=vi k|4=>v=(aJ b (o+k*5))|5=>v=(aJ b (o+k*5+1))|6=>v=vi A[k].id|7=>v=.slice (some ⟨b,o,none⟩) A.length c11|8=>v=vi k|9=>v=(aJ b (o+k*5))|10=>v=(aJ b (o+k*5+3))|11=>v=.agg #[vi A[k].flow,vi A[k].at_]|12=>v=.agg #[vi C,vi A[k].id,vi A[k].flow,vi A[k].at_]|13=>v=.slice (some ⟨eF,0,none⟩) 1 1|_=>True) (fun _ _ i v G hi h=>by
    match i,hi,h with
    | 0,hi,h=>exact h
    | 1,hi,h=>exact h
    | 2,hi,h=>exact h
    | 3,hi,h=>exact h
    | 4,hi,h=>exact h
    | 5,hi,h=>exact h
    | 6,hi,h=>exact h
    | 7,hi,h=>exact h
    | 8,hi,h=>exact h
    | 9,hi,h=>exact h
    | 10,hi,h=>exact h
    | 11,hi,h=>exact h
    | 12,hi,h=>exact h
    | 13,hi,h=>exact absurd rfl hi
    | 14,hi,h=>exact trivial
    | 15,hi,h=>exact trivial
    | _+16,_,h=>exact trivial) H ?_ ?_ ?_ (by kernel_rfl)
   ·clear H;refine aF ?_ ?_ ?_ ?_ (aF ?_ ?_ ?_ ?_ (aF ?_ ?_ ?_ ?_ (aF ?_ ?_ ?_ ?_ bX)))
    ·intro eF oh bR a w G1 _ _ bS hc hG HT hv;have H:=HT;clear bS;have Hb:=H.full;have H:=Hb;clear hc;refine kH H (Rm rfl ?_);clear H;intro a H;refine aH ⟨rfl,?_⟩;exact ku (by kernel_rfl) (vo eF) rfl rfl HT Hb hG hv (fun _ _ h=>h) (rfl) H
    ·intro eF oh bR a w G1 _ _ bS hc hG HT hv;have H:=HT;clear bS;have Hb:=H.full;have H:=Hb;clear hc;refine kH H (Rm rfl ?_);clear H;intro a H;refine aH ⟨rfl,?_⟩;exact ku (by kernel_rfl) (vo eF) rfl rfl HT Hb hG hv (fun _ _ h=>h) (rfl) H
    ·intro eF oh bR a w G1 _ _ bS hc hG HT hv;have H:=HT;clear bS;have Hb:=H.full;have H:=Hb;clear hc;refine kH H (Rm rfl ?_);clear H;intro a H;refine aH ⟨rfl,?_⟩;exact ku (by kernel_rfl) (vo eF) rfl rfl HT Hb hG hv (fun _ _ h=>h) (rfl) H
    ·intro eF oh bR a w G1 _ _ bS hc hG HT hv;have H:=HT;clear bS;have Hb:=H.full;have H:=Hb;clear hc;refine kH H (Rm rfl ?_);clear H;intro a H;refine aH ⟨rfl,?_⟩;exact ku (by kernel_rfl) (vo eF) rfl rfl HT Hb hG hv (fun _ _ h=>h) (rfl) H
    ·intro eF oh bR a w G1 _ _ bS hc hG HT hv;have H:=HT;clear bS;have H:=H.aR (hv 2 26 (hc 2 (by decide)) rfl) rfl;have H:=H.aR (hv 3 27 (hc 3 (by decide)) rfl) rfl;have Hb:=H.full;have H:=Hb;clear hc;refine kH H (Ri kF gq rfl rfl ?_);clear H;intro a H;refine aH ⟨rfl,?_⟩;exact ku (by kernel_rfl) (vo eF) rfl rfl HT Hb hG hv (fun _ _ h=>h) (rfl) H
    ·intro eF oh bR a w G1 _ _ bS hc hG HT hv;have H:=HT;clear bS;have H:=H.aR (hv 4 28 (hc 4 (by decide)) rfl) rfl;have Hb:=H.full;have H:=Hb;clear hc;refine kH H (Rf nM rfl ?_);clear H;intro a H;refine aH ⟨rfl,?_⟩;exact ku (by kernel_rfl) (vo eF) rfl rfl HT Hb hG hv (fun _ _ h=>h) (rfl) H
    ·intro eF oh bR a w G1 _ _ bS hc hG HT hv;have H:=HT;clear bS;have H:=H.aR (hv 5 29 (hc 5 (by decide)) rfl) rfl;have Hb:=H.full;have H:=Hb;clear hc;refine kH H (Rg aC rfl (aK hG (hrow 1 _ rfl)) ?_);clear H;intro a H;refine aH ⟨rfl,?_⟩;exact ku (by kernel_rfl) (vo eF) rfl rfl HT Hb hG hv (fun _ _ h=>h) (rfl) H
    ·intro eF oh bR a w G1 _ _ bS hc hG HT hv;have H:=HT;clear bS;have Hb:=H.full;have H:=Hb;clear hc;refine kH H (Rm rfl ?_);clear H;intro a H;refine aH ⟨rfl,?_⟩;exact ku (by kernel_rfl) (vo eF) rfl rfl HT Hb hG hv (fun _ _ h=>h) (rfl) H
    ·intro eF oh bR a w G1 _ _ bS hc hG HT hv;have H:=HT;clear bS;have Hb:=H.full;have H:=Hb;clear hc;refine kH H (Rm rfl ?_);clear H;intro a H;refine aH ⟨rfl,?_⟩;exact ku (by kernel_rfl) (vo eF) rfl rfl HT Hb hG hv (fun _ _ h=>h) (rfl) H
    ·intro eF oh bR a w G1 _ _ bS hc hG HT hv;have H:=HT;clear bS;have H:=H.aR (hv 7 31 (hc 7 (by decide)) rfl) rfl;have H:=H.aR (hv 8 32 (hc 8 (by decide)) rfl) rfl;have Hb:=H.full;have H:=Hb;clear hc;refine kH H (Ri kF gq rfl rfl ?_);clear H;intro a H;refine aH ⟨rfl,?_⟩;exact ku (by kernel_rfl) (vo eF) rfl rfl HT Hb hG hv (fun _ _ h=>h) (rfl) H
    ·intro eF oh bR a w G1 _ _ bS hc hG HT hv;have H:=HT;clear bS;have H:=H.aR (hv 9 33 (hc 9 (by decide)) rfl) rfl;have Hb:=H.full;have H:=Hb;clear hc;refine kH H (Rf ou rfl ?_);clear H;intro a H;refine aH ⟨rfl,?_⟩;exact ku (by kernel_rfl) (vo eF) rfl rfl HT Hb hG hv (fun _ _ h=>h) (rfl) H
    ·intro eF oh bR a w G1 _ _ bS hc hG HT hv;have H:=HT;clear bS;have H:=H.aR (hv 10 34 (hc 10 (by decide)) rfl) rfl;have Hb:=H.full;have H:=Hb;clear hc;refine bD FM (cs:=[vi A[k].flow,vi A[k].at_]) H wn rfl rfl (fun j v hj=>H.hp.aI (aK hG (by match j,hj with|0,hj=>exact hrow 3 v hj|1,hj=>exact hrow 4 v hj))) rfl ?_;clear H;intro a H;refine aH ⟨rfl,?_⟩;exact ku (by kernel_rfl) (vo eF) rfl rfl HT Hb hG hv (fun _ _ h=>h) (rfl) H
    ·intro eF oh bR a w G1 _ _ bS hc hG HT hv;have H:=HT;clear bS;have H:=H.aR (hv 1 25 (hc 1 (by decide)) rfl) rfl;have H:=H.aR (hv 6 30 (hc 6 (by decide)) rfl) rfl;have H:=H.aR (hv 11 35 (hc 11 (by decide)) rfl) rfl;have Hb:=H.full;have H:=Hb;clear hc;refine iT Lg [_,_,_,_] H wn rfl rfl rfl rfl ?_;clear H;intro a H;refine aH ⟨rfl,?_⟩;exact ku (by kernel_rfl) (vo eF) rfl rfl HT Hb hG hv (fun _ _ h=>h) (rfl) H
    ·intro _ _ _ _ _ _ _ hB;exact absurd hB (by decide)
    ·intro _ _ _ _ _ _ hB;exact absurd hB (by decide)
    intro _ _ _ _ _ _ hB;exact absurd hB (by decide)
   ·clear H;intro o_ bR a w G1 xM _ hc hG HT hv;obtain rfl:_=o_:=Option.some.inj xM;clear xM;have H:=HT;have H:=H.aR (hv 0 12 36 (by decide) (hc 12 (by decide)) rfl) rfl;have Hb:=H.full;have H:=Hb;clear hc;refine gQ vI wH [_,_,_,_] [_,_,_,_] H wn rfl rfl rfl rfl rfl (by intro i q h;match i,h with|0,h=>exact h|n+1,h=>simp at h) rfl rfl ?_;clear H;intro Sy a w akV H;refine aH ⟨rfl,Sy,?_⟩;exact M6 (by kernel_rfl) rfl HT Hb hG (fun j e h1 h2 h3=>hv _ j e h1 h2 h3) (rfl) H
   clear H;intro Sy a w G qp H hv;have H:=H.aR (hv 0 24 rfl rfl) rfl;have H:=H.aR (hv 13 37 rfl rfl) rfl;clear hv;refine nU (Li:=[_]) (Lo:=Lo) (news:=[vi C,vi A[k].id,vi A[k].flow,vi A[k].at_]) vI wH rfl rfl H wn rfl rfl hrw rfl (H.hp.dS 0 rfl rfl) rfl (by omega) (by omega) rfl ?_;clear H;intro v38 Zw a w Vz H;rw [hC] at Vz;refine kH H (Ra rfl ?_);clear H;intro a H;refine aH ⟨rfl,?_⟩;refine K8 _ _ ?_;clear K8;refine kP H (SC (Rm rfl (Rd rfl (Ra rfl ?_))));clear H;intro a H;refine aH ?_;refine cu ((k+1,v38,Zw,_)) (by exact (H.dK (Pl:=[_]) (cB:=[]) [] (by decide) rfl).sub ⟨rfl,rfl,rfl,rfl,aD⟩) ?_ ?_
   ·(try dsimp only);exact ⟨by omega,by rw [DL,Cq,ah (by omega),KH,iA];exact Vz,fun b o h=>qp b o (sV b o (hgm b o h))⟩
   first|omega|(dsimp only;omega)
  intro h23 a H
  try have rU:=dF h23
  refine kP H (Kc K8 (SC (Rm rfl (Rd rfl (Ra rfl ?_)))));clear H K8;intro a H;refine aH ?_;refine cu ((k+1,_,Lo,_)) (by exact (H).sub ⟨rfl,rfl,rfl,rfl,aD⟩) ?_ ?_
  ·(try dsimp only);exact ⟨by omega,by rw [DL,Cq,au (by omega),mX];exact hrw,fun b o h=>sV b o (hgm b o h)⟩
  first|omega|(dsimp only;omega)
 intro mg a H
 try have qY:=dF mg
 obtain rfl:k=A.length:=by omega
 refine dU ?_;refine K4 _ _ ?_;clear K4;refine kP H (SQ fun _ bq=>SR fun _ bF=>ak bF rfl (SB ?_));clear H bF;intro a H;skip;refine eT (ι:=Nat × aj × OL) (Tc:=[(1,_),(4,_)]) (Lc:=[]) (fun gh=>[(3,gh.2.1),(7,vi gh.1)]) (fun gh=>[]++gh.2.2) (fun gh=>g) (fun gh=>gh.1≤cm.length∧dx 87 4 gh.2.1 (lS A cm A.length++pW A (cm.take gh.1)).length (Bd (lS A cm A.length++pW A (cm.take gh.1))) gh.2.2) (fun gh=>cm.length - gh.1) ((0,_,Lo)) (by exact (H).sub ⟨rfl,rfl,rfl,rfl,aD⟩) ?_ ?_
 ·exact ⟨iy _,by rw [List.take_zero,show pW A []=[] from rfl,mX];exact hrw⟩
 clear H;intro gh a w hI H;obtain ⟨j,v8,Da⟩:=gh;dsimp only at hI H;obtain ⟨hj,sZ⟩:=hI;have O1:=P8 A (cm.take j);rw [List.length_take] at O1;obtain ⟨v8A,v8c,rfl,-,-⟩:=sZ.shape;rw [iA] at sZ H;dsimp only [lca,bg] at H;refine kP H (SQ fun _ bJ=>SR fun _ bN=>Rm rfl (Rf xk rfl (Rf Ad rfl (Rg uI rfl (aK hgm hgd) (Rl tF rfl (Rc rfl (Kz bN (Cd rfl ?_ ?_)))))))) <;> clear H bN
 ·intro Du a H
  try have p44:=dT Du
  have hj2:j < cm.length:=by omega
  obtain ⟨b',o',rfl,hrow',-⟩:=EL (hcm0.mono hgm) hj2;refine kP H (Kc bJ (SQ fun _ cK=>SB (SR fun _ dw=>Rf xk rfl (Rf Ad rfl (Rg uI rfl (aK hgm hgd) (Rm rfl (Ri tF qF rfl rfl ?_)))))));clear H bJ;intro a H;refine bD qF (cs:=cm[j].cells) H wn rfl rfl (fun i v hi=>H.hp.aI (hrow' i v hi)) rfl ?_;clear H;intro a H;refine eB qF H wn rfl ?_;clear H;intro b8 a w Dz H;refine bH qF 0 (vs:=[_,_,_,_,_,_]) _ H wn rfl rfl rfl rfl rfl rfl rfl rfl ?_;clear H;intro w H;dsimp only [List.set,setRow] at H;refine dw _ _ ?_;clear dw;refine kP H (SR fun _ bY=>aP JL aC 0 rfl rfl (Rc rfl (Rm rfl (Sp 56 rfl ?_ ?_)))) <;> clear H
  ·intro vZ a H
   try have p56:=dT vZ
   refine kH H (YM vZ rfl (YF Ag vZ rfl (YO aC 0 vZ rfl ?_)));clear H;intro a H;refine s_call BL H (wg H rfl rfl vZ) rfl (BQ _ _ H.ro A _ 3 cm[j].id (hr.mono hgm) (by omega)) rfl ?_;clear H;rintro v60 _ a w ⟨rfl,rfl⟩ - H;refine kH H (YC vZ rfl (Pt vZ rfl (Kz bY (Cd rfl ?_ ?_)))) <;> clear H bY
   ·intro xE a H
    try have p62:=dT xE
    refine kP H (SC (Rm rfl (aP Ag aC 0 rfl rfl ?_)));clear H;intro a H;refine iT Lg [_,_,_,_] H wn rfl rfl rfl rfl ?_;clear H;intro a H;refine gQ vI wH [_,_,_,_] [_,_,_,_] H wn rfl rfl rfl rfl rfl (by intro i q h;match i,h with|0,h=>exact h|n+1,h=>simp at h) rfl rfl ?_;clear H;intro b67 a w akZ H;refine nU (Li:=[_,_]) (Lo:=Da) (news:=[vi 8,vi cm[j].id,vi 0,vi 0]) vI wH rfl rfl H wn rfl rfl sZ rfl (H.hp.dS 0 rfl rfl) rfl (by omega) (by omega) rfl ?_;clear H;intro v68 ZA a w agt H;refine kH H (aU cK rfl (SC (Rm rfl (Rd rfl (Ra rfl ?_)))));clear H cK;intro a H;refine aH ?_;refine cu ((j+1,v68,ZA)) (by exact (H.dK (Pl:=[_,_]) (cB:=[]) [] (by decide) rfl).sub ⟨rfl,rfl,rfl,rfl,aD⟩) ?_ ?_
    ·(try dsimp only);exact ⟨by omega,by rw [Xe hj2 (by unfold Bc;rw [iQ p56,Kt (by omega)];rfl),← oo,KH,iA,iA];exact agt⟩
    first|omega|(dsimp only;omega)
   intro xE a H
   try have p62:=dF xE
   refine kP H (Kc cK (SC (Rm rfl (Rd rfl (Ra rfl ?_)))));clear H cK;intro a H;refine aH ?_;refine cu ((j+1,_,Da)) (by exact (H.dK (Pl:=[_]) (cB:=[]) [] (by decide) rfl).sub ⟨rfl,rfl,rfl,rfl,aD⟩) ?_ ?_
   ·(try dsimp only);exact ⟨by omega,by rw [KJ hj2 (by unfold Bc;first|(rw [gL p56];rfl)|(obtain ⟨q,_,e1,e2⟩:=Fq (A:=A) (c:=3) (i:=cm[j].id) (by omega);rw [e2];simp)),iA];exact sZ⟩
   first|omega|(dsimp only;omega)
  intro vZ a H
  try have p56:=dF vZ
  refine kH H (aX vZ rfl (aQ vZ rfl (Pf vZ rfl (Kz bY (Cf rfl rfl (Kc cK (SC (Rm rfl (Rd rfl (Ra rfl ?_))))))))));clear H bY cK;intro a H;refine aH ?_;refine cu ((j+1,_,Da)) (by exact (H.dK (Pl:=[_]) (cB:=[]) [] (by decide) rfl).sub ⟨rfl,rfl,rfl,rfl,aD⟩) ?_ ?_
  ·(try dsimp only);exact ⟨by omega,by rw [KJ hj2 (by unfold Bc;first|(rw [gL p56];rfl)|(obtain ⟨q,_,e1,e2⟩:=Fq (A:=A) (c:=3) (i:=cm[j].id) (by omega);rw [e2];simp)),iA];exact sZ⟩
  first|omega|(dsimp only;omega)
 intro Du a H
 try have p44:=dF Du
 refine dU ?_;refine bq _ _ ?_;clear bq;refine kP H (SR fun _ dz=>Rm rfl (ak dz rfl ?_));clear H dz;intro a H;refine lr H results30 rfl ?_
 obtain rfl:j=cm.length:=by omega
 rw [wT,← iA] at sZ;obtain ⟨Gr,hmr,hrep,H⟩:=St.uo (Li:=[]) H sZ (rows:=(lS A cm A.length++pW A cm).map jZ.dat) (by simp) (P7 _ _);exact H.rt (by rw [wT];rw [iA] at hrep;exact hrep)
end
section
open Go.RowKit
theorem Uc:∀ args w,(callFunc 9 args).run prog w=.ok (.enter 9 args) w:=enters func9 rfl (by kernel_rfl)
theorem abP:∀ args w,(callFunc 10 args).run prog w=.ok (.enter 10 args) w:=enters func10 rfl (by kernel_rfl)
theorem acR:∀ args w,(callFunc 29 args).run prog w=.ok (.enter 29 args) w:=enters func29 rfl (by kernel_rfl)
theorem acS:∀ args w,(callFunc 30 args).run prog w=.ok (.enter 30 args) w:=enters func30 rfl (by kernel_rfl)
theorem Z7 {l:List aA} (h:wK l):(dL 0 0 l).Nodup:=by
 have h1:=(Jp 0 0 l h.ok).nodup h.vnd
 unfold List.Nodup at h1
 rw [List.pairwise_map] at h1;exact h1.imp fun hne e=>hne (by rw [e])
theorem Z4 {l:List aA} (h:wK l):∀ a∈dL 0 0 l,1≤a.code∧a.code≤4:=by
 intro a ha;obtain ⟨L,-,hok,p,x,q,rfl,h1,-,h3,-,-⟩:=Z5 h ha;have hf:=WS hok (List.mem_append_right p gD)
 unfold jU at hf
 split at hf
 ·cases hf
 rename_i h4
 rw [Bool.not_eq_true,Bool.or_eq_false_iff] at h4;have h5:=h4.2
 unfold codeOk at h5
 rw [ah (by omega),ah (by omega),au h1] at h5
 have h6:1≤x.code∧x.code≤4:=by simpa using h5
 omega
theorem abo {d:vL} (h:lY d=0):d.lT.comments.length≤1024:=by
 have h1:=qO h _ gD;have h2:=qO h1 _ gD;have h3:=qO h2 _ (jN _ (jN _ gD));have h4:=qO h3 _ gD
 unfold bV at h4
 by_cases hc:1024 < (d.lT.comments.length:Int)
 ·rw [iQ hc] at h4;cases h4
 omega
theorem adI:FX prog 87 [(0,0),(1,0),(2,2)]:=⟨by kernel_rfl,by kernel_rfl,by kernel_rfl,by kernel_rfl,by kernel_rfl⟩
theorem Xc {G:GH} {A:List jZ} {v:Option Addr} {n c k:Nat} (h:av G (.sl 4 (A.map jZ.dat)) (.slice v n c)) (hk:k < A.length):∃ b o,v=some ⟨b,o,none⟩∧∀ j u,A[k].cells[j]?=some u→aI G b (o+k*4+j)=some u:=by
 obtain ⟨b,o,cs,rfl,hcl,hrow,hr⟩:=h.at_ k A[k].dat (by simp [hk]);obtain rfl:=aii hr;exact ⟨b,o,rfl,hrow⟩
set_option maxHeartbeats 2000000 in
theorem air (G:GH) (w0:World) (hG:Hold G w0) (D:mI) (d:vL) (hR:CV G D d) (hz:IX d) :
  Calls prog 8 #[D.val] w0 (bE w0 G fun u G'=>u=.bool true):=by
 have DU:=hz.fl;have afe:=wP 0 0 d.flow;refine eN [(0,_)] func8 rfl ntmps8 rfl rfl hG ?_;intro a H;refine dB (fun _ K1=>?_);refine eU (cs:=[_,_,_,_,_,_,_,_,_,_,_]) H wn rfl rfl rfl ?_;clear H;intro b1 a w hb1 H;refine kH H (ak K1 rfl (SQ fun _ K2=>SQ fun _ K3=>?_));clear H K1;intro a H;obtain ⟨Ga,hma,hb1',H⟩:=H.dP;have hga:=fun j v hj=>xq hb1' 0 D.cells rfl j v hj;replace hR:=hR.mono hma;refine pE ?_;refine s_call Uc H wn rfl (V6 _ _ H.ro) rfl ?_;clear H;rintro v6 G6 a w rfl J7 H;replace hR:=hR.mono J7;replace hga:=fun j v hj=>aK J7 (hga j v hj);refine kH H (Rn rfl (Rm rfl (Sp 8 rfl ?_ ?_))) <;> clear H
 ·intro h8 a H
  exact absurd h8 (by decide)
 intro h8 a H
 try have p8:=dF h8
 first
 | (exfalso;omega)
 | (exact absurd h8 (by decide))
 |skip
  refine bD ru (cs:=D.cells) H (wg H rfl rfl h8) rfl rfl (fun j v hj=>H.hp.aI (hga j v hj)) rfl ?_;clear H;intro a H;refine s_call abP H (wg H rfl rfl h8) rfl (ajA _ _ H.ro D d hR hz) rfl ?_;clear H;rintro v10 wJ a w ⟨b10,rfl,Hl⟩ vg H;replace hR:=hR.mono vg;replace hga:=fun j v hj=>aK vg (hga j v hj);refine kH H (YN h8 rfl (Pf h8 rfl (Kn K3 (Cd rfl ?_ ?_)))) <;> clear H K3
  ·intro h12 a H
   try have qX:=dT h12
   first
   | (exfalso;omega)
   | (exact absurd h12 (by decide))
   |skip
    refine dB (fun _ K4=>?_);refine s_call Uc H wn rfl (V6 _ _ H.ro) rfl ?_;clear H;rintro v13 Eu a w rfl Hw H;exact kH H (ak K4 rfl (LR results8 rfl fun H=>H.rt rfl))
  intro h12 a H
  try have qX:=dF h12
  first
  | (exfalso;omega)
  | (exact absurd h12 (by decide))
  |skip
   refine gI ?_;refine K2 _ _ ?_;clear K2;refine bA (fun _ K5=>?_)
   have hc:lY d=0:=by first|exact Hl (by assumption)|(simp_all;done)
   have hok:=ahP hc;have hcl:=abo hc;obtain ⟨l,hl⟩:∃ l,l=d.flow:=⟨_,rfl⟩;obtain ⟨cm,hcm0⟩:∃ cm,cm=d.lT.comments:=⟨_,rfl⟩;have hfl:=hR.fl;have hcm:=hR.st.cm;rw [← hcm0] at hcm hcl;rw [← hl] at hok DU hfl afe;have hnd:=Z7 hok;have hcd:=Z4 hok;obtain ⟨A,hA⟩:∃ A,A=lS (dL 0 0 l) cm (dL 0 0 l).length++pW (dL 0 0 l) cm:=⟨_,rfl⟩
   have hAl:A.length≤4294967296:=by
    have h1:=Il (dL 0 0 l) cm (dL 0 0 l).length;have h2:=P8 (dL 0 0 l) cm;rw [hA,iA];omega
   have H6:∀ (bT:Nat) (v:aj) (G G':GH),(∀ k o,G k=some o→G' k=some o)→(fun (bT:Nat) (v:aj) (G:GH)=>match bT with|0=>v=.agg D.cells.toArray|1=>av G (.sl 4 (A.map jZ.dat)) v|2=>v=.agg D.cells.toArray|3=>av G (.sl 4 (A.map jZ.dat)) v|_=>True) bT v G→(fun (bT:Nat) (v:aj) (G:GH)=>match bT with|0=>v=.agg D.cells.toArray|1=>av G (.sl 4 (A.map jZ.dat)) v|2=>v=.agg D.cells.toArray|3=>av G (.sl 4 (A.map jZ.dat)) v|_=>True) bT v G':=by
    intro bT v G G' hm h
    match bT,h with
    | 0,h=>exact h
    | 1,h=>exact av.mono hm h
    | 2,h=>exact h
    | 3,h=>exact av.mono hm h
    | 4,h=>exact trivial
    | 5,h=>exact trivial
    | _+6,h=>exact trivial
   refine BK (hmx) [[],[0],[],[0,1,2],(ra 0 4),(ra 0 5)] [4,5] (by kernel_rfl) (by kernel_rfl) (fun (bT:Nat) (v:aj) (G:GH)=>match bT with|0=>v=.agg D.cells.toArray|1=>av G (.sl 4 (A.map jZ.dat)) v|2=>v=.agg D.cells.toArray|3=>av G (.sl 4 (A.map jZ.dat)) v|_=>True) H6 H ?_ ?_
   ·clear H;refine aF ?_ ?_ ?_ ?_ (aS (bK rfl) (aS (bK rfl) bX))
    ·refine dQ [] rfl trivial (by kernel_rfl) H6 rfl rfl ?_;intro bR a w G1 hG HT H fin;refine bD ru (cs:=D.cells) H wn rfl rfl (fun j v hj=>H.hp.aI (aK hG (hga j v hj))) rfl ?_;clear H;intro a H;exact fin H iJ rfl
    ·refine dQ [(0,14,_)] rfl ⟨fun _ _ h=>h,aD⟩ (by kernel_rfl) H6 rfl rfl ?_;intro bR a w G1 hG HT H fin;refine s_call acR H wn rfl (aiq _ _ H.ro D l cm (hfl.mono hG) (hcm.mono hG) hok.ok (by omega) (by omega) hcd) rfl ?_;clear H;rintro v15 BD a w qy Ao H;rw [← hA] at qy;exact fin H Ao (qy)
    ·refine dQ [] rfl trivial (by kernel_rfl) H6 rfl rfl ?_;intro bR a w G1 hG HT H fin;refine bD ru (cs:=D.cells) H wn rfl rfl (fun j v hj=>H.hp.aI (aK hG (hga j v hj))) rfl ?_;clear H;intro a H;exact fin H iJ rfl
    refine dQ [(2,16,_)] rfl ⟨fun _ _ h=>h,aD⟩ (by kernel_rfl) H6 rfl rfl ?_;intro bR a w G1 hG HT H fin;refine s_call acS H wn rfl (ahy _ _ H.ro D l cm (hfl.mono hG) (hcm.mono hG) hok.ok (by omega) (by omega) hnd hcd) rfl ?_;clear H;rintro v17 uL a w wh NY H;rw [← hA] at wh;exact fin H NY (wh)
   clear H;intro a w G UQ H hv;obtain ⟨u15,Pg,qy⟩:=hv 1 15 (by decide) rfl;(try dsimp only at qy);obtain ⟨A3,n3,c3,rfl⟩:=qy.form;have xL:=qy.len;rw [bQ] at xL;subst xL;have H:=H.kI Pg;obtain ⟨u17,agz,wh⟩:=hv 3 17 (by decide) rfl;(try dsimp only at wh);obtain ⟨A4,n4,c4,rfl⟩:=wh.form;have OT:=wh.len;rw [bQ] at OT;subst OT;have H:=H.kI agz;clear hv;refine kH H (Ra rfl (Ra rfl ?_));clear H;intro a H;refine aH ⟨rfl,?_⟩;refine K5 _ _ ?_;clear K5;refine bA (fun _ K6=>?_);refine bA (fun _ K7=>?_);replace qy:av G (.sl 4 (A.map jZ.dat)) (.slice A3 A.length c3):=qy;replace wh:av G (.sl 4 (A.map jZ.dat)) (.slice A4 A.length c4):=wh;refine kP H (SC (Rm rfl (Rl vI rfl (Rm rfl (Rl vI rfl (Rc rfl (Kn K7 (Cd rfl ?_ ?_)))))))) <;> clear H K7
   ·intro h22 a H
    exact absurd h22 (by simp)
   intro h22 a H
   try have iw:=dF h22
   first
   | (exfalso;omega)
   | (exact absurd h22 (by decide))
   |skip
    refine kP H (Kc K6 (SQ fun _ K8=>SR fun _ K9=>ak K9 rfl (SB ?_)));clear H K6 K9;intro a H;skip;refine eT (ι:=Nat × GH) (Tc:=[(3,_),(4,_)]) (Lc:=[]) (fun gh=>[(5,vi gh.1)]) (fun gh=>[]) (fun gh=>gh.2) (fun gh=>gh.1≤A.length∧(∀ b o,G b=some o→gh.2 b=some o)) (fun gh=>A.length - gh.1) ((0,G)) (by exact (H).sub ⟨rfl,rfl,rfl,aD⟩) ?_ ?_
    ·exact ⟨iy _,fun _ _ h=>h⟩
    clear H;intro gh a w hI H;obtain ⟨k,g⟩:=gh;dsimp only at hI H;obtain ⟨hk,hgm⟩:=hI;dsimp only [lca,bg] at H;refine kP H (SQ fun _ aT=>SR fun _ bq=>Rm rfl (Rm rfl (Rl vI rfl (Rc rfl (Kz bq (Cd rfl ?_ ?_)))))) <;> clear H bq
    ·intro fq a H
     try have p26:=dT fq
     first
     | (exfalso;omega)
     | (exact absurd fq (by decide))
     |skip
      have hk2:k < A.length:=by omega
      obtain ⟨b,o,rfl,hrow⟩:=Xc (qy.mono hgm) hk2;obtain ⟨b',o',rfl,hrow'⟩:=Xc (wh.mono hgm) hk2;refine kP H (Kc aT (SQ fun _ bF=>SB (SQ fun _ bJ=>?_)));clear H aT;intro a H;refine dI hmx [[],[],[0,1],[0,1,2],[],[],[4,5],[4,5,6],(ra 0 8)] [] (by kernel_rfl) [_,_,_,.agg A[k].cells.toArray,_,_,_,.agg A[k].cells.toArray,.bool false] H (aF (Z0 rfl (Rm rfl)) (Z0 rfl (Rm rfl)) (Z2 0 29 1 30 rfl (Ri vI wH rfl rfl)) ?_ (aF (Z0 rfl (Rm rfl)) (Z0 rfl (Rm rfl)) (Z2 4 33 5 34 rfl (Ri vI wH rfl rfl)) ?_ (aS ?_ bX))) ?_
      ·refine dR 2 31 rfl rfl fun _ a w G1 hG HT H fin=>?_;refine bD wH (cs:=A[k].cells) H wn rfl rfl (fun j v hj=>H.hp.aI (aK hG (hrow j v hj))) rfl ?_;clear H;intro a H;exact fin H iJ rfl
      ·refine dR 6 35 rfl rfl fun _ a w G1 hG HT H fin=>?_;refine bD wH (cs:=A[k].cells) H wn rfl rfl (fun j v hj=>H.hp.aI (aK hG (hrow' j v hj))) rfl ?_;clear H;intro a H;exact fin H iJ rfl
      ·refine dG 3 32 7 36 rfl rfl fun _ a w G1 hG HT H fin=>?_;refine Lb adI H wn rfl rfl rfl rfl ?_;clear H;intro a H;exact fin H iJ (aG (by simp [jv,jI]))
      clear H;intro a w G Hf H hv;have H:=H.aR (hv 8 37 rfl rfl) rfl;clear hv;refine aH ⟨rfl,?_⟩;refine bJ _ _ ?_;clear bJ;refine kS H rfl rfl ?_;refine kP H (Kc bF (SC (Rm rfl (Rd rfl (Ra rfl ?_)))));clear H bF;intro a H;refine aH ?_;refine cu ((k+1,_)) (by exact (H).sub ⟨rfl,rfl,rfl,aD⟩) ?_ ?_
      ·(try dsimp only);exact ⟨by omega,fun b o h=>Hf b o (hgm b o h)⟩
      first|omega|(dsimp only;omega)
    intro fq a H
    try have p26:=dF fq
    first
    | (exfalso;omega)
    | (exact absurd fq (by decide))
    |skip
     refine dU ?_;refine K8 _ _ ?_;clear K8;exact kP H (SR fun _ bN=>ak bN rfl (LR results8 rfl fun H=>H.rt rfl))
end
section
open Go.ChangeShapes Go.RowKit Go.Deep
abbrev oK (W:World):GH:=fun k=>W.heap[k]?
theorem aeL {W:World} {b o:Nat} {v:aj} (h:W.cell? ⟨b,o,none⟩=some v):aI (oK W) b o=some v:=by
 unfold World.cell? at h
 unfold aI oK
 split at h
 ·rename_i c e f hh
  simp only at hh
  rw [hh];simpa using h
 cases h
theorem Wd {α:Type} {p:Nat→α→Prop}:∀ n:Nat,(∀ i,i < n→∃ x,p i x)→∃ l:List α,l.length=n∧∀ i x,l[i]?=some x→p i x
 | 0,_=>⟨[],rfl,fun i x h=>by simp at h⟩
 | n+1,h=>by
  obtain ⟨l,hl,hp⟩:=Wd n (fun i hi=>h i (by omega));obtain ⟨x,hx⟩:=h n (by omega);refine ⟨l++[x],by simp [hl],fun i y hy=>?_⟩
  by_cases hi:i < l.length
  ·exact hp i y (by rwa [vO hi] at hy)
  rw [wS (by omega)] at hy
  have hin:i - l.length=0:=by
   have:=(jk.1 hy).1
   simp at this;omega
  rw [hin] at hy
  simp only [BI,nK] at hy
  subst hy;rw [show i=n by omega];exact hx
theorem aal {H:Type} (d:DataW H):1≤Rows.uptoBulk d:=by
 cases d <;> (try simp only [Rows.uptoBulk]) <;> (try omega)
 rename_i x;cases x <;> simp only [Rows.uptoBulk] <;> omega
theorem SH {H ρ:Type} {dat:ρ→List Dat}:∀ (rs:List ρ) (D:Nat→DataW H),(∀ i r,rs[i]?=some r→dh (dat r)+1≤8*Rows.uptoBulk (D i))→eX (rs.map dat)≤8*Rows.uptoBulkAll ((List.range rs.length).map D)
 | [],D,_=>iy _
 | r :: rs,D,h=>by
  have h0:=h 0 r rfl;have hp:=aal (D 0);have ih:=SH rs (fun i=>D (i+1)) (fun i r hr=>h (i+1) r (by simpa using hr));rw [nL,List.range_succ_eq_map]
  simp only [eZ,List.map_map,eX,Rows.uptoBulkAll]
  have e:(List.map (D ∘ Nat.succ) (List.range rs.length))=(List.map (fun i=>D (i+1)) (List.range rs.length)):=rfl;rw [e];omega
theorem SG {H:Type} {D:Nat→DataW H}:∀ {n i:Nat},i < n→Rows.uptoBulk (D i)≤Rows.uptoBulkAll ((List.range n).map D)
 | 0,i,h=>absurd h (by omega)
 | n+1,i,h=>by
  have key:∀ (l m:List (DataW H)),Rows.uptoBulkAll (l++m)=Rows.uptoBulkAll l+Rows.uptoBulkAll m:=by
   intro l m
   induction l with
   | nil=>simp [Rows.uptoBulkAll]
   | cons x l ih=>simp only [mW,Rows.uptoBulkAll,ih];omega
  rw [List.range_succ,mZ,key]
  by_cases hi:i < n
  ·have:=SG (D:=D) hi;omega
  have:i=n:=by omega
  subst this
  simp only [eZ,qj,Rows.uptoBulkAll];omega
section
variable {H:Type} {enc:TypeId × aj→H} {P:Program} {W:World} {base:Nat} {spare:Nat→Bool} {held:Bool}
theorem tu {ρ:Type} {dat:ρ→List Dat} {t e:TypeId} {sz:Nat} (hsz:0 < sz) {fuel:Nat} {cs:List aj} {x:DataW H × List MemPlace} (ht:P.underlying t=some (.slice e)) (hc:P.cellsOf e=sz) (h:DataW.trod enc P W base spare held fuel t cs=some x)
  (row:∀ n cs' D Pl,DataW.trod enc P W base spare held n e cs'=some (D,Pl)→Rows.uptoBulk D < Rows.uptoBulk x.1→∃ r:ρ,aZ (oK W) (dat r) cs'∧dh (dat r)+1≤8*Rows.uptoBulk D) :
  ∃ (rs:List ρ) (v:aj),cs=[v]∧av (oK W) (.sl sz (rs.map dat)) v∧eX (rs.map dat)+8≤8*Rows.uptoBulk x.1:=by
 rcases open_slice ht h with ⟨rfl,rfl⟩|⟨a,len,cap,m,n,D,Pl,rfl,hb,hl,hm,hmm,rfl,hx⟩
 ·exact ⟨[],_,rfl,av.jw rfl (by decide),by simp [eX,Rows.uptoBulk]⟩
 obtain ⟨rs,hrl,hrs⟩:=Wd (p:=fun i (r:ρ)=>∃ cs',W.cells? base (a.add (i*sz)) sz=some cs'∧aZ (oK W) (dat r) cs'∧dh (dat r)+1≤8*Rows.uptoBulk (D i)) len (fun i hi=>by
  have him:i < m:=by rw [hmm];split <;> omega
  obtain ⟨cs',h1,h2⟩:=hx i him;rw [hc] at h1;have hb1:=SG (D:=D) hi;obtain ⟨r,hr1,hr2⟩:=row n cs' (D i) (Pl i) h2 (by simp only [Rows.uptoBulk];omega)
  exact ⟨r,cs',h1,hr1,hr2⟩)
 refine ⟨rs,_,rfl,?_,?_⟩
 ·simp only [av,bQ]
  refine ⟨some a,cap,by rw [hrl],by omega,hm,fun hne=>?_⟩;obtain ⟨b,off,spot⟩:=a
  have hlen:0 < rs.length:=by cases rs with|nil=>simp at hne|cons _ _=>simp
  obtain ⟨cs0,h1,-,-⟩:=hrs 0 rs[0] (gY hlen);obtain ⟨-,hl0,hg0⟩:=World.cells?_some h1
  have hspot:spot=none:=by
   have h3:=hg0 0 hsz;rw [gY (by omega)] at h3
   simpa [Addr.add] using World.cell?_spot h3
  subst hspot;refine ⟨b,off,rfl,kX.mk fun k r hk=>?_⟩;rw [qL] at hk;obtain ⟨y,hy,rfl⟩:=lK.1 hk;obtain ⟨cs',h2,h3,-⟩:=hrs k y hy;obtain ⟨-,hl1,hg1⟩:=World.cells?_some h2;refine ⟨cs',hl1,fun j u hj=>aeL ?_,h3⟩
  have hj2:j < sz:=by rw [← hl1];exact (jk.1 hj).1
  have:=hg1 j hj2;rw [add_add,Go.WideShapes.add_plain] at this;rw [show off+k*sz+j=off+(k*sz+j) by omega,this];exact hj
 have:=SH rs D (fun i r hr=>(hrs i r hr).choose_spec.2.2);rw [hrl] at this
 simp only [Rows.uptoBulk];omega
end
structure qK (P:Program) (t:TypeId) (sz:Nat) (fs:List (TypeId × Nat × Nat)):Prop where
 und:P.underlying t=some (.struct (P.fieldsOf t))
 cells:P.cellsOf t=sz
 um:(P.fieldsOf t).toList.map (fun f=>(f.type,f.offset,P.cellsOf f.type))=fs
theorem rV {P:Program} {H:Type} {enc:TypeId × aj→H} {W:World} {base:Nat} {spare:Nat→Bool} {held:Bool} {t:TypeId} {sz fuel:Nat} {fs:List (TypeId × Nat × Nat)} {cs:List aj} {x:DataW H × List MemPlace} (hs:qK P t sz fs) (h:DataW.trod enc P W base spare held fuel t cs=some x) :
  ∃ (xs:List (DataW H × List MemPlace)) (n:Nat),x.1=.agg (xs.map (·.1))∧cs.length=sz∧xs.length=fs.length∧∀ (i:Nat) (ti:TypeId) (off k:Nat),fs[i]?=some (ti,off,k)→DataW.trod enc P W base spare held n ti ((cs.drop off).take k)=xs[i]?:=by
 obtain ⟨xs,n,-,rfl,hl,hxl,hf⟩:=DataW.trod_struct hs.und h;refine ⟨xs,n,rfl,by rw [hl,hs.cells],by rw [hxl,← hs.um];simp,fun i ti off k hi=>?_⟩;rw [← hs.um,qL] at hi;obtain ⟨f,hf1,hf2⟩:=lK.1 hi
 simp only [gP] at hf2
 obtain ⟨rfl,rfl,rfl⟩:=hf2;exact hf i f (by simpa using hf1)
section
variable {H:Type} {enc:TypeId × aj→H} {W:World} {base:Nat} {spare:Nat→Bool} {held:Bool}
theorem ajs:qK prog 187 2 [(3,0,1),(3,1,1)]:=⟨by kernel_rfl,by kernel_rfl,by kernel_rfl⟩
theorem Xm {n:Nat} {cs:List aj} {D:DataW H} {Pl:List MemPlace} (h:DataW.trod enc prog W base spare held n 187 cs=some (D,Pl)):∃ r:iF,aZ (oK W) r.dat cs∧dh r.dat+1≤8*Rows.uptoBulk D:=by
 obtain ⟨xs,m,hx,hl,hxl,hf⟩:=rV ajs h
 match cs,hl,xs,hxl with
 | [c0,c1],_,[y0,y1],_ =>
  have h0:=hf 0 _ _ _ rfl;have h1:=hf 1 _ _ _ rfl;obtain ⟨k0,e0,d0,-⟩:=DataW.trod_int underlying3 h0;obtain ⟨k1,e1,d1,-⟩:=DataW.trod_int underlying3 h1
  simp at e0 e1
  subst e0 e1
  simp only at hx
  refine ⟨⟨k0,k1⟩,?_,?_⟩
  ·simp [aZ,iF.dat,av,Value.oneCell']
  rw [hx];simp [d0,d1,iF.dat,dh,oP,Rows.uptoBulk,Rows.uptoBulkAll]
theorem ajl:qK prog 190 2 [(3,0,1),(3,1,1)]:=⟨by kernel_rfl,by kernel_rfl,by kernel_rfl⟩
theorem aiu {n:Nat} {cs:List aj} {D:DataW H} {Pl:List MemPlace} (h:DataW.trod enc prog W base spare held n 190 cs=some (D,Pl)):∃ r:jy,aZ (oK W) r.dat cs∧dh r.dat+1≤8*Rows.uptoBulk D:=by
 obtain ⟨xs,m,hx,hl,hxl,hf⟩:=rV ajl h
 match cs,hl,xs,hxl with
 | [c0,c1],_,[y0,y1],_ =>
  have h0:=hf 0 _ _ _ rfl;have h1:=hf 1 _ _ _ rfl;obtain ⟨k0,e0,d0,-⟩:=DataW.trod_int underlying3 h0;obtain ⟨k1,e1,d1,-⟩:=DataW.trod_int underlying3 h1
  simp at e0 e1
  subst e0 e1
  simp only at hx
  refine ⟨⟨k0,k1⟩,?_,?_⟩
  ·simp [aZ,jy.dat,av,Value.oneCell']
  rw [hx];simp [d0,d1,jy.dat,dh,oP,Rows.uptoBulk,Rows.uptoBulkAll]
theorem ajo:qK prog 199 4 [(3,0,1),(3,1,1),(3,2,1),(4,3,1)]:=⟨by kernel_rfl,by kernel_rfl,by kernel_rfl⟩
theorem aix {n:Nat} {cs:List aj} {D:DataW H} {Pl:List MemPlace} (h:DataW.trod enc prog W base spare held n 199 cs=some (D,Pl)):∃ r:jd,aZ (oK W) r.dat cs∧dh r.dat+1≤8*Rows.uptoBulk D:=by
 obtain ⟨xs,m,hx,hl,hxl,hf⟩:=rV ajo h
 match cs,hl,xs,hxl with
 | [c0,c1,c2,c3],_,[y0,y1,y2,y3],_ =>
  have h0:=hf 0 _ _ _ rfl;have h1:=hf 1 _ _ _ rfl;have h2:=hf 2 _ _ _ rfl;have h3:=hf 3 _ _ _ rfl;obtain ⟨k0,e0,d0,-⟩:=DataW.trod_int underlying3 h0;obtain ⟨k1,e1,d1,-⟩:=DataW.trod_int underlying3 h1;obtain ⟨k2,e2,d2,-⟩:=DataW.trod_int underlying3 h2;obtain ⟨k3,e3,d3⟩:=DataW.trod_bool underlying4 h3
  simp at e0 e1 e2 e3
  subst e0 e1 e2 e3
  simp only at hx
  refine ⟨⟨k0,k1,k2,k3⟩,?_,?_⟩
  ·simp [aZ,jd.dat,av,Value.oneCell']
  rw [hx];simp [d0,d1,d2,d3,jd.dat,dh,oP,Rows.uptoBulk,Rows.uptoBulkAll]
theorem ajr:qK prog 27 4 [(3,0,1),(3,1,1),(24,2,1),(25,3,1)]:=⟨by kernel_rfl,by kernel_rfl,by kernel_rfl⟩
theorem ajm:qK prog 29 5 [(23,0,1),(27,1,4)]:=⟨by kernel_rfl,by kernel_rfl,by kernel_rfl⟩
theorem SY:prog.cellsOf 187=2:=by kernel_rfl
theorem aaz:prog.cellsOf 190=2:=by kernel_rfl
theorem aaA:prog.cellsOf 199=4:=by kernel_rfl
theorem KP {n:Nat} {cs:List aj} {x:DataW H × List MemPlace} (h:DataW.trod enc prog W base spare held n 29 cs=some x):∃ (r:iE) (p d l:aj),cs=[p,vi r.marks.ins,vi r.marks.move,d,l]∧jF (oK W) r p d l∧qd r+15≤8*Rows.uptoBulk x.1:=by
 obtain ⟨xs,m,hx,hl,hxl,hf⟩:=rV ajm h
 match cs,hl,xs,hxl with
 | [c0,c1,c2,c3,c4],_,[y0,y1],_ =>
  have h0:=hf 0 _ _ _ rfl;have h1:=hf 1 _ _ _ rfl;obtain ⟨ps,pv,e0,rp,sp⟩:=tu (dat:=iF.dat) (sz:=2) (by omega) underlying23 SY h0 (fun n cs' D Pl hh _=>Xm hh);obtain ⟨zs,m2,hz,hzl,hzx,DU⟩:=rV ajr h1
  match zs,hzx with
  | [z0,z1,z2,z3],_ =>
   have g0:=DU 0 _ _ _ rfl;have g1:=DU 1 _ _ _ rfl;have g2:=DU 2 _ _ _ rfl;have g3:=DU 3 _ _ _ rfl;obtain ⟨k0,e1,d0,-⟩:=DataW.trod_int underlying3 g0;obtain ⟨k1,e2,d1,-⟩:=DataW.trod_int underlying3 g1;obtain ⟨ds,dv,e3,rd,sd⟩:=tu (dat:=jy.dat) (sz:=2) (by omega) underlying24 aaz g2 (fun n cs' D Pl hh _=>aiu hh);obtain ⟨ls,lv,e4,rl,sl⟩:=tu (dat:=jd.dat) (sz:=4) (by omega) underlying25 aaA g3 (fun n cs' D Pl hh _=>aix hh)
   simp at e0 e1 e2 e3 e4
   subst e0 e1 e2 e3 e4;refine ⟨⟨ps,⟨k0,k1,ds,ls⟩⟩,_,_,_,rfl,⟨rp,rd,rl⟩,?_⟩;have hzh:=IJ ⟨ps,⟨k0,k1,ds,ls⟩⟩
   simp only at hzh
   rw [hx]
   simp only [eZ,qj,Rows.uptoBulk,Rows.uptoBulkAll,hz,d0,d1]
   omega
theorem ajn:qK prog 63 11 [(3,0,1),(3,1,1),(3,2,1),(9,3,1),(29,4,5),(22,9,1),(61,10,1)]:=⟨by kernel_rfl,by kernel_rfl,by kernel_rfl⟩
theorem ajt:qK prog 96 6 [(29,0,5),(94,5,1)]:=⟨by kernel_rfl,by kernel_rfl,by kernel_rfl⟩
theorem ajj:qK prog 98 7 [(3,0,1),(29,1,5),(22,6,1)]:=⟨by kernel_rfl,by kernel_rfl,by kernel_rfl⟩
theorem MP:prog.cellsOf 63=11:=by kernel_rfl
theorem aaD:prog.cellsOf 96=6:=by kernel_rfl
theorem aax:prog.cellsOf 98=7:=by kernel_rfl
theorem Xl:∀ (N:Nat) (n:Nat) (cs:List aj) (D:DataW H) (Pl:List MemPlace),DataW.trod enc prog W base spare held n 63 cs=some (D,Pl)→Rows.uptoBulk D < N→∃ r:aA,aZ (oK W) r.dat cs∧dh r.dat+1≤8*Rows.uptoBulk D
 | 0,_,_,_,_,_,hN=>absurd hN (by omega)
 | N+1,n,cs,D,Pl,h,hN=>by
  have ih:=Xl N;obtain ⟨xs,m,hx,hl,hxl,hf⟩:=rV ajn h
  match cs,hl,xs,hxl with
  | [c0,c1,c2,c3,c4,c5,c6,c7,c8,c9,c10],_,[y0,y1,y2,y3,y4,y5,y6],_ =>
   have h0:=hf 0 _ _ _ rfl;have h1:=hf 1 _ _ _ rfl;have h2:=hf 2 _ _ _ rfl;have h3:=hf 3 _ _ _ rfl;have h4:=hf 4 _ _ _ rfl;have h5:=hf 5 _ _ _ rfl;have h6:=hf 6 _ _ _ rfl
   simp only at hx
   have hD:Rows.uptoBulk D=Rows.uptoBulk y0.1+(Rows.uptoBulk y1.1+(Rows.uptoBulk y2.1+(Rows.uptoBulk y3.1+(Rows.uptoBulk y4.1+(Rows.uptoBulk y5.1+(Rows.uptoBulk y6.1+0))))))+1:=by
    rw [hx];simp only [eZ,qj,Rows.uptoBulk,Rows.uptoBulkAll]
   obtain ⟨k0,e0,d0,-⟩:=DataW.trod_int underlying3 h0;obtain ⟨k1,e1,d1,-⟩:=DataW.trod_int underlying3 h1;obtain ⟨k2,e2,d2,-⟩:=DataW.trod_int underlying3 h2;obtain ⟨s,e3,d3,-⟩:=DataW.trod_string underlying9 h3;obtain ⟨hd,p,d,l,e4,rh,sh⟩:=KP h4;obtain ⟨fl,fv,e5,rf,sf⟩:=tu (dat:=aA.dat) (sz:=11) (by omega) underlying22 MP h5 (fun n cs' D' cB hh hlt=>ih n cs' D' cB hh (by omega))
   obtain ⟨rs,rv,e6,rr,sr⟩:=tu (dat:=bO.dat) (sz:=6) (by omega) underlying61 aaD h6 (fun n cs' D' cB hh hlt=>by
    obtain ⟨xs,m,hx,hl,hxl,hf⟩:=rV ajt hh
    match cs',hl,xs,hxl with
    | [a0,a1,a2,a3,a4,a5],_,[w0,w1],_ =>
     have g0:=hf 0 _ _ _ rfl;have g1:=hf 1 _ _ _ rfl
     simp only at hx
     have hD':Rows.uptoBulk D'=Rows.uptoBulk w0.1+(Rows.uptoBulk w1.1+0)+1:=by
      rw [hx];simp only [eZ,qj,Rows.uptoBulk,Rows.uptoBulkAll]
     obtain ⟨hd2,p2,d2',l2,q0,rh2,sh2⟩:=KP g0
     obtain ⟨cl,cv,q1,rc,sc⟩:=tu (dat:=bM.dat) (sz:=7) (by omega) underlying94 aax g1 (fun n cs'' Y5 akI hh2 hlt2=>by
      obtain ⟨xs,m,hx2,hl2,agH,hf2⟩:=rV ajj hh2
      match cs'',hl2,xs,agH with
      | [b0,b1,b2,b3,b4,b5,b6],_,[v0,v1,v2],_ =>
       have u0:=hf2 0 _ _ _ rfl;have u1:=hf2 1 _ _ _ rfl;have u2:=hf2 2 _ _ _ rfl
       simp only at hx2
       have akM:Rows.uptoBulk Y5=Rows.uptoBulk v0.1+(Rows.uptoBulk v1.1+(Rows.uptoBulk v2.1+0))+1:=by
        rw [hx2];simp only [eZ,qj,Rows.uptoBulk,Rows.uptoBulkAll]
       obtain ⟨j0,t0,z0,-⟩:=DataW.trod_int underlying3 u0;obtain ⟨hd3,p3,d3',l3,t1,rh3,sh3⟩:=KP u1;obtain ⟨NH,fv3,t2,rf3,sf3⟩:=tu (dat:=aA.dat) (sz:=11) (by omega) underlying22 MP u2 (fun n cs3 D3 ZI hh3 hlt3=>ih n cs3 D3 ZI hh3 (by omega))
       simp at t0 t1 t2
       obtain ⟨rfl,rfl,rfl,rfl,rfl⟩:=t1;subst t0 t2;have hz:=Bw (bM.mk j0 hd3 NH)
       simp only [bM.head,bM.flow] at hz
       have bz:Rows.uptoBulk v0.1=1:=by rw [z0];rfl
       exact ⟨bM.mk j0 hd3 NH,aZ.Wz (x:=bM.mk j0 hd3 NH) rh3 rf3,by simp only [bC] at hz;omega⟩)
     simp at q0 q1
     obtain ⟨rfl,rfl,rfl,rfl,rfl⟩:=q0;subst q1;have hz:=Bz (bO.mk hd2 cl)
     simp only [bO.head,bO.cells] at hz
     exact ⟨bO.mk hd2 cl,aZ.WA (x:=bO.mk hd2 cl) rh2 rc,by simp only [jm] at hz;omega⟩)
   simp at e0 e1 e2 e3 e4 e5 e6
   obtain ⟨rfl,rfl,rfl,rfl,rfl⟩:=e4;subst e0 e1 e2 e3 e5 e6;have hz:=oU (aA.mk k0 k1 k2 s hd fl rs)
   simp only [aA.text,aA.head,aA.flow,aA.rows] at hz
   have b0:Rows.uptoBulk y0.1=1:=by rw [d0];rfl
   have b1:Rows.uptoBulk y1.1=1:=by rw [d1];rfl
   have b2:Rows.uptoBulk y2.1=1:=by rw [d2];rfl
   have b3:Rows.uptoBulk y3.1=s.size+1:=by rw [d3];show s.data.toList.length+1=s.data.size+1;rw [uN]
   exact ⟨aA.mk k0 k1 k2 s hd fl rs,aZ.mkItem (x:=aA.mk k0 k1 k2 s hd fl rs) rh rf rr,by simp only [bC,ig] at hz;omega⟩
theorem aiw {n:Nat} {cs:List aj} {x:DataW H × List MemPlace} (h:DataW.trod enc prog W base spare held n 22 cs=some x):∃ (l:List aA) (v:aj),cs=[v]∧av (oK W) (.sl 11 (l.map aA.dat)) v∧bC l+8≤8*Rows.uptoBulk x.1 :=
 tu (dat:=aA.dat) (sz:=11) (by omega) underlying22 MP h (fun n cs' D' cB hh _=>Xl _ n cs' D' cB hh (Nat.lt_succ_self _))
end
end
section
open Go.ChangeShapes Go.RowKit Go.Deep
theorem El {ρ:Type} {dat:ρ→List Dat}:∀ {l:List ρ} {x:ρ},x∈l→dh (dat x)+1≤eX (l.map dat)
 | y :: l,x,h=>by
  rw [eZ,eX]
  rcases kZ.1 h with rfl|h
  ·omega
  have:=El (dat:=dat) h;omega
section
variable {H:Type} {enc:TypeId × aj→H} {W:World} {base:Nat} {spare:Nat→Bool} {held:Bool}
theorem ajw:qK prog 181 6 [(3,0,1),(3,1,1),(9,2,1),(3,3,1),(3,4,1),(23,5,1)]:=⟨by kernel_rfl,by kernel_rfl,by kernel_rfl⟩
theorem aaF:prog.cellsOf 181=6:=by kernel_rfl
theorem aiC {n:Nat} {cs:List aj} {D:DataW H} {Pl:List MemPlace} (h:DataW.trod enc prog W base spare held n 181 cs=some (D,Pl)):∃ r:bL,aZ (oK W) r.dat cs∧dh r.dat+1≤8*Rows.uptoBulk D:=by
 obtain ⟨xs,m,hx,hl,hxl,hf⟩:=rV ajw h
 match cs,hl,xs,hxl with
 | [c0,c1,c2,c3,c4,c5],_,[y0,y1,y2,y3,y4,y5],_ =>
  have h0:=hf 0 _ _ _ rfl;have h1:=hf 1 _ _ _ rfl;have h2:=hf 2 _ _ _ rfl;have h3:=hf 3 _ _ _ rfl;have h4:=hf 4 _ _ _ rfl;have h5:=hf 5 _ _ _ rfl
  simp only at hx
  have hD:Rows.uptoBulk D=Rows.uptoBulk y0.1+(Rows.uptoBulk y1.1+(Rows.uptoBulk y2.1+(Rows.uptoBulk y3.1+(Rows.uptoBulk y4.1+(Rows.uptoBulk y5.1+0)))))+1:=by rw [hx];simp only [eZ,qj,Rows.uptoBulk,Rows.uptoBulkAll]
  obtain ⟨k0,e0,d0,-⟩:=DataW.trod_int underlying3 h0;obtain ⟨k1,e1,d1,-⟩:=DataW.trod_int underlying3 h1;obtain ⟨k2,e2,d2,-⟩:=DataW.trod_string underlying9 h2;obtain ⟨k3,e3,d3,-⟩:=DataW.trod_int underlying3 h3;obtain ⟨k4,e4,d4,-⟩:=DataW.trod_int underlying3 h4;obtain ⟨k5,q5,e5,r5,d5⟩:=tu (dat:=iF.dat) (sz:=2) (by omega) underlying23 SY h5 (fun n cs' D Pl hh _=>Xm hh)
  simp at e0 e1 e2 e3 e4 e5
  subst e0 e1 e2 e3 e4 e5
  have b0:Rows.uptoBulk y0.1=1:=by rw [d0];rfl
  have b1:Rows.uptoBulk y1.1=1:=by rw [d1];rfl
  have b2:Rows.uptoBulk y2.1=k2.size+1:=by rw [d2];show k2.data.toList.length+1=k2.data.size+1;rw [uN]
  have b3:Rows.uptoBulk y3.1=1:=by rw [d3];rfl
  have b4:Rows.uptoBulk y4.1=1:=by rw [d4];rfl
  refine ⟨⟨k0,k1,k2,k3,k4,k5⟩,?_,?_⟩
  ·exact ⟨_,_,rfl,(by simp [av,Value.oneCell']),⟨_,_,rfl,(by simp [av,Value.oneCell']),⟨_,_,rfl,(by simp [av,Value.oneCell']),⟨_,_,rfl,(by simp [av,Value.oneCell']),⟨_,_,rfl,(by simp [av,Value.oneCell']),⟨_,_,rfl,r5,rfl⟩⟩⟩⟩⟩⟩
  simp only [bL.dat,dh,oP];omega
theorem ajq:qK prog 230 4 [(3,0,1),(3,1,1),(9,2,1),(3,3,1)]:=⟨by kernel_rfl,by kernel_rfl,by kernel_rfl⟩
theorem aaC:prog.cellsOf 230=4:=by kernel_rfl
theorem aiy {n:Nat} {cs:List aj} {D:DataW H} {Pl:List MemPlace} (h:DataW.trod enc prog W base spare held n 230 cs=some (D,Pl)):∃ r:oG,aZ (oK W) r.dat cs∧dh r.dat+1≤8*Rows.uptoBulk D:=by
 obtain ⟨xs,m,hx,hl,hxl,hf⟩:=rV ajq h
 match cs,hl,xs,hxl with
 | [c0,c1,c2,c3],_,[y0,y1,y2,y3],_ =>
  have h0:=hf 0 _ _ _ rfl;have h1:=hf 1 _ _ _ rfl;have h2:=hf 2 _ _ _ rfl;have h3:=hf 3 _ _ _ rfl
  simp only at hx
  have hD:Rows.uptoBulk D=Rows.uptoBulk y0.1+(Rows.uptoBulk y1.1+(Rows.uptoBulk y2.1+(Rows.uptoBulk y3.1+0)))+1:=by rw [hx];simp only [eZ,qj,Rows.uptoBulk,Rows.uptoBulkAll]
  obtain ⟨k0,e0,d0,-⟩:=DataW.trod_int underlying3 h0;obtain ⟨k1,e1,d1,-⟩:=DataW.trod_int underlying3 h1;obtain ⟨k2,e2,d2,-⟩:=DataW.trod_string underlying9 h2;obtain ⟨k3,e3,d3,-⟩:=DataW.trod_int underlying3 h3
  simp at e0 e1 e2 e3
  subst e0 e1 e2 e3
  have b0:Rows.uptoBulk y0.1=1:=by rw [d0];rfl
  have b1:Rows.uptoBulk y1.1=1:=by rw [d1];rfl
  have b2:Rows.uptoBulk y2.1=k2.size+1:=by rw [d2];show k2.data.toList.length+1=k2.data.size+1;rw [uN]
  have b3:Rows.uptoBulk y3.1=1:=by rw [d3];rfl
  refine ⟨⟨k0,k1,k2,k3⟩,?_,?_⟩
  ·exact ⟨_,_,rfl,(by simp [av,Value.oneCell']),⟨_,_,rfl,(by simp [av,Value.oneCell']),⟨_,_,rfl,(by simp [av,Value.oneCell']),⟨_,_,rfl,(by simp [av,Value.oneCell']),rfl⟩⟩⟩⟩
  simp only [oG.dat,dh,oP];omega
theorem ajp:qK prog 184 2 [(3,0,1),(182,1,1)]:=⟨by kernel_rfl,by kernel_rfl,by kernel_rfl⟩
theorem aaB:prog.cellsOf 184=2:=by kernel_rfl
theorem aiz {n:Nat} {cs:List aj} {D:DataW H} {Pl:List MemPlace} (h:DataW.trod enc prog W base spare held n 184 cs=some (D,Pl)):∃ r:fU,aZ (oK W) r.dat cs∧dh r.dat+1≤8*Rows.uptoBulk D:=by
 obtain ⟨xs,m,hx,hl,hxl,hf⟩:=rV ajp h
 match cs,hl,xs,hxl with
 | [c0,c1],_,[y0,y1],_ =>
  have h0:=hf 0 _ _ _ rfl;have h1:=hf 1 _ _ _ rfl
  simp only at hx
  have hD:Rows.uptoBulk D=Rows.uptoBulk y0.1+(Rows.uptoBulk y1.1+0)+1:=by rw [hx];simp only [eZ,qj,Rows.uptoBulk,Rows.uptoBulkAll]
  obtain ⟨k0,e0,d0,-⟩:=DataW.trod_int underlying3 h0;obtain ⟨k1,q1,e1,r1,d1⟩:=tu (dat:=oG.dat) (sz:=4) (by omega) underlying182 aaC h1 (fun n cs' D Pl hh _=>aiy hh)
  simp at e0 e1
  subst e0 e1
  have b0:Rows.uptoBulk y0.1=1:=by rw [d0];rfl
  refine ⟨⟨k0,k1⟩,?_,?_⟩
  ·exact ⟨_,_,rfl,(by simp [av,Value.oneCell']),⟨_,_,rfl,r1,rfl⟩⟩
  simp only [fU.dat,dh,oP];omega
theorem ajk:qK prog 67 6 [(3,0,1),(3,1,1),(9,2,1),(3,3,1),(9,4,1),(4,5,1)]:=⟨by kernel_rfl,by kernel_rfl,by kernel_rfl⟩
theorem aay:prog.cellsOf 67=6:=by kernel_rfl
theorem ait {n:Nat} {cs:List aj} {D:DataW H} {Pl:List MemPlace} (h:DataW.trod enc prog W base spare held n 67 cs=some (D,Pl)):∃ r:eO,aZ (oK W) r.dat cs∧dh r.dat+1≤8*Rows.uptoBulk D:=by
 obtain ⟨xs,m,hx,hl,hxl,hf⟩:=rV ajk h
 match cs,hl,xs,hxl with
 | [c0,c1,c2,c3,c4,c5],_,[y0,y1,y2,y3,y4,y5],_ =>
  have h0:=hf 0 _ _ _ rfl;have h1:=hf 1 _ _ _ rfl;have h2:=hf 2 _ _ _ rfl;have h3:=hf 3 _ _ _ rfl;have h4:=hf 4 _ _ _ rfl;have h5:=hf 5 _ _ _ rfl
  simp only at hx
  have hD:Rows.uptoBulk D=Rows.uptoBulk y0.1+(Rows.uptoBulk y1.1+(Rows.uptoBulk y2.1+(Rows.uptoBulk y3.1+(Rows.uptoBulk y4.1+(Rows.uptoBulk y5.1+0)))))+1:=by rw [hx];simp only [eZ,qj,Rows.uptoBulk,Rows.uptoBulkAll]
  obtain ⟨k0,e0,d0,-⟩:=DataW.trod_int underlying3 h0;obtain ⟨k1,e1,d1,-⟩:=DataW.trod_int underlying3 h1;obtain ⟨k2,e2,d2,-⟩:=DataW.trod_string underlying9 h2;obtain ⟨k3,e3,d3,-⟩:=DataW.trod_int underlying3 h3;obtain ⟨k4,e4,d4,-⟩:=DataW.trod_string underlying9 h4;obtain ⟨k5,e5,d5⟩:=DataW.trod_bool underlying4 h5
  simp at e0 e1 e2 e3 e4 e5
  subst e0 e1 e2 e3 e4 e5
  have b0:Rows.uptoBulk y0.1=1:=by rw [d0];rfl
  have b1:Rows.uptoBulk y1.1=1:=by rw [d1];rfl
  have b2:Rows.uptoBulk y2.1=k2.size+1:=by rw [d2];show k2.data.toList.length+1=k2.data.size+1;rw [uN]
  have b3:Rows.uptoBulk y3.1=1:=by rw [d3];rfl
  have b4:Rows.uptoBulk y4.1=k4.size+1:=by rw [d4];show k4.data.toList.length+1=k4.data.size+1;rw [uN]
  have b5:Rows.uptoBulk y5.1=1:=by rw [d5];rfl
  refine ⟨⟨k0,k1,k2,k3,k4,k5⟩,?_,?_⟩
  ·exact ⟨_,_,rfl,(by simp [av,Value.oneCell']),⟨_,_,rfl,(by simp [av,Value.oneCell']),⟨_,_,rfl,(by simp [av,Value.oneCell']),⟨_,_,rfl,(by simp [av,Value.oneCell']),⟨_,_,rfl,(by simp [av,Value.oneCell']),⟨_,_,rfl,(by simp [av,Value.oneCell']),rfl⟩⟩⟩⟩⟩⟩
  simp only [eO.dat,dh,oP];omega
theorem ajx:qK prog 219 2 [(9,0,1),(9,1,1)]:=⟨by kernel_rfl,by kernel_rfl,by kernel_rfl⟩
theorem aaG:prog.cellsOf 219=2:=by kernel_rfl
theorem aiD {n:Nat} {cs:List aj} {D:DataW H} {Pl:List MemPlace} (h:DataW.trod enc prog W base spare held n 219 cs=some (D,Pl)):∃ r:lV,aZ (oK W) r.dat cs∧dh r.dat+1≤8*Rows.uptoBulk D:=by
 obtain ⟨xs,m,hx,hl,hxl,hf⟩:=rV ajx h
 match cs,hl,xs,hxl with
 | [c0,c1],_,[y0,y1],_ =>
  have h0:=hf 0 _ _ _ rfl;have h1:=hf 1 _ _ _ rfl
  simp only at hx
  have hD:Rows.uptoBulk D=Rows.uptoBulk y0.1+(Rows.uptoBulk y1.1+0)+1:=by rw [hx];simp only [eZ,qj,Rows.uptoBulk,Rows.uptoBulkAll]
  obtain ⟨k0,e0,d0,-⟩:=DataW.trod_string underlying9 h0;obtain ⟨k1,e1,d1,-⟩:=DataW.trod_string underlying9 h1
  simp at e0 e1
  subst e0 e1
  have b0:Rows.uptoBulk y0.1=k0.size+1:=by rw [d0];show k0.data.toList.length+1=k0.data.size+1;rw [uN]
  have b1:Rows.uptoBulk y1.1=k1.size+1:=by rw [d1];show k1.data.toList.length+1=k1.data.size+1;rw [uN]
  refine ⟨⟨k0,k1⟩,?_,?_⟩
  ·exact ⟨_,_,rfl,(by simp [av,Value.oneCell']),⟨_,_,rfl,(by simp [av,Value.oneCell']),rfl⟩⟩
  simp only [lV.dat,dh,oP];omega
theorem aju:qK prog 176 3 [(3,0,1),(9,1,1),(3,2,1)]:=⟨by kernel_rfl,by kernel_rfl,by kernel_rfl⟩
theorem aaE:prog.cellsOf 176=3:=by kernel_rfl
theorem aiA {n:Nat} {cs:List aj} {D:DataW H} {Pl:List MemPlace} (h:DataW.trod enc prog W base spare held n 176 cs=some (D,Pl)):∃ r:fH,aZ (oK W) r.dat cs∧dh r.dat+1≤8*Rows.uptoBulk D:=by
 obtain ⟨xs,m,hx,hl,hxl,hf⟩:=rV aju h
 match cs,hl,xs,hxl with
 | [c0,c1,c2],_,[y0,y1,y2],_ =>
  have h0:=hf 0 _ _ _ rfl;have h1:=hf 1 _ _ _ rfl;have h2:=hf 2 _ _ _ rfl
  simp only at hx
  have hD:Rows.uptoBulk D=Rows.uptoBulk y0.1+(Rows.uptoBulk y1.1+(Rows.uptoBulk y2.1+0))+1:=by rw [hx];simp only [eZ,qj,Rows.uptoBulk,Rows.uptoBulkAll]
  obtain ⟨k0,e0,d0,-⟩:=DataW.trod_int underlying3 h0;obtain ⟨k1,e1,d1,-⟩:=DataW.trod_string underlying9 h1;obtain ⟨k2,e2,d2,-⟩:=DataW.trod_int underlying3 h2
  simp at e0 e1 e2
  subst e0 e1 e2
  have b0:Rows.uptoBulk y0.1=1:=by rw [d0];rfl
  have b1:Rows.uptoBulk y1.1=k1.size+1:=by rw [d1];show k1.data.toList.length+1=k1.data.size+1;rw [uN]
  have b2:Rows.uptoBulk y2.1=1:=by rw [d2];rfl
  refine ⟨⟨k0,k1,k2⟩,?_,?_⟩
  ·exact ⟨_,_,rfl,(by simp [av,Value.oneCell']),⟨_,_,rfl,(by simp [av,Value.oneCell']),⟨_,_,rfl,(by simp [av,Value.oneCell']),rfl⟩⟩⟩
  simp only [fH.dat,dh,oP];omega
theorem ajv:qK prog 36 4 [(31,0,1),(32,1,1),(33,2,1),(34,3,1)]:=⟨by kernel_rfl,by kernel_rfl,by kernel_rfl⟩
structure Mv (s:zS) (n:Nat):Prop where
 st:eX (s.styles.map bL.dat)≤n
 li:eX (s.lists.map fU.dat)≤n
 cm:eX (s.comments.map eO.dat)≤n
 va:eX (s.vars.map lV.dat)≤n
theorem Mv.zn {s:zS} {n:Nat} (h:Mv s n) (hn:n≤4294967296):Mw s∧s.styles.length≤4294967296:=by
 obtain ⟨h1,h2,h3,h4⟩:=h;have l1:=rZ (s.styles.map bL.dat);have l2:=rZ (s.lists.map fU.dat);have l3:=rZ (s.comments.map eO.dat);have l4:=rZ (s.vars.map lV.dat);rw [bQ] at l1 l2 l3 l4;refine ⟨⟨fun x hx=>?_,by omega,fun x hx y hy=>?_,by omega,fun x hx=>?_,by omega,fun x hx=>?_⟩,by omega⟩
 ·have:=El (dat:=bL.dat) hx
  simp only [bL.dat,dh,oP] at this;omega
 ·have:=El (dat:=fU.dat) hx
  simp only [fU.dat,dh,oP] at this
  have h5:=El (dat:=oG.dat) hy
  simp only [oG.dat,dh,oP] at h5;omega
 ·have:=El (dat:=eO.dat) hx
  simp only [eO.dat,dh,oP] at this;omega
 have:=El (dat:=lV.dat) hx
 simp only [lV.dat,dh,oP] at this;omega
theorem aiB {n:Nat} {cs:List aj} {x:DataW H × List MemPlace} (h:DataW.trod enc prog W base spare held n 36 cs=some x):∃ (s:zS) (a b c d:aj),cs=[a,b,c,d]∧EB (oK W) s a b c d∧Mv s (8*Rows.uptoBulk x.1):=by
 obtain ⟨xs,m,hx,hl,hxl,hf⟩:=rV ajv h
 match cs,hl,xs,hxl with
 | [c0,c1,c2,c3],_,[y0,y1,y2,y3],_ =>
  have h0:=hf 0 _ _ _ rfl;have h1:=hf 1 _ _ _ rfl;have h2:=hf 2 _ _ _ rfl;have h3:=hf 3 _ _ _ rfl;obtain ⟨k0,q0,e0,r0,d0⟩:=tu (dat:=bL.dat) (sz:=6) (by omega) underlying31 aaF h0 (fun n cs' D Pl hh _=>aiC hh);obtain ⟨k1,q1,e1,r1,d1⟩:=tu (dat:=fU.dat) (sz:=2) (by omega) underlying32 aaB h1 (fun n cs' D Pl hh _=>aiz hh);obtain ⟨k2,q2,e2,r2,d2⟩:=tu (dat:=eO.dat) (sz:=6) (by omega) underlying33 aay h2 (fun n cs' D Pl hh _=>ait hh);obtain ⟨k3,q3,e3,r3,d3⟩:=tu (dat:=lV.dat) (sz:=2) (by omega) underlying34 aaG h3 (fun n cs' D Pl hh _=>aiD hh)
  simp at e0 e1 e2 e3
  subst e0 e1 e2 e3
  have hD:Rows.uptoBulk x.1=Rows.uptoBulk y0.1+(Rows.uptoBulk y1.1+(Rows.uptoBulk y2.1+(Rows.uptoBulk y3.1+0)))+1:=by rw [hx];simp only [eZ,qj,Rows.uptoBulk,Rows.uptoBulkAll]
  exact ⟨⟨k0,k1,k2,k3⟩,_,_,_,_,rfl,⟨r0,r1,r2,r3⟩,⟨by show eX (k0.map _)≤_;omega,by show eX (k1.map _)≤_;omega,by show eX (k2.map _)≤_;omega,by show eX (k3.map _)≤_;omega⟩⟩
theorem XO:qK prog 38 11 [(22,0,1),(29,1,5),(30,6,1),(36,7,4)]:=⟨by kernel_rfl,by kernel_rfl,by kernel_rfl⟩
theorem Bl {G:GH} {sz:Nat} {rs:List (List Dat)} {v:aj} (h:av G (.sl sz rs) v):∃ x,v=eD x:=by
 obtain ⟨a,n,c,rfl⟩:=h.form;exact ⟨(a,n,c),rfl⟩
theorem aiv {n:Nat} {cs:List aj} {x:DataW H × List MemPlace} (h:DataW.trod enc prog W base spare held n 38 cs=some x) (hb:Rows.uptoBulk x.1≤1048576):∃ (D:mI) (d:vL),cs=D.cells∧CV (oK W) D d∧IX d:=by
 obtain ⟨xs,m,hx,hl,hxl,hf⟩:=rV XO h
 match cs,hl,xs,hxl with
 | [c0,c1,c2,c3,c4,c5,c6,c7,c8,c9,c10],_,[y0,y1,y2,y3],_ =>
  have h0:=hf 0 _ _ _ rfl;have h1:=hf 1 _ _ _ rfl;have h2:=hf 2 _ _ _ rfl;have h3:=hf 3 _ _ _ rfl;obtain ⟨l,q0,e0,r0,d0⟩:=aiw h0;obtain ⟨hd,p,dd,ll,e1,r1,d1⟩:=KP h1;obtain ⟨rv,q2,e2,r2,d2⟩:=tu (dat:=fH.dat) (sz:=3) (by omega) underlying30 aaE h2 (fun n cs' D Pl hh _=>aiA hh);obtain ⟨s,a,b,c,d,e3,r3,d3⟩:=aiB h3
  simp at e0 e1 e2 e3
  obtain ⟨rfl,rfl,rfl,rfl,rfl⟩:=e1;obtain ⟨rfl,rfl,rfl,rfl⟩:=e3;subst e0 e2
  have hD:Rows.uptoBulk x.1=Rows.uptoBulk y0.1+(Rows.uptoBulk y1.1+(Rows.uptoBulk y2.1+(Rows.uptoBulk y3.1+0)))+1:=by rw [hx];simp only [eZ,qj,Rows.uptoBulk,Rows.uptoBulkAll]
  obtain ⟨x0,rfl⟩:=Bl r0;obtain ⟨x1,rfl⟩:=Bl r1.props;obtain ⟨x2,rfl⟩:=Bl r1.cO;obtain ⟨x3,rfl⟩:=Bl r1.layers;obtain ⟨x4,rfl⟩:=Bl r2;obtain ⟨x5,rfl⟩:=Bl r3.st;obtain ⟨x6,rfl⟩:=Bl r3.li;obtain ⟨x7,rfl⟩:=Bl r3.cm;obtain ⟨x8,rfl⟩:=Bl r3.va;obtain ⟨hz1,hz2⟩:=d3.zn (by omega);have l2:=rZ (rv.map fH.dat);rw [bQ] at l2;refine ⟨⟨x0,x1,x2,x3,x4,x5,x6,x7,x8,hd.marks.ins,hd.marks.move⟩,⟨l,hd,rv,s⟩,rfl,⟨r0,r1,rfl,rfl,r2,r3⟩,⟨by show bC l≤_;omega,by show qd hd≤_;omega,by show rv.length≤_;omega,fun x hx=>?_,hz2,hz1⟩⟩;have:=El (dat:=fH.dat) hx
  simp only [fH.dat,dh,oP] at this
  omega
end
end
end Go.Proofs.YteopmoocmoigcaaGreat
