/-
  What the claim stands on, part 4: Nck Cid Mt Ehd Hdr Hea Frm Itc Vis Okd Ubf Av16 Mz Vn15 Sp16 Cl Avi16 Gco Lst16 En Spn16.
-/
import Derived.Test.YteopmoocmoigcaaGreatWvc
namespace Go.Proofs.YteopmoocmoigcaaGreat
open Go.Proofs.Tryz
section
open Go.RowKit
theorem zC:prog.underlying 145=some (.map 3 4):=by kernel_rfl
theorem Eb:Ty prog 176 3 32 [.int .i64 0,.string ⟨#[]⟩,.int .i64 0] true:=⟨by kernel_rfl,by kernel_rfl⟩
theorem akp:qm prog 147 [(0,1),(1,1),(2,1),(3,1),(4,1),(5,1)] [.map none,.map none,.map none,.map none,.map none,.int .i64 0]:=⟨by kernel_rfl,by kernel_rfl⟩
theorem JL:bY prog 38 3 7:=⟨by kernel_rfl⟩
theorem GK:bY prog 147 0 0:=⟨by kernel_rfl⟩
theorem Iu:Ty prog 114 1 8 [.map none] false:=⟨by kernel_rfl,by kernel_rfl⟩
theorem Un:bY prog 147 1 1:=⟨by kernel_rfl⟩
theorem zx:Ty prog 145 1 8 [.map none] false:=⟨by kernel_rfl,by kernel_rfl⟩
theorem Nr:bY prog 38 2 6:=⟨by kernel_rfl⟩
theorem Ce:Ty prog 30 1 24 [.slice none 0 0] false:=⟨by kernel_rfl,by kernel_rfl⟩
theorem Ci:prog.underlying 30=some (.slice 176):=by kernel_rfl
theorem GL:bY prog 147 2 2:=⟨by kernel_rfl⟩
theorem Uq:bY prog 176 0 0:=⟨by kernel_rfl⟩
structure fG where
 id:Int
 author:ByteArray
 time:Int
def fG.dat (x:fG):List Dat:=[li x.id,.lf (.string x.author),li x.time]
abbrev fG.cells (x:fG):List aj:=[vi x.id,.string x.author,vi x.time]
theorem ajx {G:GH} {x:fG} {cs:List aj} (h:aZ G x.dat cs):cs=x.cells:=by
 simp only [fG.dat,aZ,av] at h
 obtain ⟨_,_,rfl,⟨rfl,_⟩,_,_,rfl,⟨rfl,_⟩,_,_,rfl,⟨rfl,_⟩,rfl⟩:=h
 rfl
theorem Qj {G:GH} {l:List fG} {A:Option Addr} {n c k:Nat} (hv:av G (.sl 3 (l.map fG.dat)) (.slice A n c)) (hk:k < l.length):∃ b o,A=some ⟨b,o,none⟩∧(∀ j u,l[k].cells[j]?=some u→aL G b (o+k*3+j)=some u):=by
 obtain ⟨A',c',he,_,_,hg⟩:=hv.slice
 injection he with e1 e2 e3
 subst e1;obtain ⟨b,o,cs,h1,h2,h3,h4⟩:=hg k l[k].dat (by simp [hk]);have:=ajx h4;subst this;exact ⟨b,o,h1,h3⟩
abbrev fJ (b ms ml mr mb mu:Nat) (n:Int):Nat × Obj:=(b,.cells #[.map (some ms),.map (some ml),.map (some mr),.map (some mb),.map (some mu),vi n] 147 (0,0))
def ze (l:List bR):List (Int × aj):=l.map fun s=>(s.id,vi s.kind)
def fM (l:List Int):List (Int × aj):=l.map fun k=>(k,.bool true)
structure tH (G:GH) (st:List bR) (li:List fV) (rv:List fG) (ms ml mr mu:Nat):Prop where
 sty:G ms=some (fH (ze st))
 xS:G ml=some (fH (fM (li.map fV.id)))
 rev:G mr=some (fH (fM (rv.map fG.id)))
 use:G mu=some (fH [])
theorem tH.mono {G G':GH} {st:List bR} {li:List fV} {rv:List fG} {ms ml mr mu:Nat} (h:tH G st li rv ms ml mr mu) (hm:∀ b o,G b=some o→G' b=some o):tH G' st li rv ms ml mr mu:=⟨hm _ _ h.sty,hm _ _ h.xS,hm _ _ h.rev,hm _ _ h.use⟩
def zH (l:List Int):Prop:=∀ (k:Nat) (h:k < l.length),l[k]∉l.take k
theorem aik {l:List bR} {k:Nat} (h:k < l.length):ze (l.take (k+1))=ze (l.take k)++[(l[k].id,vi l[k].kind)]:=by rw [ze,jF h,lG];rfl
theorem WQ {l:List Int} {k:Nat} (h:k < l.length):fM (l.take (k+1))=fM (l.take k)++[(l[k],.bool true)]:=by rw [fM,jF h,lG];rfl
theorem aij {l:List bR} {k:Nat} (f:zH (l.map bR.id)) (h:k < l.length):qX l[k].id (ze (l.take k))=none:=by
 refine KA ?_;have:=f k (by simpa using h)
 simpa [ze,List.map_take,List.map_map,Function.comp_def] using this
theorem WO {l:List Int} {k:Nat} (f:zH l) (h:k < l.length):qX l[k] (fM (l.take k))=none:=by
 refine KA ?_;have:=f k h
 simpa [fM,List.map_map,Function.comp_def] using this
theorem aiB (G:GH) (w0:World) (hO:gX G [] w0) (D:nE) (st:List bR) (li:List fV) (rv:List fG) (hst:av G (.sl 6 (st.map bR.dat)) (fI D.s1)) (Ho:av G (.sl 2 (li.map fV.dat)) (fI D.s2)) (xL:av G (.sl 3 (rv.map fG.dat)) (fI D.r))
  (f1:zH (st.map bR.id)) (f2:zH (li.map fV.id)) (f3:zH (rv.map fG.id)) (z1:st.length≤4294967296) (z2:li.length≤4294967296) (z3:rv.length≤4294967296) :
  Calls prog 57 #[D.val] w0 (gH w0 G [] fun u G' L'=>∃ b ms ml mr mb mu,u=(aJ b 0)∧L'=[fJ b ms ml mr mb mu 0,(mb,fH [])]∧tH G' st li rv ms ml mr mu):=by
 obtain ⟨df,dp,dd,dy,⟨rA,rn,rc⟩,⟨sA,sn,sc⟩,⟨lA,ln,lc⟩,d3,d4,ins,mv⟩:=D;dsimp only at hst Ho xL
 obtain rfl:sn=st.length:=by have:=hst.len;simpa using this
 obtain rfl:ln=li.length:=by have:=Ho.len;simpa using this
 obtain rfl:rn=rv.length:=by have:=xL.len;simpa using this
 have hml:maxLen=9223372036854775807:=rfl;refine kg (N:=64) (T:=[(0,_)]) func57 rfl ntmps57 rfl rfl hO ?_;intro a H;refine dH (fun _ K1=>?_);refine fq (cs:=[_,_,_,_,_,_,_,_,_,_,_]) H wn rfl rfl rfl ?_;clear H;intro b1 a w hb1 H;refine kH H (ak K1 rfl (SQ fun _ K2=>?_));clear H K1;intro a H;obtain ⟨Ga,hma,hb1',H⟩:=H.dS
 have hc7:aL Ga b1 7=some (.slice sA st.length sc):=by unfold aL;rw [hb1'];rfl
 have hc8:aL Ga b1 8=some (.slice lA li.length lc):=by unfold aL;rw [hb1'];rfl
 have hc6:aL Ga b1 6=some (.slice rA rv.length rc):=by unfold aL;rw [hb1'];rfl
 replace hst:=hst.mono hma;replace Ho:=Ho.mono hma;replace xL:=xL.mono hma;refine nY ?_;refine D8 H wn rfl ?_;clear H;intro b10 a w Ot H;refine D8 H wn rfl ?_;clear H;intro b11 a w JY H;refine D8 H wn rfl ?_;clear H;intro b12 a w BD H;refine D8 H wn rfl ?_;clear H;intro b13 a w JZ H;refine D8 H wn rfl ?_;clear H;intro b14 a w Ou H;refine ku akp [_,_,_,_,_,_] H wn rfl rfl rfl rfl ?_;clear H;intro a H;refine fq (cs:=[_,_,_,_,_,_]) H wn rfl rfl rfl ?_;clear H;intro b16 a w Ve H;refine kH H (aV K2 rfl (SQ fun _ K3=>SR fun _ K4=>Rf JL rfl (Rf Np rfl (Rg sF rfl (by assumption) ?_))));clear H K2;intro a H;refine kH H (Rl nC rfl (Rm rfl (Kz K4 (SB ?_))));clear H K4;intro a H;skip;refine eU (ι:=Nat × GH) (Tc:=[(1,_),(3,_),(19,_),(20,_)]) (Lc:=[(_,_),(_,_),(_,_),(_,_),(_,_)]) (fun gh=>[(21,vi gh.1)]) (fun gh=>[(b10,fH (ze (st.take gh.1)))]) (fun gh=>gh.2) (fun gh=>gh.1≤st.length∧(∀ b o,Ga b=some o→gh.2 b=some o)) (fun gh=>st.length - gh.1) ((0,Ga)) (by exact (H).sub ⟨rfl,rfl,rfl,rfl,rfl,aD⟩) ?_ ?_
 ·exact ⟨ig _,fun _ _ h=>h⟩
 clear H;intro gh a w hI H;obtain ⟨k,g1⟩:=gh;dsimp only at hI H;obtain ⟨hk,E5⟩:=hI;dsimp only [lca,bD] at H;refine kP H (SR fun _ K5=>Rc rfl (Kz K5 (SQ fun _ K6=>Cd rfl ?_ ?_))) <;> clear H K5
 ·intro h22 a H
  try have iA:=dT h22
  have hk2:k < st.length:=by omega
  obtain ⟨xb,xo,pA,pc,rfl,hrow,-,-⟩:=AV (hst.mono E5) hk2;have hnew:=aij f1 hk2;refine kP H (Kc K6 (SQ fun _ K7=>SB (SR fun _ K8=>Ri nC kC rfl rfl ?_)));clear H K6;intro a H;refine bK kC (cs:=_) H wn rfl rfl (fun j v hj=>H.hp.aL (hrow j v hj)) rfl ?_;clear H;intro a H;refine eZ kC H wn rfl ?_;clear H;intro b5 a w hb5 H;refine bM kC 0 (vs:=[_,_,_,_,_,_]) _ H wn rfl rfl rfl rfl rfl rfl rfl rfl ?_;clear H;intro w H;dsimp only [List.set,setRow] at H;refine K8 _ _ ?_;clear K8;refine dI hmx [[],[0],[0,1],[0,1,2],[],[4],[],[6],(ra 0 8)] [8] (by kernel_rfl) [_,_,_,.map (some b10),_,vi st[k].id,_,vi st[k].kind] H (aG (Z0 rfl (Rm rfl)) (Z1 0 25 rfl (Rk rfl)) (Z1 1 26 rfl (Rf GK rfl)) (Z1 2 27 rfl (Ro Iu 1 rfl)) (aG (Z0 rfl (Rf tX rfl)) (Z1 4 29 rfl (Ro aH 0 rfl)) (Z0 rfl (Rf wh rfl)) (Z1 6 31 rfl (Ro aH 0 rfl)) (aU (bN rfl) bZ))) ?_
  clear H;intro a w G lM H hv;have H:=H.aQ (hv 3 28 rfl rfl) rfl;have H:=H.aQ (hv 5 30 rfl rfl) rfl;have H:=H.aQ (hv 7 32 rfl rfl) rfl;clear hv;refine KY (i:=6) Ef nD H wn rfl rfl rfl rfl hnew ?_;clear H;intro w H;dsimp only [List.set,List.append,lca,bD] at H;rw [← aik hk2] at H;refine aI ⟨rfl,?_⟩;refine K7 _ _ ?_;clear K7;refine kP H (SC (Rd rfl (Rm rfl ?_)));clear H;intro a H;refine aI ?_;refine cK ((k+1,G)) (by exact (H.dV (Pl:=[_,_,_,_,_,_,_]) (dz:=[_,_,_,_,_,_]) [1,2,3,4,5,6] (by decide) rfl).sub ⟨rfl,rfl,rfl,rfl,rfl,aD⟩) ?_ ?_
  ·(try dsimp only);exact ⟨by omega,fun b o h=>lM b o (E5 b o h)⟩
  first|omega|(dsimp only;omega)
 intro h22 a H
 try have iA:=dF h22
 obtain rfl:k=st.length:=by omega
 rw [uP] at H;have alR:=aM E5 hc8;refine dQ ?_;refine K3 _ _ ?_;clear K3;refine kP H (SQ fun _ K9=>SR fun _ aT=>Rf JL rfl (Rf Nq rfl (Rg Ed rfl (by assumption) ?_)));clear H;intro a H;refine kH H (Rl Eh rfl (Rm rfl (Kz aT (SB ?_))));clear H aT;intro a H;skip;refine eU (ι:=Nat × GH) (Tc:=[(1,_),(3,_),(36,_),(37,_)]) (Lc:=[(_,_),(_,_),(_,_),(_,_),(_,_)]) (fun gh=>[(38,vi gh.1)]) (fun gh=>[(b11,fH (fM ((li.map fV.id).take gh.1)))]) (fun gh=>gh.2) (fun gh=>gh.1≤li.length∧(∀ b o,g1 b=some o→gh.2 b=some o)) (fun gh=>li.length - gh.1) ((0,g1)) (by exact (H.dV (Pl:=[_,_,_,_,_,_]) (dz:=[_,_,_,_,_,_]) [0,1,2,3,5,4] (by decide) rfl).sub ⟨rfl,rfl,rfl,rfl,rfl,aD⟩) ?_ ?_
 ·exact ⟨ig _,fun _ _ h=>h⟩
 clear H;intro gh a w hI H;obtain ⟨k,g2⟩:=gh;dsimp only at hI H;obtain ⟨hk,Kh⟩:=hI;dsimp only [lca,bD] at H;refine kP H (SR fun _ bC=>Rc rfl (Kz bC (SQ fun _ bJ=>Cd rfl ?_ ?_))) <;> clear H bC
 ·intro kU a H
  try have p39:=dT kU
  have hk2:k < li.length:=by omega
  obtain ⟨xb,xo,B,d,rfl,hrow,-⟩:=PE ((Ho.mono E5).mono Kh) hk2
  have hk3:k < (li.map fV.id).length:=by simpa using hk2
  have hnew:=WO f2 hk3
  have Hg:(li.map fV.id)[k]=li[k].id:=by simp
  rw [Hg] at hnew;refine kP H (Kc bJ (SQ fun _ bT=>SB (SR fun _ bS=>Ri Eh FJ rfl rfl ?_)));clear H bJ;intro a H;refine bK FJ (cs:=_) H wn rfl rfl (fun j v hj=>H.hp.aL (hrow j v hj)) rfl ?_;clear H;intro a H;refine eZ FJ H wn rfl ?_;clear H;intro b7 a w Dn H;refine bM FJ 0 (vs:=[_,_]) _ H wn rfl rfl rfl rfl rfl rfl rfl rfl ?_;clear H;intro w H;dsimp only [List.set,setRow] at H;refine bS _ _ ?_;clear bS;refine dI hmx [[],[0],[0,1],[0,1,2],[],[4],(ra 0 6)] [6] (by kernel_rfl) [_,_,_,.map (some b11),_,vi li[k].id] H (aG (Z0 rfl (Rm rfl)) (Z1 0 42 rfl (Rk rfl)) (Z1 1 43 rfl (Rf Un rfl)) (Z1 2 44 rfl (Ro zx 1 rfl)) (aU (Z0 rfl (Rf Us rfl)) (aU (Z1 4 46 rfl (Ro aH 0 rfl)) (aU (bN rfl) bZ)))) ?_
  clear H;intro a w G ni H hv;have H:=H.aQ (hv 3 45 rfl rfl) rfl;have H:=H.aQ (hv 5 47 rfl rfl) rfl;clear hv;refine KY (i:=6) zC nD H wn rfl rfl rfl rfl hnew ?_;clear H;intro w H;dsimp only [List.set,List.append,lca,bD] at H;rw [← Hg,← WQ hk3] at H;refine aI ⟨rfl,?_⟩;refine bT _ _ ?_;clear bT;refine kP H (SC (Rd rfl (Rm rfl ?_)));clear H;intro a H;refine aI ?_;refine cK ((k+1,G)) (by exact (H.dV (Pl:=[_,_,_,_,_,_,_]) (dz:=[_,_,_,_,_,_]) [1,2,3,4,5,6] (by decide) rfl).sub ⟨rfl,rfl,rfl,rfl,rfl,aD⟩) ?_ ?_
  ·(try dsimp only);exact ⟨by omega,fun b o h=>ni b o (Kh b o h)⟩
  first|omega|(dsimp only;omega)
 intro kU a H
 try have p39:=dF kU
 obtain rfl:k=li.length:=by omega
 rw [jQ (by simp)] at H;have alQ:=aM Kh (aM E5 hc6);refine dQ ?_;refine K9 _ _ ?_;clear K9;refine kP H (SQ fun _ dD=>SR fun _ dM=>Rf Nr rfl (Rg Ce rfl (by assumption) ?_));clear H;intro a H;refine kH H (Rl Ci rfl (Rm rfl (Kz dM (SB ?_))));clear H dM;intro a H;skip;refine eU (ι:=Nat × GH) (Tc:=[(3,_),(50,_),(51,_)]) (Lc:=[(_,_),(_,_),(_,_),(_,_),(_,_)]) (fun gh=>[(52,vi gh.1)]) (fun gh=>[(b12,fH (fM ((rv.map fG.id).take gh.1)))]) (fun gh=>gh.2) (fun gh=>gh.1≤rv.length∧(∀ b o,g2 b=some o→gh.2 b=some o)) (fun gh=>rv.length - gh.1) ((0,g2)) (by exact (H.dV (Pl:=[_,_,_,_,_,_]) (dz:=[_,_,_,_,_,_]) [0,1,2,4,5,3] (by decide) rfl).sub ⟨rfl,rfl,rfl,rfl,aD⟩) ?_ ?_
 ·exact ⟨ig _,fun _ _ h=>h⟩
 clear H;intro gh a w hI H;obtain ⟨k,g3⟩:=gh;dsimp only at hI H;obtain ⟨hk,Vy⟩:=hI;dsimp only [lca,bD] at H;refine kP H (SR fun _ cZ=>Rc rfl (Kz cZ (SQ fun _ dW=>Cd rfl ?_ ?_))) <;> clear H cZ
 ·intro NH a H
  try have p53:=dT NH
  have hk2:k < rv.length:=by omega
  obtain ⟨xb,xo,rfl,hrow⟩:=Qj (((xL.mono E5).mono Kh).mono Vy) hk2
  have hk3:k < (rv.map fG.id).length:=by simpa using hk2
  have hnew:=WO f3 hk3
  have Hg:(rv.map fG.id)[k]=rv[k].id:=by simp
  rw [Hg] at hnew;refine kP H (Kc dW (SQ fun _ fZ=>SB (SR fun _ eG=>Ri Ci Eb rfl rfl ?_)));clear H dW;intro a H;refine bK Eb (cs:=_) H wn rfl rfl (fun j v hj=>H.hp.aL (hrow j v hj)) rfl ?_;clear H;intro a H;refine eZ Eb H wn rfl ?_;clear H;intro b9 a w yS H;refine bM Eb 0 (vs:=[_,_,_]) _ H wn rfl rfl rfl rfl rfl rfl rfl rfl ?_;clear H;intro w H;dsimp only [List.set,setRow] at H;refine eG _ _ ?_;clear eG;refine dI hmx [[],[0],[0,1],[0,1,2],[],[4],(ra 0 6)] [6] (by kernel_rfl) [_,_,_,.map (some b12),_,vi rv[k].id] H (aG (Z0 rfl (Rm rfl)) (Z1 0 56 rfl (Rk rfl)) (Z1 1 57 rfl (Rf GL rfl)) (Z1 2 58 rfl (Ro zx 1 rfl)) (aU (Z0 rfl (Rf Uq rfl)) (aU (Z1 4 60 rfl (Ro aH 0 rfl)) (aU (bN rfl) bZ)))) ?_
  clear H;intro a w G Dh H hv;have H:=H.aQ (hv 3 59 rfl rfl) rfl;have H:=H.aQ (hv 5 61 rfl rfl) rfl;clear hv;refine KY (i:=6) zC nD H wn rfl rfl rfl rfl hnew ?_;clear H;intro w H;dsimp only [List.set,List.append,lca,bD] at H;rw [← Hg,← WQ hk3] at H;refine aI ⟨rfl,?_⟩;refine fZ _ _ ?_;clear fZ;refine kP H (SC (Rd rfl (Rm rfl ?_)));clear H;intro a H;refine aI ?_;refine cK ((k+1,G)) (by exact (H.dV (Pl:=[_,_,_,_,_,_,_]) (dz:=[_,_,_,_,_,_]) [1,2,3,4,5,6] (by decide) rfl).sub ⟨rfl,rfl,rfl,rfl,aD⟩) ?_ ?_
  ·(try dsimp only);exact ⟨by omega,fun b o h=>Dh b o (Vy b o h)⟩
  first|omega|(dsimp only;omega)
 intro NH a H
 try have p53:=dF NH
 obtain rfl:k=rv.length:=by omega
 rw [jQ (by simp)] at H;refine dQ ?_;refine dD _ _ ?_;clear dD;refine kP H (SR fun _ gq=>Rm rfl (ak gq rfl ?_));clear H gq;intro a H;refine cB ?_;have H:=H.dV (Pl:=[_,_,_,_,_,_]) (dz:=[_,_,_,_,_,_]) [3,4,5,1,0,2] (by decide) rfl;obtain ⟨Gs,hms,hs,H⟩:=H.dS;obtain ⟨Gl,Hu,hl,H⟩:=H.dS;obtain ⟨Gr,hmr,hr,H⟩:=H.dS;obtain ⟨Gu,hmu,hu,H⟩:=H.dS;refine lv H results57 rfl ?_;exact H.hp.eP ⟨b16,b10,b11,b12,b13,b14,rfl,rfl,⟨hmu _ _ (hmr _ _ (Hu _ _ hs)),hmu _ _ (hmr _ _ hl),hmu _ _ hr,hu⟩⟩
end
section
open Go.RowKit
theorem aep:bY prog 147 4 4:=⟨by kernel_rfl⟩
theorem Uo:bY prog 147 3 3:=⟨by kernel_rfl⟩
theorem DU (x:Int):∀ l:List Int,(qX x (fM l)).getD (.bool false)=.bool (decide (x∈l))
 | []=>rfl
 | k :: r=>by
  have ih:=DU x r;rw [fM,eT,qX]
  by_cases e:k=x
  ·subst e;simp
  rw [ah e,show (r.map fun k=>(k,Value.bool true))=fM r from rfl,ih]
  simp [show x≠k from fun h=>e h.symm]
def Le (st:List bR) (v:Int):Int:=((st.find? fun s=>decide (s.id=v)).map bR.kind).getD 0
theorem Ii (x:Int):∀ l:List bR,(qX x (ze l)).getD (vi 0)=vi (Le l x)
 | []=>rfl
 | s :: r=>by
  have ih:=Ii x r;rw [ze,eT,qX]
  by_cases e:s.id=x
  ·subst e;simp [Le]
  rw [ah e,show (r.map fun s=>(s.id,vi s.kind))=ze r from rfl,ih]
  simp [Le,e]
def pV (bL:List Int) (x:Int):Int:=if ¬ (1≤x∧x≤1073741824) then 18 else if x∈bL then 7 else 0
def jT (bL:List Int) (x:Int):List Int:=if pV bL x=0 then bL++[x] else bL
theorem aii (l:List Int) (x:Int):fM (l++[x])=fM l++[(x,.bool true)]:=by simp [fM]
theorem MH (G:GH) (L:OL) (w0:World) (st:List bR) (li:List fV) (rv:List fG) (b ms ml mr mb mu:Nat) (n:Int) (bL:List Int) (x:Int) (hck:tH G st li rv ms ml mr mu) (hO:gX G (fJ b ms ml mr mb mu n :: (mb,fH (fM bL)) :: L) w0) :
  Calls prog 128 #[(aJ b 0),vi x] w0 (gH w0 G (fJ b ms ml mr mb mu n :: (mb,fH (fM bL)) :: L) fun u G' L'=>u=vi (pV bL x)∧L'=fJ b ms ml mr mb mu n :: (mb,fH (fM (jT bL x))) :: L∧G=G'):=by
 refine kg (N:=29) (T:=[(0,_),(1,_)]) func128 rfl ntmps128 rfl rfl hO ?_;intro a H;refine kP H (SR fun _ K1=>ak K1 rfl (SQ fun _ K2=>SB (SR fun _ K3=>Rm rfl ?_)));clear H K1;intro a H;refine s_call uV H wn rfl (vo _ _ H.ro x 1 1073741824) rfl ?_;clear H;rintro v7 _ a w ⟨rfl,rfl⟩ - H;refine kH H (Rn rfl (Rm rfl (Sp 9 rfl ?_ ?_))) <;> clear H
 ·intro h9 a H
  try have p9:=dT h9
  refine kH H (aY h9 rfl (aY h9 rfl (Pt h9 rfl (ak K3 rfl (Ct rfl rfl (SQ fun _ K4=>?_))))));clear H K3;intro a H
  have e:pV bL x=18:=by rw [pV,au (by first|(simp_all;done)|(simp_all;omega))]
  refine kP H (SC (aV K4 rfl ?_));clear H K4;intro a H;refine lr H results128 rfl ?_
  first
   | exact H.hp.eP ⟨by rw [e],by rw [jT,au e],rfl⟩
   | exact H.hp.eP ⟨by rw [e],by rw [jT,ah (by rw [e];decide)],rfl⟩
 intro h9 a H
 try have p9:=dF h9
 refine kH H (YM h9 rfl ?_);clear H;intro a H;refine rX H (wg H rfl rfl h9) rfl rfl ?_;clear H;intro a H;refine kH H (YF aep h9 rfl (YO zx 0 h9 rfl (YM h9 rfl ?_)));clear H;intro a H;refine xX (zv:=.bool false) zC nD (by kernel_rfl) H (wg H rfl rfl h9) rfl rfl (H.ro _ _ hck.use) rfl ?_;clear H;intro a H;rw [show (qX x []).getD (Value.bool false)=.bool false from rfl] at H;refine kH H (Pf h9 rfl (ak K3 rfl (Cd rfl ?_ ?_))) <;> clear H K3
 ·intro h5 a H
  try have p5:=dT h5
  refine bG (fun _ K5=>?_)
  have e:pV bL x=18:=by rw [pV,au (by first|(simp_all;done)|(simp_all;omega))]
  refine kP H (SC (aV K5 rfl ?_));clear H K5;intro a H;refine lr H results128 rfl ?_
  first
   | exact H.hp.eP ⟨by rw [e],by rw [jT,au e],rfl⟩
   | exact H.hp.eP ⟨by rw [e],by rw [jT,ah (by rw [e];decide)],rfl⟩
 intro h5 a H
 try have p5:=dF h5
 have hin:decide (1≤x∧x≤1073741824)=true:=by simp_all
 refine kP H (SR fun _ K6=>Rm rfl (Rk rfl (aW Uo zx 0 rfl rfl (Rm rfl ?_))));clear H;intro a H;refine xX (zv:=.bool false) zC nD (by kernel_rfl) H wn rfl rfl (H.hp.own _ (jZ _ iC)) rfl ?_;clear H;intro a H;rw [DU] at H;refine kH H (ak K6 rfl (Cd rfl ?_ ?_)) <;> clear H K6
 ·intro eu a H
  refine bG (fun _ K7=>?_)
  have e:pV bL x=7:=by rw [pV,ah (by simpa using hin),au (rF eu)]
  refine kP H (SC (aV K7 rfl ?_));clear H K7;intro a H;refine lr H results128 rfl ?_
  first
   | exact H.hp.eP ⟨by rw [e],by rw [jT,au e],rfl⟩
   | exact H.hp.eP ⟨by rw [e],by rw [jT,ah (by rw [e];decide)],rfl⟩
 intro eu a H
 have hx:x∉bL:=of_decide_eq_false eu;have hnew:qX x (fM bL)=none:=KA (by simpa [fM,List.map_map,Function.comp_def] using hx)
 have e:pV bL x=0:=by rw [pV,ah (by simpa using hin),ah hx]
 refine kP H (Kc K2 (SR fun _ K8=>Rm rfl (Rk rfl (aW Uo zx 0 rfl rfl (Rm rfl ?_)))));clear H K2;intro a H;refine KY (i:=1) zC nD H wn rfl rfl rfl rfl hnew ?_;clear H;intro w H;dsimp only [List.set] at H;rw [← aii] at H;refine K8 _ _ ?_;clear K8;refine kP H (SR fun _ K9=>ak K9 rfl ?_);clear H K9;intro a H;refine lr H results128 rfl ?_
 first
  | exact H.hp.eP ⟨by rw [e],by rw [jT,au e],rfl⟩
  | exact H.hp.eP ⟨by rw [e],by rw [jT,ah (by rw [e];decide)],rfl⟩
def nO (st:List bR) (xS:List Int) (key v:Int):Int :=
 if key=20∨key=1 then cu (decide (v≠0∧Le st v≠(if key=1 then 2 else 1))) 25 else if key=33 then cu (decide (v≠0∧v∉xS)) 26 else 0
theorem MI (G:GH) (w0:World) (hG:Hold G w0) (st:List bR) (li:List fV) (rv:List fG) (b ms ml mr mb mu:Nat) (n:Int) (key v:Int) (hck:tH G st li rv ms ml mr mu) (hb:G b=some (fJ b ms ml mr mb mu n).2) :
  Calls prog 91 #[(aJ b 0),vi key,vi v] w0 (bF w0 G fun u G'=>u=vi (nO st (li.map fV.id) key v)∧G=G'):=by
 have hc0:aL G b 0=some (.map (some ms)):=by unfold aL;rw [hb];rfl
 have hc1:aL G b 1=some (.map (some ml)):=by unfold aL;rw [hb];rfl
 refine eN [(0,_),(1,_),(2,_)] func91 rfl ntmps91 rfl rfl hG ?_;intro a H;refine kP H (SR fun _ K1=>ak K1 rfl (SQ fun _ K2=>SR fun _ K3=>Rm rfl (Kz K3 (SB (SQ fun _ K4=>SR fun _ K5=>Rc rfl (ak K5 rfl (Cd rfl ?_ ?_))))))) <;> clear H K1 K3 K5
 ·intro h9 a H
  try have p9:=dT h9
  refine kP H (Kc K4 (Ct rfl h9 (SR fun _ K6=>ak K6 rfl (SQ fun _ K7=>SR fun _ K8=>Rm rfl (Rc rfl (Kz K8 (Cd rfl ?_ ?_))))))) <;> clear H K4 K6 K8
  ·intro gu a H
   try have qF:=dT gu
   refine kP H (SC (aV K7 rfl (SR fun _ K9=>Rm rfl (Rc rfl (Rm rfl (Sp 16 rfl ?_ ?_)))))) <;> clear H K7
   ·intro h16 a H
    try have p16:=dT h16
    refine kH H (YM h16 rfl ?_);clear H;intro a H;refine rX H (wg H rfl rfl h16) rfl rfl ?_;clear H;intro a H;refine kH H (YF GK h16 rfl (YR Iu h16 rfl (by assumption) ?_));clear H;intro a H;refine kH H (YM h16 rfl ?_);clear H;intro a H;refine xX (zv:=vi 0) Ef nD (by kernel_rfl) H (wg H rfl rfl h16) rfl rfl (H.ro _ _ hck.sty) rfl ?_;clear H;intro a H;rw [Ii] at H;refine kH H (YM h16 rfl (YC h16 rfl (Pt h16 rfl ?_)));clear H;intro a H;refine s_call iZ H wn rfl (jf _ _ H.ro _ 25) rfl ?_;clear H;rintro v26 _ a w ⟨rfl,rfl⟩ - H;refine kH H (ak K9 rfl ?_);clear H K9;intro a H;refine lr H results91 rfl ?_
    exact H.rt ⟨aF vi (by unfold nO;(repeat' split) <;> first|rfl|(simp_all;done)|(exfalso;simp_all;done)|(congr 1;rw [nX];simp only [sN,rG,pG];exact ⟨fun h=>⟨p31,h⟩,fun h=>h.2⟩)),rfl⟩
   intro h16 a H
   try have p16:=dF h16
   refine kH H (aY h16 rfl (aY h16 rfl (aS h16 rfl (Pf h16 rfl ?_))));clear H;intro a H;refine s_call iZ H wn rfl (jf _ _ H.ro _ 25) rfl ?_;clear H;rintro v26 _ a w ⟨rfl,rfl⟩ - H;refine kH H (ak K9 rfl ?_);clear H K9;intro a H;refine lr H results91 rfl ?_
   exact H.rt ⟨aF vi (by unfold nO;(repeat' split) <;> first|rfl|(simp_all;done)|(exfalso;simp_all;done)|(congr 1;rw [nX];simp only [sN,rG,pG];exact ⟨fun h=>⟨p31,h⟩,fun h=>h.2⟩)),rfl⟩
  intro gu a H
  try have qF:=dF gu
  refine kP H (Kc K7 (SR fun _ aT=>Rm rfl (Rc rfl (Rm rfl (Sp 16 rfl ?_ ?_))))) <;> clear H K7
  ·intro h16 a H
   try have p16:=dT h16
   refine kH H (YM h16 rfl ?_);clear H;intro a H;refine rX H (wg H rfl rfl h16) rfl rfl ?_;clear H;intro a H;refine kH H (YF GK h16 rfl (YR Iu h16 rfl (by assumption) ?_));clear H;intro a H;refine kH H (YM h16 rfl ?_);clear H;intro a H;refine xX (zv:=vi 0) Ef nD (by kernel_rfl) H (wg H rfl rfl h16) rfl rfl (H.ro _ _ hck.sty) rfl ?_;clear H;intro a H;rw [Ii] at H;refine kH H (YM h16 rfl (YC h16 rfl (Pt h16 rfl ?_)));clear H;intro a H;refine s_call iZ H wn rfl (jf _ _ H.ro _ 25) rfl ?_;clear H;rintro v26 _ a w ⟨rfl,rfl⟩ - H;refine kH H (ak aT rfl ?_);clear H aT;intro a H;refine lr H results91 rfl ?_
   exact H.rt ⟨aF vi (by unfold nO;(repeat' split) <;> first|rfl|(simp_all;done)|(exfalso;simp_all;done)|(congr 1;rw [nX];simp only [sN,rG,pG];exact ⟨fun h=>⟨p31,h⟩,fun h=>h.2⟩)),rfl⟩
  intro h16 a H
  try have p16:=dF h16
  refine kH H (aY h16 rfl (aY h16 rfl (aS h16 rfl (Pf h16 rfl ?_))));clear H;intro a H;refine s_call iZ H wn rfl (jf _ _ H.ro _ 25) rfl ?_;clear H;rintro v26 _ a w ⟨rfl,rfl⟩ - H;refine kH H (ak aT rfl ?_);clear H aT;intro a H;refine lr H results91 rfl ?_
  exact H.rt ⟨aF vi (by unfold nO;(repeat' split) <;> first|rfl|(simp_all;done)|(exfalso;simp_all;done)|(congr 1;rw [nX];simp only [sN,rG,pG];exact ⟨fun h=>⟨p31,h⟩,fun h=>h.2⟩)),rfl⟩
 intro h9 a H
 try have p9:=dF h9
 refine kP H (SC (Rc rfl (aV K4 rfl (Cd rfl ?_ ?_)))) <;> clear H K4
 ·intro h9 a H
  try have p9:=dT h9
  refine kP H (SR fun _ bC=>ak bC rfl (SQ fun _ bJ=>SR fun _ bT=>Rm rfl (Rc rfl (Kz bT (Cd rfl ?_ ?_))))) <;> clear H bC bT
  ·intro gu a H
   try have qF:=dT gu
   refine kP H (SC (aV bJ rfl (SR fun _ bS=>Rm rfl (Rc rfl (Rm rfl (Sp 16 rfl ?_ ?_)))))) <;> clear H bJ
   ·intro h16 a H
    try have p16:=dT h16
    refine kH H (YM h16 rfl ?_);clear H;intro a H;refine rX H (wg H rfl rfl h16) rfl rfl ?_;clear H;intro a H;refine kH H (YF GK h16 rfl (YR Iu h16 rfl (by assumption) ?_));clear H;intro a H;refine kH H (YM h16 rfl ?_);clear H;intro a H;refine xX (zv:=vi 0) Ef nD (by kernel_rfl) H (wg H rfl rfl h16) rfl rfl (H.ro _ _ hck.sty) rfl ?_;clear H;intro a H;rw [Ii] at H;refine kH H (YM h16 rfl (YC h16 rfl (Pt h16 rfl ?_)));clear H;intro a H;refine s_call iZ H wn rfl (jf _ _ H.ro _ 25) rfl ?_;clear H;rintro v26 _ a w ⟨rfl,rfl⟩ - H;refine kH H (ak bS rfl ?_);clear H bS;intro a H;refine lr H results91 rfl ?_
    exact H.rt ⟨aF vi (by unfold nO;(repeat' split) <;> first|rfl|(simp_all;done)|(exfalso;simp_all;done)|(congr 1;rw [nX];simp only [sN,rG,pG];exact ⟨fun h=>⟨p31,h⟩,fun h=>h.2⟩)),rfl⟩
   intro h16 a H
   try have p16:=dF h16
   refine kH H (aY h16 rfl (aY h16 rfl (aS h16 rfl (Pf h16 rfl ?_))));clear H;intro a H;refine s_call iZ H wn rfl (jf _ _ H.ro _ 25) rfl ?_;clear H;rintro v26 _ a w ⟨rfl,rfl⟩ - H;refine kH H (ak bS rfl ?_);clear H bS;intro a H;refine lr H results91 rfl ?_
   exact H.rt ⟨aF vi (by unfold nO;(repeat' split) <;> first|rfl|(simp_all;done)|(exfalso;simp_all;done)|(congr 1;rw [nX];simp only [sN,rG,pG];exact ⟨fun h=>⟨p31,h⟩,fun h=>h.2⟩)),rfl⟩
  intro gu a H
  try have qF:=dF gu
  refine kP H (Kc bJ (SR fun _ dD=>Rm rfl (Rc rfl (Rm rfl (Sp 16 rfl ?_ ?_))))) <;> clear H bJ
  ·intro h16 a H
   try have p16:=dT h16
   refine kH H (YM h16 rfl ?_);clear H;intro a H;refine rX H (wg H rfl rfl h16) rfl rfl ?_;clear H;intro a H;refine kH H (YF GK h16 rfl (YR Iu h16 rfl (by assumption) ?_));clear H;intro a H;refine kH H (YM h16 rfl ?_);clear H;intro a H;refine xX (zv:=vi 0) Ef nD (by kernel_rfl) H (wg H rfl rfl h16) rfl rfl (H.ro _ _ hck.sty) rfl ?_;clear H;intro a H;rw [Ii] at H;refine kH H (YM h16 rfl (YC h16 rfl (Pt h16 rfl ?_)));clear H;intro a H;refine s_call iZ H wn rfl (jf _ _ H.ro _ 25) rfl ?_;clear H;rintro v26 _ a w ⟨rfl,rfl⟩ - H;refine kH H (ak dD rfl ?_);clear H dD;intro a H;refine lr H results91 rfl ?_
   exact H.rt ⟨aF vi (by unfold nO;(repeat' split) <;> first|rfl|(simp_all;done)|(exfalso;simp_all;done)|(congr 1;rw [nX];simp only [sN,rG,pG];exact ⟨fun h=>⟨p31,h⟩,fun h=>h.2⟩)),rfl⟩
  intro h16 a H
  try have p16:=dF h16
  refine kH H (aY h16 rfl (aY h16 rfl (aS h16 rfl (Pf h16 rfl ?_))));clear H;intro a H;refine s_call iZ H wn rfl (jf _ _ H.ro _ 25) rfl ?_;clear H;rintro v26 _ a w ⟨rfl,rfl⟩ - H;refine kH H (ak dD rfl ?_);clear H dD;intro a H;refine lr H results91 rfl ?_
  exact H.rt ⟨aF vi (by unfold nO;(repeat' split) <;> first|rfl|(simp_all;done)|(exfalso;simp_all;done)|(congr 1;rw [nX];simp only [sN,rG,pG];exact ⟨fun h=>⟨p31,h⟩,fun h=>h.2⟩)),rfl⟩
 intro h9 a H
 try have p9:=dF h9
 refine kP H (SR fun _ dM=>Rc rfl (ak dM rfl (Cd rfl ?_ ?_))) <;> clear H dM
 ·intro h27 a H
  try have p27:=dT h27
  refine kP H (SR fun _ cZ=>Rm rfl (Rc rfl (Rm rfl (Sp 31 rfl ?_ ?_)))) <;> clear H
  ·intro h31 a H
   try have p31:=dT h31
   refine kH H (YM h31 rfl ?_);clear H;intro a H;refine rX H (wg H rfl rfl h31) rfl rfl ?_;clear H;intro a H;refine kH H (YF Un h31 rfl (YR zx h31 rfl (by assumption) ?_));clear H;intro a H;refine kH H (YM h31 rfl ?_);clear H;intro a H;refine xX (zv:=.bool false) zC nD (by kernel_rfl) H (wg H rfl rfl h31) rfl rfl (H.ro _ _ hck.xS) rfl ?_;clear H;intro a H;rw [DU] at H;refine kH H (YN h31 rfl (Pt h31 rfl ?_));clear H;intro a H;refine s_call iZ H wn rfl (jf _ _ H.ro _ 26) rfl ?_;clear H;rintro v40 _ a w ⟨rfl,rfl⟩ - H;refine kH H (ak cZ rfl ?_);clear H cZ;intro a H;refine lr H results91 rfl ?_
   exact H.rt ⟨aF vi (by unfold nO;(repeat' split) <;> first|rfl|(simp_all;done)|(exfalso;simp_all;done)|(congr 1;rw [nX];simp only [sN,rG,pG];exact ⟨fun h=>⟨p31,h⟩,fun h=>h.2⟩)),rfl⟩
  intro h31 a H
  try have p31:=dF h31
  refine kH H (aY h31 rfl (aS h31 rfl (aS h31 rfl (Pf h31 rfl ?_))));clear H;intro a H;refine s_call iZ H wn rfl (jf _ _ H.ro _ 26) rfl ?_;clear H;rintro v40 _ a w ⟨rfl,rfl⟩ - H;refine kH H (ak cZ rfl ?_);clear H cZ;intro a H;refine lr H results91 rfl ?_
  exact H.rt ⟨aF vi (by unfold nO;(repeat' split) <;> first|rfl|(simp_all;done)|(exfalso;simp_all;done)|(congr 1;rw [nX];simp only [sN,rG,pG];exact ⟨fun h=>⟨p31,h⟩,fun h=>h.2⟩)),rfl⟩
 intro h27 a H
 try have p27:=dF h27
 refine kP H (Kc K2 (SR fun _ dW=>ak dW rfl ?_));clear H K2 dW;intro a H;refine lr H results91 rfl ?_
 exact H.rt ⟨aF vi (by unfold nO;(repeat' split) <;> first|rfl|(simp_all;done)|(exfalso;simp_all;done)|(congr 1;rw [nX];simp only [sN,rG,pG];exact ⟨fun h=>⟨p31,h⟩,fun h=>h.2⟩)),rfl⟩
end
section
open Go.RowKit
section
variable {N:Nat} {D:List Deferred} {w0:World} {F:Nat→Prop} {G0 G G':GH} {L L':OL} {T:List (Nat × aj)}
variable {r:Option Nat} {P:Program} {ops:Array Oper} {Q:Exit→Act→World→Prop} {rest:List Oper} {a:Act} {w w':World}
theorem Bb {ι:Type} {Tc:List (Nat × aj)} {l:List Oper} (k:Nat) (Tv:ι→List (Nat × aj)) (Pr:ι→Prop) (_:St N D w0 F G0 G L Tc a w)
  (h1:(∀ i a w,Pr i→St N D w0 F G0 G L (Tv i++Tc) a w→WL r P ops Q (l.drop k) a w)→WL r P ops Q l a w)
  (h2:∀ i a w,Pr i→St N D w0 F G0 G L (Tv i++Tc) a w→WL r P ops Q (l.drop k) a w):WL r P ops Q l a w:=h1 h2
theorem Change.back (h:Change w w' G G' L L'):Change w w' G G L L' :=
 ⟨h.os,h.tape,h.output,h.size,h.fr,fun _ _ h=>h,fun _ _ h=>.inl h,⟨fun k o hk=>h.owns.ro k o (h.gm k o hk),h.owns.own,fun p hp=>(by
  have hs:=h.owns.sep p hp
  cases hg:G p.1 with
  | none=>rfl
  | some o=>have:=h.gm _ _ hg;rw [hs] at this;cases this),h.owns.nd⟩,h.lx⟩
theorem gH.back {R:aj→GH→OL→Prop} {R':aj→OL→Prop} (hR:∀ v G' L',R v G' L'→R' v L') {e:Ending} (h:gH w G L R e w'):gH w G L (fun v G' L'=>G=G'∧R' v L') e w':=by
 obtain ⟨v,G',L',rfl,hc,hr⟩:=h
 exact ⟨v,G,L',rfl,hc.back,rfl,hR _ _ _ hr⟩
theorem Calls.aaA {f:FuncId} {args:Array aj} {R:aj→GH→OL→Prop} {R':aj→OL→Prop} (h:Calls P f args w (gH w G L R)) (hR:∀ v G' L',R v G' L'→R' v L'):Calls P f args w (gH w G L fun v G' L'=>G=G'∧R' v L') :=
 h.mono fun _ _=>gH.back hR
theorem bF.back {R:aj→GH→Prop} {e:Ending} (h:bF w G R e w'):bF w G (fun v G'=>(∃ g,R v g)∧G=G') e w':=by
 obtain ⟨v,G',rfl,hb,hX,hr⟩:=h
 exact ⟨v,G,rfl,hb,⟨fun _ _ h=>h,fun _ _ h=>.inl h,fun k o hk=>hX.2.2 k o (hX.1 k o hk)⟩,⟨G',hr⟩,rfl⟩
theorem SG {f:FuncId} {args:Array aj} {R:aj→GH→Prop} (h:Calls P f args w (bF w G R)):Calls P f args w (bF w G fun v G'=>(∃ g,R v g)∧G=G'):=h.mono fun _ _=>bF.back
theorem gX.add {b:Nat} {o:Obj} (h:gX G ((b,o) :: L) w):Hold (G.add b o) w:=fun k o' hk=>by
 unfold GH.add at hk
 split at hk
 ·next e=>cases hk;subst e;exact h.own _ iC
 ·exact h.ro k o' hk
theorem ajo {b:Nat} {o:Obj} {R:aj→GH→Prop} {R':aj→Prop} (hO:gX G ((b,o) :: L) w) (hR:∀ v G',R v G'→R' v) {e:Ending} (h:bF w (G.add b o) R e w'):gH w G ((b,o) :: L) (fun v G' L'=>G=G'∧L'=(b,o) :: L∧R' v) e w':=by
 obtain ⟨v,G',rfl,hb,hX,hr⟩:=h
 exact ⟨v,G,_,rfl,(hO.hp.below hb).Yr,rfl,rfl,hR _ _ hr⟩
end
end
section
open Go.RowKit
theorem aea:I4 prog 187 [(0,false),(1,false)]:=⟨by kernel_rfl,by kernel_rfl,by kernel_rfl,by kernel_rfl,by kernel_rfl⟩
theorem aeb:I4 prog 190 [(0,false),(1,false)]:=⟨by kernel_rfl,by kernel_rfl,by kernel_rfl,by kernel_rfl,by kernel_rfl⟩
theorem aec:I4 prog 199 [(0,false),(1,false),(2,false),(3,true)]:=⟨by kernel_rfl,by kernel_rfl,by kernel_rfl,by kernel_rfl,by kernel_rfl⟩
theorem ach:∀ args w,(callFunc 106 args).run prog w=.ok (.enter 106 args) w:=enters func106 rfl (by kernel_rfl)
theorem wm:bY prog 27 0 0:=⟨by kernel_rfl⟩
theorem Bn:bY prog 27 1 1:=⟨by kernel_rfl⟩
theorem aci:∀ args w,(callFunc 107 args).run prog w=.ok (.enter 107 args) w:=enters func107 rfl (by kernel_rfl)
theorem acj:∀ args w,(callFunc 108 args).run prog w=.ok (.enter 108 args) w:=enters func108 rfl (by kernel_rfl)
abbrev jE.cells (x:jE):List aj:=[vi x.rev,vi x.move]
abbrev jh.cells (x:jh):List aj:=[vi x.rev,vi x.key,vi x.before,.bool x.had]
theorem MR {G:GH} {x:jE} {cs:List aj} (h:aZ G x.dat cs):cs=x.cells:=by
 simp only [jE.dat,aZ,av] at h
 obtain ⟨_,_,rfl,⟨rfl,_⟩,_,_,rfl,⟨rfl,_⟩,rfl⟩:=h
 rfl
theorem Px {G:GH} {x:jh} {cs:List aj} (h:aZ G x.dat cs):cs=x.cells:=by
 simp only [jh.dat,aZ,av] at h
 obtain ⟨_,_,rfl,⟨rfl,_⟩,_,_,rfl,⟨rfl,_⟩,_,_,rfl,⟨rfl,_⟩,_,_,rfl,⟨rfl,_⟩,rfl⟩:=h
 rfl
theorem iH.eq_iff (a b:iH):(a.key=b.key∧a.value=b.value)↔a=b:=by cases a;cases b;simp
theorem jE.eq_iff (a b:jE):(a.rev=b.rev∧a.move=b.move)↔a=b:=by cases a;cases b;simp
theorem jh.eq_iff (a b:jh):(a.rev=b.rev∧a.key=b.key∧a.before=b.before∧a.had=b.had)↔a=b:=by cases a;cases b;simp
instance:DecidableEq iH:=fun a b=>decidable_of_iff _ (iH.eq_iff a b)
instance:DecidableEq jE:=fun a b=>decidable_of_iff _ (jE.eq_iff a b)
instance:DecidableEq jh:=fun a b=>decidable_of_iff _ (jh.eq_iff a b)
theorem aiA (a b:iH):(!([(0,false),(1,false)].all fun o=>ko #[vi a.key,vi a.value] o == ko #[vi b.key,vi b.value] o))=!decide (a=b):=by
 have h:=iH.eq_iff a b;rw [nX]
 simp only [sN,rG]
 rw [← h]
 simp [ko]
theorem aiy (a b:jE):(!([(0,false),(1,false)].all fun o=>ko #[vi a.rev,vi a.move] o == ko #[vi b.rev,vi b.move] o))=!decide (a=b):=by
 have h:=jE.eq_iff a b;rw [nX]
 simp only [sN,rG]
 rw [← h]
 simp [ko]
theorem aiz (a b:jh):(!([(0,false),(1,false),(2,false),(3,true)].all fun o=>ko #[vi a.rev,vi a.key,vi a.before,.bool a.had] o == ko #[vi b.rev,vi b.key,vi b.before,.bool b.had] o))=!decide (a=b):=by
 have h:=jh.eq_iff a b;rw [nX]
 simp only [sN,rG]
 rw [← h]
 simp [ko]
theorem adY (G:GH) (w0:World) (hG:Hold G w0) (A B:List iH) (v u:aj) (hv:av G (.sl 2 (A.map iH.dat)) v) (hu:av G (.sl 2 (B.map iH.dat)) u) :
  Calls prog 106 #[v,u] w0 (bF w0 G fun r G'=>r=.bool (decide (A=B))):=by
 obtain ⟨vA,vc,rfl,hc1,hc2,hg⟩:=hv.slice;obtain ⟨uA,uc,rfl,hd1,hd2,hh⟩:=hu.slice;have hml:maxLen=9223372036854775807:=rfl;(iterate 2 rw [bU] at *);refine eN [(0,_),(1,_)] func106 rfl ntmps106 rfl rfl hG ?_;intro a H;refine kP H (SR fun _ K1=>ak K1 rfl (SQ fun _ K2=>SR fun _ K3=>Rm rfl (Rl oU rfl (Rm rfl (Rl oU rfl (Rc rfl (Kz K3 (Cd rfl ?_ ?_)))))))) <;> clear H K1 K3
 ·intro h10 a H
  try have lN:=dT h10
  exact kP H (SR fun _ K4=>ak K4 rfl (LR results106 rfl fun H=>H.rt (aB (jk fun e=>absurd (aF List.length e) (by omega)).symm)))
 intro h10 a H
 try have lN:=dF h10
 refine kP H (Kc K2 (SQ fun _ K5=>SR fun _ K6=>Rm rfl (Rl oU rfl (Rm rfl (Kz K6 (SB ?_))))));clear H K2 K6;intro a H;skip;refine eU (ι:=Nat × GH) (Tc:=[(0,_),(1,_),(12,_)]) (Lc:=[]) (fun gh=>[(13,vi gh.1)]) (fun gh=>[]) (fun gh=>gh.2) (fun gh=>gh.1≤A.length∧A.take gh.1=B.take gh.1∧(∀ b o,G b=some o→gh.2 b=some o)) (fun gh=>A.length - gh.1) ((0,G)) (by exact (H).sub ⟨rfl,rfl,rfl,rfl,aD⟩) ?_ ?_
 ·exact ⟨by omega,rfl,fun _ _ h=>h⟩
 clear H;intro gh a w hI H;obtain ⟨k,g⟩:=gh;dsimp only at hI H;obtain ⟨hk,hsame,hgm⟩:=hI;dsimp only [lca,bD] at H;refine kP H (SR fun _ K7=>Rc rfl (Kz K7 (SQ fun _ K8=>Cd rfl ?_ ?_))) <;> clear H K7
 ·intro dN a H
  try have mH:=dT dN
  have hk2:k < A.length:=by omega
  have hk3:k < B.length:=by omega
  obtain ⟨b1,o1,cs1,rfl,Vh,HZ,hr1⟩:=hg k A[k].dat (by simp [hk2]);obtain rfl:=Qb hr1;obtain ⟨b2,o2,cs2,rfl,Vi,hrow2,hr2⟩:=hh k B[k].dat (by simp [hk3]);obtain rfl:=Qb hr2;refine kP H (Kc K8 (SQ fun _ K9=>SB (SR fun _ aT=>Rm rfl (ak aT rfl (SQ fun _ bC=>?_)))));clear H K8 aT;intro a H;refine dI hmx [[],[],[0,1],[0,1,2],[],[],[4,5],[4,5,6],(ra 0 8)] [] (by kernel_rfl) [_,_,_,.agg A[k].cells.toArray,_,_,_,.agg B[k].cells.toArray,.bool (!decide (A[k]=B[k]))] H (aG (Z0 rfl (Rm rfl)) (Z0 rfl (Rm rfl)) (Z2 0 16 1 17 rfl (Ri oU nA rfl rfl)) ?_ (aG (Z0 rfl (Rm rfl)) (Z0 rfl (Rm rfl)) (Z2 4 20 5 21 rfl (Ri oU nA rfl rfl)) ?_ (aU ?_ bZ))) ?_
  ·refine dO 2 18 rfl rfl fun _ a w G1 hG HT H fin=>?_;refine bK nA (cs:=A[k].cells) H wn rfl rfl (fun j v hj=>H.hp.aL (aM hG (aM hgm (HZ j v hj)))) rfl ?_;clear H;intro a H;exact fin H iJ rfl
  ·refine dO 6 22 rfl rfl fun _ a w G1 hG HT H fin=>?_;refine bK nA (cs:=B[k].cells) H wn rfl rfl (fun j v hj=>H.hp.aL (aM hG (aM hgm (hrow2 j v hj)))) rfl ?_;clear H;intro a H;exact fin H iJ rfl
  ·refine dG 3 19 7 23 rfl rfl fun _ a w G1 hG HT H fin=>?_;refine Qn (.inr rfl) aea H wn rfl rfl rfl rfl ?_;clear H;intro a H;exact fin H iJ (aB (aiA A[k] B[k]))
  clear H;intro a w G gM H hv;have H:=H.aQ (hv 8 24 rfl rfl) rfl;clear hv;refine aI ⟨rfl,?_⟩;refine bC _ _ ?_;clear bC;refine lW H rfl ?_ ?_
  ·intro dY
   exact kP H (SR fun _ bJ=>ak bJ rfl (LR results106 rfl fun H=>H.rt (aB (jk fun e=>absurd dY (by subst e;simp)).symm)))
  intro dY
  try have kG:=dF dY
  have hsm:A[k]=B[k]:=by simpa using dY
  refine kP H (Kc K9 (SC (Rd rfl (Rm rfl ?_))));clear H K9;intro a H;refine aI ?_;refine cK ((k+1,G)) (by exact (H).sub ⟨rfl,rfl,rfl,rfl,aD⟩) ?_ ?_
  ·(try dsimp only);exact ⟨by omega,by rw [jF hk2,jF hk3,hsame,hsm],fun b o h=>gM b o (hgm b o h)⟩
  first|omega|(dsimp only;omega)
 intro dN a H
 try have mH:=dF dN
 refine dQ ?_;refine K5 _ _ ?_;clear K5;exact kP H (SR fun _ bT=>ak bT rfl (LR results106 rfl fun H=>H.rt (aB (jY (by rw [jQ (by omega),jQ (by omega)] at hsame;exact hsame)).symm)))
theorem adW (G:GH) (w0:World) (hG:Hold G w0) (A B:List jE) (v u:aj) (hv:av G (.sl 2 (A.map jE.dat)) v) (hu:av G (.sl 2 (B.map jE.dat)) u) :
  Calls prog 107 #[v,u] w0 (bF w0 G fun r G'=>r=.bool (decide (A=B))):=by
 obtain ⟨vA,vc,rfl,hc1,hc2,hg⟩:=hv.slice;obtain ⟨uA,uc,rfl,hd1,hd2,hh⟩:=hu.slice;have hml:maxLen=9223372036854775807:=rfl;(iterate 2 rw [bU] at *);refine eN [(0,_),(1,_)] func107 rfl ntmps107 rfl rfl hG ?_;intro a H;refine kP H (SR fun _ K1=>ak K1 rfl (SQ fun _ K2=>SR fun _ K3=>Rm rfl (Rl qH rfl (Rm rfl (Rl qH rfl (Rc rfl (Kz K3 (Cd rfl ?_ ?_)))))))) <;> clear H K1 K3
 ·intro h10 a H
  try have lN:=dT h10
  exact kP H (SR fun _ K4=>ak K4 rfl (LR results107 rfl fun H=>H.rt (aB (jk fun e=>absurd (aF List.length e) (by omega)).symm)))
 intro h10 a H
 try have lN:=dF h10
 refine kP H (Kc K2 (SQ fun _ K5=>SR fun _ K6=>Rm rfl (Rl qH rfl (Rm rfl (Kz K6 (SB ?_))))));clear H K2 K6;intro a H;skip;refine eU (ι:=Nat × GH) (Tc:=[(0,_),(1,_),(12,_)]) (Lc:=[]) (fun gh=>[(13,vi gh.1)]) (fun gh=>[]) (fun gh=>gh.2) (fun gh=>gh.1≤A.length∧A.take gh.1=B.take gh.1∧(∀ b o,G b=some o→gh.2 b=some o)) (fun gh=>A.length - gh.1) ((0,G)) (by exact (H).sub ⟨rfl,rfl,rfl,rfl,aD⟩) ?_ ?_
 ·exact ⟨by omega,rfl,fun _ _ h=>h⟩
 clear H;intro gh a w hI H;obtain ⟨k,g⟩:=gh;dsimp only at hI H;obtain ⟨hk,hsame,hgm⟩:=hI;dsimp only [lca,bD] at H;refine kP H (SR fun _ K7=>Rc rfl (Kz K7 (SQ fun _ K8=>Cd rfl ?_ ?_))) <;> clear H K7
 ·intro dN a H
  try have mH:=dT dN
  have hk2:k < A.length:=by omega
  have hk3:k < B.length:=by omega
  obtain ⟨b1,o1,cs1,rfl,Vh,HZ,hr1⟩:=hg k A[k].dat (by simp [hk2]);obtain rfl:=MR hr1;obtain ⟨b2,o2,cs2,rfl,Vi,hrow2,hr2⟩:=hh k B[k].dat (by simp [hk3]);obtain rfl:=MR hr2;refine kP H (Kc K8 (SQ fun _ K9=>SB (SR fun _ aT=>Rm rfl (ak aT rfl (SQ fun _ bC=>?_)))));clear H K8 aT;intro a H;refine dI hmx [[],[],[0,1],[0,1,2],[],[],[4,5],[4,5,6],(ra 0 8)] [] (by kernel_rfl) [_,_,_,.agg A[k].cells.toArray,_,_,_,.agg B[k].cells.toArray,.bool (!decide (A[k]=B[k]))] H (aG (Z0 rfl (Rm rfl)) (Z0 rfl (Rm rfl)) (Z2 0 16 1 17 rfl (Ri qH vH rfl rfl)) ?_ (aG (Z0 rfl (Rm rfl)) (Z0 rfl (Rm rfl)) (Z2 4 20 5 21 rfl (Ri qH vH rfl rfl)) ?_ (aU ?_ bZ))) ?_
  ·refine dO 2 18 rfl rfl fun _ a w G1 hG HT H fin=>?_;refine bK vH (cs:=A[k].cells) H wn rfl rfl (fun j v hj=>H.hp.aL (aM hG (aM hgm (HZ j v hj)))) rfl ?_;clear H;intro a H;exact fin H iJ rfl
  ·refine dO 6 22 rfl rfl fun _ a w G1 hG HT H fin=>?_;refine bK vH (cs:=B[k].cells) H wn rfl rfl (fun j v hj=>H.hp.aL (aM hG (aM hgm (hrow2 j v hj)))) rfl ?_;clear H;intro a H;exact fin H iJ rfl
  ·refine dG 3 19 7 23 rfl rfl fun _ a w G1 hG HT H fin=>?_;refine Qn (.inr rfl) aeb H wn rfl rfl rfl rfl ?_;clear H;intro a H;exact fin H iJ (aB (aiy A[k] B[k]))
  clear H;intro a w G gM H hv;have H:=H.aQ (hv 8 24 rfl rfl) rfl;clear hv;refine aI ⟨rfl,?_⟩;refine bC _ _ ?_;clear bC;refine lW H rfl ?_ ?_
  ·intro dY
   exact kP H (SR fun _ bJ=>ak bJ rfl (LR results107 rfl fun H=>H.rt (aB (jk fun e=>absurd dY (by subst e;simp)).symm)))
  intro dY
  try have kG:=dF dY
  have hsm:A[k]=B[k]:=by simpa using dY
  refine kP H (Kc K9 (SC (Rd rfl (Rm rfl ?_))));clear H K9;intro a H;refine aI ?_;refine cK ((k+1,G)) (by exact (H).sub ⟨rfl,rfl,rfl,rfl,aD⟩) ?_ ?_
  ·(try dsimp only);exact ⟨by omega,by rw [jF hk2,jF hk3,hsame,hsm],fun b o h=>gM b o (hgm b o h)⟩
  first|omega|(dsimp only;omega)
 intro dN a H
 try have mH:=dF dN
 refine dQ ?_;refine K5 _ _ ?_;clear K5;exact kP H (SR fun _ bT=>ak bT rfl (LR results107 rfl fun H=>H.rt (aB (jY (by rw [jQ (by omega),jQ (by omega)] at hsame;exact hsame)).symm)))
theorem adX (G:GH) (w0:World) (hG:Hold G w0) (A B:List jh) (v u:aj) (hv:av G (.sl 4 (A.map jh.dat)) v) (hu:av G (.sl 4 (B.map jh.dat)) u) :
  Calls prog 108 #[v,u] w0 (bF w0 G fun r G'=>r=.bool (decide (A=B))):=by
 obtain ⟨vA,vc,rfl,hc1,hc2,hg⟩:=hv.slice;obtain ⟨uA,uc,rfl,hd1,hd2,hh⟩:=hu.slice;have hml:maxLen=9223372036854775807:=rfl;(iterate 2 rw [bU] at *);refine eN [(0,_),(1,_)] func108 rfl ntmps108 rfl rfl hG ?_;intro a H;refine kP H (SR fun _ K1=>ak K1 rfl (SQ fun _ K2=>SR fun _ K3=>Rm rfl (Rl uJ rfl (Rm rfl (Rl uJ rfl (Rc rfl (Kz K3 (Cd rfl ?_ ?_)))))))) <;> clear H K1 K3
 ·intro h10 a H
  try have lN:=dT h10
  exact kP H (SR fun _ K4=>ak K4 rfl (LR results108 rfl fun H=>H.rt (aB (jk fun e=>absurd (aF List.length e) (by omega)).symm)))
 intro h10 a H
 try have lN:=dF h10
 refine kP H (Kc K2 (SQ fun _ K5=>SR fun _ K6=>Rm rfl (Rl uJ rfl (Rm rfl (Kz K6 (SB ?_))))));clear H K2 K6;intro a H;skip;refine eU (ι:=Nat × GH) (Tc:=[(0,_),(1,_),(12,_)]) (Lc:=[]) (fun gh=>[(13,vi gh.1)]) (fun gh=>[]) (fun gh=>gh.2) (fun gh=>gh.1≤A.length∧A.take gh.1=B.take gh.1∧(∀ b o,G b=some o→gh.2 b=some o)) (fun gh=>A.length - gh.1) ((0,G)) (by exact (H).sub ⟨rfl,rfl,rfl,rfl,aD⟩) ?_ ?_
 ·exact ⟨by omega,rfl,fun _ _ h=>h⟩
 clear H;intro gh a w hI H;obtain ⟨k,g⟩:=gh;dsimp only at hI H;obtain ⟨hk,hsame,hgm⟩:=hI;dsimp only [lca,bD] at H;refine kP H (SR fun _ K7=>Rc rfl (Kz K7 (SQ fun _ K8=>Cd rfl ?_ ?_))) <;> clear H K7
 ·intro dN a H
  try have mH:=dT dN
  have hk2:k < A.length:=by omega
  have hk3:k < B.length:=by omega
  obtain ⟨b1,o1,cs1,rfl,Vh,HZ,hr1⟩:=hg k A[k].dat (by simp [hk2]);obtain rfl:=Px hr1;obtain ⟨b2,o2,cs2,rfl,Vi,hrow2,hr2⟩:=hh k B[k].dat (by simp [hk3]);obtain rfl:=Px hr2;refine kP H (Kc K8 (SQ fun _ K9=>SB (SR fun _ aT=>Rm rfl (ak aT rfl (SQ fun _ bC=>?_)))));clear H K8 aT;intro a H;refine dI hmx [[],[],[0,1],[0,1,2],[],[],[4,5],[4,5,6],(ra 0 8)] [] (by kernel_rfl) [_,_,_,.agg A[k].cells.toArray,_,_,_,.agg B[k].cells.toArray,.bool (!decide (A[k]=B[k]))] H (aG (Z0 rfl (Rm rfl)) (Z0 rfl (Rm rfl)) (Z2 0 16 1 17 rfl (Ri uJ vI rfl rfl)) ?_ (aG (Z0 rfl (Rm rfl)) (Z0 rfl (Rm rfl)) (Z2 4 20 5 21 rfl (Ri uJ vI rfl rfl)) ?_ (aU ?_ bZ))) ?_
  ·refine dO 2 18 rfl rfl fun _ a w G1 hG HT H fin=>?_;refine bK vI (cs:=A[k].cells) H wn rfl rfl (fun j v hj=>H.hp.aL (aM hG (aM hgm (HZ j v hj)))) rfl ?_;clear H;intro a H;exact fin H iJ rfl
  ·refine dO 6 22 rfl rfl fun _ a w G1 hG HT H fin=>?_;refine bK vI (cs:=B[k].cells) H wn rfl rfl (fun j v hj=>H.hp.aL (aM hG (aM hgm (hrow2 j v hj)))) rfl ?_;clear H;intro a H;exact fin H iJ rfl
  ·refine dG 3 19 7 23 rfl rfl fun _ a w G1 hG HT H fin=>?_;refine Qn (.inr rfl) aec H wn rfl rfl rfl rfl ?_;clear H;intro a H;exact fin H iJ (aB (aiz A[k] B[k]))
  clear H;intro a w G gM H hv;have H:=H.aQ (hv 8 24 rfl rfl) rfl;clear hv;refine aI ⟨rfl,?_⟩;refine bC _ _ ?_;clear bC;refine lW H rfl ?_ ?_
  ·intro dY
   exact kP H (SR fun _ bJ=>ak bJ rfl (LR results108 rfl fun H=>H.rt (aB (jk fun e=>absurd dY (by subst e;simp)).symm)))
  intro dY
  try have kG:=dF dY
  have hsm:A[k]=B[k]:=by simpa using dY
  refine kP H (Kc K9 (SC (Rd rfl (Rm rfl ?_))));clear H K9;intro a H;refine aI ?_;refine cK ((k+1,G)) (by exact (H).sub ⟨rfl,rfl,rfl,rfl,aD⟩) ?_ ?_
  ·(try dsimp only);exact ⟨by omega,by rw [jF hk2,jF hk3,hsame,hsm],fun b o h=>gM b o (hgm b o h)⟩
  first|omega|(dsimp only;omega)
 intro dN a H
 try have mH:=dF dN
 refine dQ ?_;refine K5 _ _ ?_;clear K5;exact kP H (SR fun _ bT=>ak bT rfl (LR results108 rfl fun H=>H.rt (aB (jY (by rw [jQ (by omega),jQ (by omega)] at hsame;exact hsame)).symm)))
theorem iG.eq_iff (a b:iG):(((a.props=b.props∧a.marks.ins=b.marks.ins)∧a.marks.move=b.marks.move)∧a.marks.dh=b.marks.dh)∧a.marks.layers=b.marks.layers↔a=b:=by
 obtain ⟨p,i,m,d,l⟩:=a;obtain ⟨p2,i2,m2,d2,l2⟩:=b
 simp [and_assoc]
instance:DecidableEq iG:=fun a b=>decidable_of_iff _ (iG.eq_iff a b)
abbrev yT (h:iG) (p d l:aj):aj:=.agg #[p,vi h.marks.ins,vi h.marks.move,d,l]
theorem aed (G:GH) (w0:World) (hG:Hold G w0) (x y:iG) (p d l p2 d2 l2:aj) (hx:jI G x p d l) (hy:jI G y p2 d2 l2) :
  Calls prog 73 #[yT x p d l,yT y p2 d2 l2] w0 (bF w0 G fun r G'=>r=.bool (decide (x=y))):=by
 obtain ⟨pA,pc,rfl,-,-,-⟩:=hx.props.slice;obtain ⟨dA,dc,rfl,-,-,-⟩:=hx.dh.slice;obtain ⟨lA,lc,rfl,-,-,-⟩:=hx.layers.slice;obtain ⟨pA2,pc2,rfl,-,-,-⟩:=hy.props.slice;obtain ⟨dA2,dc2,rfl,-,-,-⟩:=hy.dh.slice;obtain ⟨lA2,lc2,rfl,-,-,-⟩:=hy.layers.slice;have he:=iG.eq_iff x y;refine eN [(0,_),(1,_)] func73 rfl ntmps73 rfl rfl hG ?_;intro a H;refine dH (fun _ K1=>?_);refine fq (cs:=[_,_,_,_,_]) H wn rfl rfl rfl ?_;clear H;intro b2 a w hb2 H;refine fq (cs:=[_,_,_,_,_]) H wn rfl rfl rfl ?_;clear H;intro b3 a w hb3 H;refine kH H (ak K1 rfl (SR fun _ K2=>aW CX AZ 1 rfl rfl (aW CX AZ 0 rfl rfl ?_)));clear H K1;intro a H;refine s_call ach H wn rfl (adY _ _ H.ro x.props y.props _ _ hx.props hy.props) rfl ?_;clear H;rintro v9 G9 a w rfl xG H;refine kH H (Rm rfl (Sp 10 rfl ?_ ?_)) <;> clear H
 ·intro h10 a H
  try have lN:=dT h10
  refine kH H (YF tY h10 rfl (YF wm h10 rfl (YO aH 1 h10 rfl (YF tY h10 rfl (YF wm h10 rfl (YO aH 0 h10 rfl (YC h10 rfl (Pt h10 rfl (Rm rfl (Sp 19 rfl ?_ ?_)))))))))) <;> clear H
  ·intro h19 a H
   try have pY:=dT h19
   refine kH H (YF tY h19 rfl (YF Bn h19 rfl (YO aH 1 h19 rfl (YF tY h19 rfl (YF Bn h19 rfl (YO aH 0 h19 rfl (YC h19 rfl (Pt h19 rfl (Rm rfl (Sp 28 rfl ?_ ?_)))))))))) <;> clear H
   ·intro fE a H
    try have p28:=dT fE
    refine kH H (YF tY fE rfl (YF wo fE rfl (YO wI 1 fE rfl (YF tY fE rfl (YF wo fE rfl (YO wI 0 fE rfl ?_))))));clear H;intro a H;refine s_call aci H (wg H rfl rfl fE) rfl (adW _ _ H.ro x.marks.dh y.marks.dh _ _ (hx.dh.mono xG) (hy.dh.mono xG)) rfl ?_;clear H;rintro v35 Q9 a w rfl Vr H;refine kH H (Pt fE rfl (Rm rfl (Sp 37 rfl ?_ ?_))) <;> clear H
    ·intro h37 a H
     try have p37:=dT h37
     refine kH H (YF tY h37 rfl (YF CW h37 rfl (YO Ec 1 h37 rfl (YF tY h37 rfl (YF CW h37 rfl (YO Ec 0 h37 rfl ?_))))));clear H;intro a H;refine s_call acj H (wg H rfl rfl h37) rfl (adX _ _ H.ro x.marks.layers y.marks.layers _ _ ((hx.layers.mono xG).mono Vr) ((hy.layers.mono xG).mono Vr)) rfl ?_;clear H;rintro v44 ZA a w rfl amc H;exact kH H (Pt h37 rfl (ak K2 rfl (LR results73 rfl fun H=>H.rt (aB (by simp_all)))))
    intro h37 a H
    try have p37:=dF h37
    exact kH H (aY h37 rfl (aS h37 rfl (aS h37 rfl (Pf h37 rfl (ak K2 rfl (LR results73 rfl fun H=>H.rt (aB (by simp_all))))))))
   intro fE a H
   try have p28:=dF fE
   exact kH H (aY fE rfl (aS fE rfl (aS fE rfl (Pf fE rfl (Rm rfl (aY rfl rfl (aS rfl rfl (aS rfl rfl (Pf rfl rfl (ak K2 rfl (LR results73 rfl fun H=>H.rt (aB (by simp_all)))))))))))))
  intro h19 a H
  try have pY:=dF h19
  exact kH H (aY h19 rfl (aS h19 rfl (aS h19 rfl (Pf h19 rfl (Rm rfl (aY rfl rfl (aS rfl rfl (aS rfl rfl (Pf rfl rfl (Rm rfl (aY rfl rfl (aS rfl rfl (aS rfl rfl (Pf rfl rfl (ak K2 rfl (LR results73 rfl fun H=>H.rt (aB (by simp_all))))))))))))))))))
 intro h10 a H
 try have lN:=dF h10
 exact kH H (aY h10 rfl (aS h10 rfl (aS h10 rfl (Pf h10 rfl (Rm rfl (aY rfl rfl (aS rfl rfl (aS rfl rfl (Pf rfl rfl (Rm rfl (aY rfl rfl (aS rfl rfl (aS rfl rfl (Pf rfl rfl (Rm rfl (aY rfl rfl (aS rfl rfl (aS rfl rfl (Pf rfl rfl (ak K2 rfl (LR results73 rfl fun H=>H.rt (aB (by simp_all)))))))))))))))))))))))
end
section
open Go.RowKit
theorem aev:bY prog 199 0 0:=⟨by kernel_rfl⟩
theorem zZ:bY prog 199 1 1:=⟨by kernel_rfl⟩
theorem Uv:bY prog 199 3 3:=⟨by kernel_rfl⟩
theorem EL:bY prog 199 2 2:=⟨by kernel_rfl⟩
theorem Nj:∀ args w,(callFunc 91 args).run prog w=.ok (.enter 91 args) w:=enters func91 rfl (by kernel_rfl)
structure gN where
 st:List bR
 xS:List Int
 Fz:List Int
abbrev aX (st:List bR) (li:List fV) (rv:List fG):gN:=⟨st,li.map fV.id,rv.map fG.id⟩
theorem WC {G:GH} {l:List jh} {A:Option Addr} {n c k:Nat} (hv:av G (.sl 4 (l.map jh.dat)) (.slice A n c)) (hk:k < l.length):∃ b o,A=some ⟨b,o,none⟩∧(∀ j u,l[k].cells[j]?=some u→aL G b (o+k*4+j)=some u):=by
 obtain ⟨A',c',he,_,_,hg⟩:=hv.slice
 injection he with e1 e2 e3
 subst e1;obtain ⟨b,o,cs,h1,h2,h3,h4⟩:=hg k l[k].dat (by simp [hk]);have:=Px h4;subst this;exact ⟨b,o,h1,h3⟩
theorem Tx {G:GH} {l:List jE} {A:Option Addr} {n c k:Nat} (hv:av G (.sl 2 (l.map jE.dat)) (.slice A n c)) (hk:k < l.length):∃ b o,A=some ⟨b,o,none⟩∧(∀ j u,l[k].cells[j]?=some u→aL G b (o+k*2+j)=some u):=by
 obtain ⟨A',c',he,_,_,hg⟩:=hv.slice
 injection he with e1 e2 e3
 subst e1;obtain ⟨b,o,cs,h1,h2,h3,h4⟩:=hg k l[k].dat (by simp [hk]);have:=MR h4;subst this;exact ⟨b,o,h1,h3⟩
def Az (C:gN) (e:Int) (k:Nat) (x:jh) (pk:Int):Int :=
 if x.rev∉C.Fz then 22 else if yP e x.key=false then 4 else if 0 < k∧x.key < pk then 6 else if x.had=false then cu (decide (x.before≠0)) 21 else dK [tT x.key x.before,nO C.st C.xS x.key x.before]
def DN (C:gN) (e:Int) (l:List jh) (k:Nat):Int:=match l[k]? with|some x=>Az C e k x ((l[k - 1]?.map jh.key).getD 0)|none=>0
theorem ahP (G:GH) (w0:World) (hG:Hold G w0) (st:List bR) (li:List fV) (rv:List fG) (b ms ml mr mb mu:Nat) (n:Int) (hck:tH G st li rv ms ml mr mu) (hb:G b=some (fJ b ms ml mr mb mu n).2)
  (e:Int) (l:List jh) (v:aj) (hv:av G (.sl 4 (l.map jh.dat)) v) (k:Nat) (hk:k < l.length) :
  Calls prog 93 #[(aJ b 0),vi e,v,vi k] w0 (bF w0 G fun u G'=>u=vi (DN (aX st li rv) e l k)):=by
 have hc2:aL G b 2=some (.map (some mr)):=by unfold aL;rw [hb];rfl
 obtain ⟨A,c,rfl,hl1,hl2,-⟩:=hv.slice;have hml:maxLen=9223372036854775807:=rfl;rw [bU] at *;obtain ⟨xb,xo,rfl,hrow⟩:=WC hv hk
 have hk1:k - 1 < l.length:=by omega
 obtain ⟨b',o',he',hrow'⟩:=WC hv hk1
 injection he' with he'
 injection he' with e1 e2
 subst e1;subst e2
 have he:DN (aX st li rv) e l k=Az (aX st li rv) e k l[k] l[k - 1].key:=by unfold DN;rw [gY hk,gY hk1];rfl
 obtain ⟨x,hx⟩:∃ x,x=l[k]:=⟨_,rfl⟩;obtain ⟨y,hy⟩:∃ y,y=l[k - 1]:=⟨_,rfl⟩;rw [← hx] at hrow he;rw [← hy] at hrow' he;have hq:=hrow' 1 _ rfl;refine eN [(0,_),(1,_),(2,_),(3,_)] func93 rfl ntmps93 rfl rfl hG ?_;intro a H;refine kP H (SR fun _ K1=>ak K1 rfl (SR fun _ K2=>Rm rfl (Rm rfl (Ri uJ vI rfl rfl ?_))));clear H K1;intro a H;refine bK vI (cs:=x.cells) H wn rfl rfl (fun j v hj=>H.hp.aL (hrow j v hj)) rfl ?_;clear H;intro a H;refine eZ vI H wn rfl ?_;clear H;intro b9 a w yS H;refine bM vI 0 (vs:=[_,_,_,_]) _ H wn rfl rfl rfl rfl rfl rfl rfl rfl ?_;clear H;intro w H;dsimp only [List.set,setRow] at H;refine K2 _ _ ?_;clear K2;refine kP H (SQ fun _ K3=>SB (SQ fun _ K4=>?_));clear H;intro a H;refine dI hmx [[],[0],[0,1],[0,1,2],[],[4],(ra 0 6),(ra 0 7),(ra 0 8)] [8] (by kernel_rfl) [_,_,_,_,_,vi x.rev,.bool (decide (x.rev∈rv.map fG.id)),_] H (aG (Z0 rfl (Rm rfl)) (Z1 0 15 rfl (Rk rfl)) (Z1 1 16 rfl (Rf GL rfl)) (X1 2 17 rfl fun hG=>Rg zx rfl (aM hG hc2)) (aG (Z0 rfl (Rf aev rfl)) (Z1 4 19 rfl (Ro aH 0 rfl)) ?_ (Z1 6 21 rfl (Rn rfl)) (aU (bN rfl) bZ))) ?_
 ·refine dG 3 18 5 20 rfl rfl fun _ a w G1 hG HT H fin=>?_;refine xX (zv:=.bool false) zC nD (by kernel_rfl) H wn rfl rfl (H.ro _ _ (hG _ _ hck.rev)) rfl ?_;clear H;intro a H;rw [DU] at H;exact fin H iJ rfl
 clear H;intro a w G Ah H hv;have H:=H.aQ (hv 7 22 rfl rfl) rfl;clear hv;refine kH H (Ra rfl ?_);clear H;intro a H;refine aI ⟨rfl,?_⟩;refine K4 _ _ ?_;clear K4;refine lW H rfl ?_ ?_
 ·intro dN
  try have mH:=dT dN
  refine kP H (SR fun _ K5=>ak K5 rfl ?_);clear H K5;intro a H;refine lr H results93 rfl ?_
  exact H.rt (by rw [he];refine aF vi ?_;clear he hrow hrow' hq hx hy;unfold Az;(repeat' split) <;> first|rfl|(simp_all;done)|(exfalso;simp_all;done))
 intro dN
 try have mH:=dF dN
 refine kP H (SR fun _ K6=>Rm rfl (aW zZ aH 0 rfl rfl ?_));clear H;intro a H;refine s_call TH H wn rfl (SG (UN _ _ H.ro e x.key)) rfl ?_;clear H;rintro v27 _ a w ⟨⟨_,rfl⟩,rfl⟩ - H;refine kH H (Rn rfl (ak K6 rfl (Cd rfl ?_ ?_))) <;> clear H K6
 ·intro h23 a H
  try have rW:=dT h23
  refine kP H (SR fun _ K7=>ak K7 rfl ?_);clear H K7;intro a H;refine lr H results93 rfl ?_
  exact H.rt (by rw [he];refine aF vi ?_;clear he hrow hrow' hq hx hy;unfold Az;(repeat' split) <;> first|rfl|(simp_all;done)|(exfalso;simp_all;done))
 intro h23 a H
 try have rW:=dF h23
 refine bG (fun _ K8=>?_);replace hq:=aM Ah hq
 by_cases c0:0 < (k:Int)
 ·skip
  by_cases c1:x.key < y.key
  ·skip;refine dI hmx [[],[0],[0,1],[0,1,2],(ra 0 4),[0,1,2],[0,1,2],[0,1,2,6],[0,1,2,5,6,7],[0,1,2,5,6,7,8],[0,1,2,5,6,7,8,9],(ra 0 11),(ra 0 12),(ra 0 13)] [13] (by kernel_rfl) [_,_,_,_,vi x.key,_,_,vi ((k - 1:Nat):Int),_,_,_,_,_] H (aG (Z0 rfl (Rm rfl)) (Z1 0 30 rfl (Rc rfl)) (Z1 1 31 rfl (Rm rfl)) (Z1 2 32 rfl (YF zZ (aC c0) rfl)) (aG (Z2 3 33 2 32 rfl (YO aH 0 (aC c0) rfl)) (Z1 2 32 rfl (YM (aC c0) rfl)) (Z1 2 32 rfl (YM (aC c0) rfl)) ?_ (aG (Z3 5 35 7 37 2 32 rfl (YI uJ vI (aC c0) rfl rfl)) (Z2 8 38 2 32 rfl (YF zZ (aC c0) rfl)) (X2 9 39 2 32 rfl fun hG=>YR aH (aC c0) rfl (aM hG hq)) (Z3 4 34 10 40 2 32 rfl (YC (aC c0) rfl)) (aU (Z2 2 32 11 41 rfl (Pt (aC c0) rfl)) (aU (bN rfl) bZ))))) ?_
   ·refine dG 6 36 2 32 rfl rfl fun _ a w G1 hG HT H fin=>?_;refine mW _ H (wg H rfl rfl (aC c0)) rfl rfl rfl (by omega) (by omega) rfl ?_;clear H;intro a H;exact fin H iJ (by show _=_;first|rfl|exact aF vi (by omega))
   clear H;intro a w G gM H hv;have H:=H.aQ (hv 12 42 rfl rfl) rfl;clear hv;refine kH H (Ra rfl ?_);clear H;intro a H;refine aI ⟨rfl,?_⟩;refine K8 _ _ ?_;clear K8;refine qL H rfl (aC c1) ?_;refine bG (fun _ K9=>?_);have hz:0 < k∧x.key < y.key:=⟨by omega,c1⟩;refine kP H (SC (aV K9 rfl ?_));clear H K9;intro a H;refine lr H results93 rfl ?_
   exact H.rt (by rw [he];refine aF vi ?_;clear he hrow hrow' hq hx hy;unfold Az;(repeat' split) <;> first|rfl|(simp_all;done)|(exfalso;simp_all;done))
  skip;refine dI hmx [[],[0],[0,1],[0,1,2],(ra 0 4),[0,1,2],[0,1,2],[0,1,2,6],[0,1,2,5,6,7],[0,1,2,5,6,7,8],[0,1,2,5,6,7,8,9],(ra 0 11),(ra 0 12),(ra 0 13)] [13] (by kernel_rfl) [_,_,_,_,vi x.key,_,_,vi ((k - 1:Nat):Int),_,_,_,_,_] H (aG (Z0 rfl (Rm rfl)) (Z1 0 30 rfl (Rc rfl)) (Z1 1 31 rfl (Rm rfl)) (Z1 2 32 rfl (YF zZ (aC c0) rfl)) (aG (Z2 3 33 2 32 rfl (YO aH 0 (aC c0) rfl)) (Z1 2 32 rfl (YM (aC c0) rfl)) (Z1 2 32 rfl (YM (aC c0) rfl)) ?_ (aG (Z3 5 35 7 37 2 32 rfl (YI uJ vI (aC c0) rfl rfl)) (Z2 8 38 2 32 rfl (YF zZ (aC c0) rfl)) (X2 9 39 2 32 rfl fun hG=>YR aH (aC c0) rfl (aM hG hq)) (Z3 4 34 10 40 2 32 rfl (YC (aC c0) rfl)) (aU (Z2 2 32 11 41 rfl (Pt (aC c0) rfl)) (aU (bN rfl) bZ))))) ?_
  ·refine dG 6 36 2 32 rfl rfl fun _ a w G1 hG HT H fin=>?_;refine mW _ H (wg H rfl rfl (aC c0)) rfl rfl rfl (by omega) (by omega) rfl ?_;clear H;intro a H;exact fin H iJ (by show _=_;first|rfl|exact aF vi (by omega))
  clear H;intro a w G gM H hv;have H:=H.aQ (hv 12 42 rfl rfl) rfl;clear hv;refine kH H (Ra rfl ?_);clear H;intro a H;refine aI ⟨rfl,?_⟩;refine K8 _ _ ?_;clear K8;refine lI H rfl (aK c1) ?_;refine bG (fun _ aT=>?_)
  have hz:¬ (0 < k∧x.key < y.key):=by first|exact fun h=>c1 h.2|exact fun h=>c0 (by omega)
  refine kP H (SC (aW Uv yg 0 rfl rfl (Rn rfl (aV aT rfl (Cd rfl ?_ ?_))))) <;> clear H aT
  ·intro h43 a H
   try have p43:=dT h43
   refine kP H (SR fun _ bC=>aW EL aH 0 rfl rfl (Rc rfl ?_));clear H;intro a H;refine s_call iZ H wn rfl (jf _ _ H.ro _ 21) rfl ?_;clear H;rintro v50 _ a w ⟨rfl,rfl⟩ - H;refine kH H (ak bC rfl ?_);clear H bC;intro a H;refine lr H results93 rfl ?_
   exact H.rt (by rw [he];refine aF vi ?_;clear he hrow hrow' hq hx hy;unfold Az;(repeat' split) <;> first|rfl|(simp_all;done)|(exfalso;simp_all;done))
  intro h43 a H
  try have p43:=dF h43
  refine fT ?_;refine K3 _ _ ?_;clear K3;refine bG (fun _ bJ=>?_);replace hck:=(hck.mono Ah).mono gM;replace hb:=gM _ _ (Ah _ _ hb);refine dI hmx [[],[0],[],[2],(ra 0 4),[],[],[6],[],[8],(ra 0 10),(ra 0 11),(ra 0 12),(ra 0 13)] [11,12,13] (by kernel_rfl) [_,vi x.key,_,vi x.before,vi (tT x.key x.before),_,_,vi x.key,_,vi x.before,vi (nO st (li.map fV.id) x.key x.before)] H (aG (Z0 rfl (Rf zZ rfl)) (Z1 0 51 rfl (Ro aH 0 rfl)) (Z0 rfl (Rf EL rfl)) (Z1 2 53 rfl (Ro aH 0 rfl)) (aG ?_ (Z0 rfl (Rm rfl)) (Z0 rfl (Rf zZ rfl)) (Z1 6 57 rfl (Ro aH 0 rfl)) (aG (Z0 rfl (Rf EL rfl)) (Z1 8 59 rfl (Ro aH 0 rfl)) ?_ (bN rfl) (aU (bN rfl) (aU (bN rfl) bZ))))) ?_
  ·refine dG 1 52 3 54 rfl rfl fun _ a w G1 hG HT H fin=>?_;refine s_call M0 H wn rfl (MG _ _ H.ro x.key x.before) rfl ?_;clear H;rintro v55 Ja a w rfl Ob H;exact fin H Ob (rfl)
  ·refine pE 5 56 7 58 9 60 rfl rfl fun _ a w G1 hG HT H fin=>?_;refine s_call Nj H wn rfl (MI _ _ H.ro st li rv b ms ml mr mb mu n x.key x.before (hck.mono hG) (hG _ _ hb)) rfl ?_;clear H;rintro v61 ZI a w ⟨rfl,-⟩ Oc H;exact fin H Oc (rfl)
  clear H;intro a w G ni H hv;have H:=H.aQ (hv 4 55 rfl rfl) rfl;have H:=H.aQ (hv 10 61 rfl rfl) rfl;clear hv;refine gU ou gF [_,_] [_,_] H wn rfl rfl rfl rfl rfl (by intro i q h;match i,h with|0,h=>exact h|1,h=>exact h|n+2,h=>simp at h) rfl rfl ?_;clear H;intro b62 a w afQ H;obtain ⟨ZJ,agq,Ox,H⟩:=H.dS;refine s_call pK H wn rfl (pR _ _ H.ro _ _ (wH Ox)) rfl ?_;clear H;rintro v63 _ a w ⟨rfl,rfl⟩ - H;refine kH H (Ra rfl ?_);clear H;intro a H;refine aI ⟨rfl,?_⟩;refine bJ _ _ ?_;clear bJ;refine lr H results93 rfl ?_
  exact H.rt (by rw [he];refine aF vi ?_;clear he hrow hrow' hq hx hy;unfold Az;(repeat' split) <;> first|rfl|(simp_all;done)|(exfalso;simp_all;done))
 skip;refine dI hmx [[],[0],[0,1],[0,1,2],(ra 0 4),[0,1,2],[0,1,2],[0,1,2,6],[0,1,2,5,6,7],[0,1,2,5,6,7,8],[0,1,2,5,6,7,8,9],(ra 0 11),(ra 0 12),(ra 0 13)] [13] (by kernel_rfl) [_,_,_,undef,undef,undef,undef,undef,undef,undef,undef,undef,_] H (aG (Z0 rfl (Rm rfl)) (Z1 0 30 rfl (Rc rfl)) (Z1 1 31 rfl (Rm rfl)) (aN (j:=2) (by kernel_rfl) (fun _ _ _ _ _ h=>h) rfl rfl rfl rfl rfl (fun _ _ h=>aO h (aB (aK c0))) rfl (fun _=>rfl)) (aG (aN (j:=2) (by kernel_rfl) (fun _ _ _ _ _ h=>h) rfl rfl rfl rfl rfl (fun _ _ h=>aO h (aB (aK c0))) rfl (fun _=>rfl)) (aN (j:=2) (by kernel_rfl) (fun _ _ _ _ _ h=>h) rfl rfl rfl rfl rfl (fun _ _ h=>aO h (aB (aK c0))) rfl (fun _=>rfl)) (aN (j:=2) (by kernel_rfl) (fun _ _ _ _ _ h=>h) rfl rfl rfl rfl rfl (fun _ _ h=>aO h (aB (aK c0))) rfl (fun _=>rfl)) (aN (j:=2) (by kernel_rfl) (fun _ _ _ _ _ h=>h) rfl rfl rfl rfl rfl (fun _ _ h=>aO h (aB (aK c0))) rfl (fun _=>rfl)) (aG (aN (j:=2) (by kernel_rfl) (fun _ _ _ _ _ h=>h) rfl rfl rfl rfl rfl (fun _ _ h=>aO h (aB (aK c0))) rfl (fun _=>rfl)) (aN (j:=2) (by kernel_rfl) (fun _ _ _ _ _ h=>h) rfl rfl rfl rfl rfl (fun _ _ h=>aO h (aB (aK c0))) rfl (fun _=>rfl)) (aN (j:=2) (by kernel_rfl) (fun _ _ _ _ _ h=>h) rfl rfl rfl rfl rfl (fun _ _ h=>aO h (aB (aK c0))) rfl (fun _=>rfl)) (aN (j:=2) (by kernel_rfl) (fun _ _ _ _ _ h=>h) rfl rfl rfl rfl rfl (fun _ _ h=>aO h (aB (aK c0))) rfl (fun _=>rfl)) (aU (Z2 2 32 11 41 rfl (Pf (aK c0) rfl)) (aU (bN rfl) bZ))))) ?_
 clear H;intro a w G gM H hv;have H:=H.aQ (hv 12 42 rfl rfl) rfl;clear hv;refine kH H (Ra rfl ?_);clear H;intro a H;refine aI ⟨rfl,?_⟩;refine K8 _ _ ?_;clear K8;refine lI H rfl rfl ?_;refine bG (fun _ bT=>?_)
 have hz:¬ (0 < k∧x.key < y.key):=by first|exact fun h=>c1 h.2|exact fun h=>c0 (by omega)
 refine kP H (SC (aW Uv yg 0 rfl rfl (Rn rfl (aV bT rfl (Cd rfl ?_ ?_))))) <;> clear H bT
 ·intro h43 a H
  try have p43:=dT h43
  refine kP H (SR fun _ bS=>aW EL aH 0 rfl rfl (Rc rfl ?_));clear H;intro a H;refine s_call iZ H wn rfl (jf _ _ H.ro _ 21) rfl ?_;clear H;rintro v50 _ a w ⟨rfl,rfl⟩ - H;refine kH H (ak bS rfl ?_);clear H bS;intro a H;refine lr H results93 rfl ?_
  exact H.rt (by rw [he];refine aF vi ?_;clear he hrow hrow' hq hx hy;unfold Az;(repeat' split) <;> first|rfl|(simp_all;done)|(exfalso;simp_all;done))
 intro h43 a H
 try have p43:=dF h43
 refine fT ?_;refine K3 _ _ ?_;clear K3;refine bG (fun _ dD=>?_);replace hck:=(hck.mono Ah).mono gM;replace hb:=gM _ _ (Ah _ _ hb);refine dI hmx [[],[0],[],[2],(ra 0 4),[],[],[6],[],[8],(ra 0 10),(ra 0 11),(ra 0 12),(ra 0 13)] [11,12,13] (by kernel_rfl) [_,vi x.key,_,vi x.before,vi (tT x.key x.before),_,_,vi x.key,_,vi x.before,vi (nO st (li.map fV.id) x.key x.before)] H (aG (Z0 rfl (Rf zZ rfl)) (Z1 0 51 rfl (Ro aH 0 rfl)) (Z0 rfl (Rf EL rfl)) (Z1 2 53 rfl (Ro aH 0 rfl)) (aG ?_ (Z0 rfl (Rm rfl)) (Z0 rfl (Rf zZ rfl)) (Z1 6 57 rfl (Ro aH 0 rfl)) (aG (Z0 rfl (Rf EL rfl)) (Z1 8 59 rfl (Ro aH 0 rfl)) ?_ (bN rfl) (aU (bN rfl) (aU (bN rfl) bZ))))) ?_
 ·refine dG 1 52 3 54 rfl rfl fun _ a w G1 hG HT H fin=>?_;refine s_call M0 H wn rfl (MG _ _ H.ro x.key x.before) rfl ?_;clear H;rintro v55 Ja a w rfl Ob H;exact fin H Ob (rfl)
 ·refine pE 5 56 7 58 9 60 rfl rfl fun _ a w G1 hG HT H fin=>?_;refine s_call Nj H wn rfl (MI _ _ H.ro st li rv b ms ml mr mb mu n x.key x.before (hck.mono hG) (hG _ _ hb)) rfl ?_;clear H;rintro v61 ZI a w ⟨rfl,-⟩ Oc H;exact fin H Oc (rfl)
 clear H;intro a w G ni H hv;have H:=H.aQ (hv 4 55 rfl rfl) rfl;have H:=H.aQ (hv 10 61 rfl rfl) rfl;clear hv;refine gU ou gF [_,_] [_,_] H wn rfl rfl rfl rfl rfl (by intro i q h;match i,h with|0,h=>exact h|1,h=>exact h|n+2,h=>simp at h) rfl rfl ?_;clear H;intro b62 a w afQ H;obtain ⟨ZJ,agq,Ox,H⟩:=H.dS;refine s_call pK H wn rfl (pR _ _ H.ro _ _ (wH Ox)) rfl ?_;clear H;rintro v63 _ a w ⟨rfl,rfl⟩ - H;refine kH H (Ra rfl ?_);clear H;intro a H;refine aI ⟨rfl,?_⟩;refine dD _ _ ?_;clear dD;refine lr H results93 rfl ?_
 exact H.rt (by rw [he];refine aF vi ?_;clear he hrow hrow' hq hx hy;unfold Az;(repeat' split) <;> first|rfl|(simp_all;done)|(exfalso;simp_all;done))
end
section
open Go.RowKit
theorem FI:Ty prog 140 1 8 [.pointer none] false:=⟨by kernel_rfl,by kernel_rfl⟩
theorem adQ:∀ args w,(callFunc 93 args).run prog w=.ok (.enter 93 args) w:=enters func93 rfl (by kernel_rfl)
theorem FL:Ty prog 27 4 64 [.int .i64 0,.int .i64 0,.slice none 0 0,.slice none 0 0] true:=⟨by kernel_rfl,by kernel_rfl⟩
theorem GN:bY prog 190 0 0:=⟨by kernel_rfl⟩
theorem Uu:bY prog 190 1 1:=⟨by kernel_rfl⟩
theorem adP:∀ args w,(callFunc 92 args).run prog w=.ok (.enter 92 args) w:=enters func92 rfl (by kernel_rfl)
theorem ahO {G:GH} {st:List bR} {li:List fV} {rv:List fG} {b ms ml mr mb mu:Nat} {n:Int} (hck:tH G st li rv ms ml mr mu) (hb:G b=some (fJ b ms ml mr mb mu n).2)
  {x3 x4 QT:Nat} {e:Int} {l:List jh} {v:aj} (h3:aL G x3 0=some (aJ b 0)) (h4:aL G x4 0=some (vi e)) (h11:aL G QT 3=some v) (hv:av G (.sl 4 (l.map jh.dat)) v) :
  rD (.func (.func 92) #[] #[(aJ x3 0),(aJ x4 0),(aJ QT 0)]) G l.length (DN (aX st li rv) e l):=by
 intro k hk G1 w0 hm hG;refine mo (caps:=[(aJ x3 0),(aJ x4 0),(aJ QT 0)]) adP ?_;replace h3:=aM hm h3;replace h4:=aM hm h4;replace h11:=aM hm h11;replace hv:=hv.mono hm;obtain ⟨vA,vn,vc,rfl⟩:=hv.form;refine eN [(0,_),(1,_),(2,_),(3,_)] func92 rfl ntmps92 rfl rfl hG ?_;intro a H;refine kP H (SR fun _ K1=>ak K1 rfl (SR fun _ K2=>Rg FI rfl (by assumption) ?_));clear H K1;intro a H;refine kH H (Rg aH rfl (by assumption) ?_);clear H;intro a H;refine kH H (Rf CW rfl (Rg Ec rfl (by assumption) ?_));clear H;intro a H;refine kH H (Rm rfl ?_);clear H;intro a H;refine s_call adQ H wn rfl (ahP _ _ H.ro st li rv b ms ml mr mb mu n (hck.mono hm) (hm _ _ hb) e l _ hv k hk) rfl ?_;clear H;rintro v11 wM a w rfl J8 H;exact kH H (ak K2 rfl (LR results92 rfl fun H=>H.rt rfl))
def xW (C:gN) (l:List iH):Int:=dK (l.map fun p=>nO C.st C.xS p.key p.value)
def jM (C:gN) (m:vO):Int:=if m.ins≠0∧m.ins∉C.Fz then 22 else if ¬ (0≤m.move∧m.move≤1073741824)∨(m.move≠0∧m.ins=0) then 21 else if 16 < (m.dh.length:Int) then 9 else 0
def wV (C:gN) (k:Nat) (x:jE) (pr:Int):Int:=if x.rev∉C.Fz then 22 else if 0 < k∧x.rev≤pr then 6 else if ¬ (0≤x.move∧x.move≤1073741824) then 21 else 0
def wU (C:gN) (l:List jE) (k:Nat):Int:=match l[k]? with|some x=>wV C k x ((l[k - 1]?.map jE.rev).getD 0)|none=>0
def iI (C:gN) (e:Int) (h:iG):Int:=dK [gI e h.props,xW C h.props,jM C h.marks,kE (wU C h.marks.dh) h.marks.dh.length,cu (decide (64 < (h.marks.layers.length:Int))) 9,kE (DN C e h.marks.layers) h.marks.layers.length]
theorem afY {C:gN} {e:Int} {h:iG} (h1:gI e h.props≠0):iI C e h=gI e h.props:=by simp [iI,dK,h1]
theorem afZ {C:gN} {e:Int} {h:iG} (h1:gI e h.props=0) (h2:xW C h.props≠0):iI C e h=xW C h.props:=by simp [iI,dK,h1,h2]
theorem Ak {C:gN} {e:Int} {h:iG} (h1:gI e h.props=0) (h2:xW C h.props=0) (h3:jM C h.marks≠0):iI C e h=jM C h.marks:=by simp [iI,dK,h1,h2,h3]
theorem aga {C:gN} {e:Int} {h:iG} (h1:gI e h.props=0) (h2:xW C h.props=0) (h3:jM C h.marks=0) (h4:kE (wU C h.marks.dh) h.marks.dh.length≠0):iI C e h=kE (wU C h.marks.dh) h.marks.dh.length:=by simp [iI,dK,h1,h2,h3,h4]
theorem agb {C:gN} {e:Int} {h:iG} (h1:gI e h.props=0) (h2:xW C h.props=0) (h3:jM C h.marks=0) (h4:kE (wU C h.marks.dh) h.marks.dh.length=0) (h5:64 < (h.marks.layers.length:Int)):iI C e h=9:=by simp [iI,dK,h1,h2,h3,h4,cu,h5]
theorem agc {C:gN} {e:Int} {h:iG} (h1:gI e h.props=0) (h2:xW C h.props=0) (h3:jM C h.marks=0) (h4:kE (wU C h.marks.dh) h.marks.dh.length=0) (h5:¬ 64 < (h.marks.layers.length:Int)):iI C e h=kE (DN C e h.marks.layers) h.marks.layers.length:=by simp [iI,dK,h1,h2,h3,h4,cu,h5];exact Eq.symm
theorem XD {C:gN} {l:List iH} {k:Nat} (h:k < l.length):dK ((l.map fun p=>nO C.st C.xS p.key p.value).drop k)=if nO C.st C.xS l[k].key l[k].value≠0 then nO C.st C.xS l[k].key l[k].value else dK ((l.map fun p=>nO C.st C.xS p.key p.value).drop (k+1)):=by
 rw [JN (by simpa using h)];simp
theorem agd (G:GH) (w0:World) (hG:Hold G w0) (st:List bR) (li:List fV) (rv:List fG) (b ms ml mr mb mu:Nat) (n:Int) (hck:tH G st li rv ms ml mr mu) (hb:G b=some (fJ b ms ml mr mb mu n).2)
  (e:Int) (h:iG) (p d l:aj) (hh:jI G h p d l) (hz:qh h≤4294967296) :
  Calls prog 58 #[(aJ b 0),vi e,yT h p d l] w0 (bF w0 G fun u G'=>u=vi (iI (aX st li rv) e h)):=by
 obtain ⟨pA,pc,rfl,-,-,-⟩:=hh.props.slice;obtain ⟨dA,dc,rfl,-,-,-⟩:=hh.dh.slice;obtain ⟨lA,lc,rfl,-,-,-⟩:=hh.layers.slice;have hml:maxLen=9223372036854775807:=rfl;have hzz:=IK h;have hz1:=sj (h.props.map iH.dat);have hz2:=sj (h.marks.dh.map jE.dat);have hz3:=sj (h.marks.layers.map jh.dat)
 simp only [bU] at hh hz1 hz2 hz3 ⊢
 generalize qh h=zz at hz hzz
 refine eN [(0,_),(1,_),(2,_)] func58 rfl ntmps58 rfl rfl hG ?_;intro a H;refine dH (fun _ K1=>?_);refine fq (cs:=[_]) H wn rfl rfl rfl ?_;clear H;intro b3 a w hb3 H;refine fq (cs:=[_]) H wn rfl rfl rfl ?_;clear H;intro b4 a w hb4 H;refine fq (cs:=[_,_,_,_,_]) H wn rfl rfl rfl ?_;clear H;intro b5 a w hb5 H;refine kH H (ak K1 rfl (SQ fun _ K2=>SQ fun _ K3=>?_));clear H K1;intro a H;obtain ⟨ZP,Kg,yR,H⟩:=H.dS;obtain ⟨ZO,EZ,uo,H⟩:=H.dS;obtain ⟨Ga,BI,um,H⟩:=H.dS;replace yR:=BI _ _ (EZ _ _ yR);replace uo:=BI _ _ uo;have hma:∀ b o,G b=some o→Ga b=some o:=fun b o h=>BI _ _ (EZ _ _ (Kg _ _ h));clear BI EZ Kg;replace hck:=hck.mono hma;replace hb:=hma _ _ hb;replace hh:=hh.mono hma
 have g3:aL Ga b3 0=some (aJ b 0):=by unfold aL;rw [um];rfl
 have g4:aL Ga b4 0=some (vi e):=by unfold aL;rw [uo];rfl
 have g50:aL Ga b5 0=some (.slice pA h.props.length pc):=by unfold aL;rw [yR];rfl
 have g51:∀ (j:Nat) (u:aj),[vi h.marks.ins,vi h.marks.move,.slice dA h.marks.dh.length dc,.slice lA h.marks.layers.length lc][j]?=some u→aL Ga b5 (1+j)=some u:=by
  intro j u hj
  unfold aL;rw [yR]
  match j,hj with
  | 0,hj=>exact hj
  | 1,hj=>exact hj
  | 2,hj=>exact hj
  | 3,hj=>exact hj
  | n+4,hj=>simp at hj
 have hc2:aL Ga b 2=some (.map (some mr)):=by unfold aL;rw [hb];rfl
 refine kP H (SC (Rg aH rfl (by assumption) ?_));clear H;intro a H;refine kH H (Rf CX rfl (Rg AZ rfl (by assumption) ?_));clear H;intro a H;refine s_call Uf H wn rfl (SG (Xx _ _ H.ro e h.props _ hh.props)) rfl ?_;clear H;rintro v17 _ a w ⟨⟨_,rfl⟩,rfl⟩ - H;refine kH H (aV K3 rfl (SR fun _ K4=>Rm rfl (Rc rfl (Kz K4 (Cd rfl ?_ ?_))))) <;> clear H K3 K4
 ·intro h19 a H
  try have pY:=dT h19
  refine bG (fun _ K5=>?_);have hE:=afY (C:=aX st li rv) (e:=e) (h:=h) pY;exact kP H (SC (Rm rfl (aV K5 rfl (LR results58 rfl fun H=>H.rt (by rw [hE])))))
 intro h19 a H
 try have pY:=dF h19
 have e1:gI e h.props=0:=by simpa using pY
 refine kP H (Kc K2 (SQ fun _ K6=>SR fun _ K7=>Rf CX rfl (Rg AZ rfl (by assumption) ?_)));clear H K2;intro a H;refine kH H (Rl oU rfl (Rm rfl (Kz K7 (SB ?_))));clear H K7;intro a H;skip;refine eU (ι:=Nat) (Tc:=[(3,_),(4,_),(5,_),(22,_),(23,_)]) (Lc:=[]) (fun gh=>[(24,vi gh)]) (fun gh=>[]) (fun gh=>Ga) (fun gh=>gh≤h.props.length∧dK ((h.props.map fun p=>nO st (li.map fV.id) p.key p.value).drop gh)=xW (aX st li rv) h.props) (fun gh=>h.props.length - gh) (0) (by exact (H).sub ⟨rfl,rfl,rfl,rfl,rfl,rfl,aD⟩) ?_ ?_
 ·exact ⟨ig _,rfl⟩
 clear H;intro gh a w hI H;obtain ⟨k,hgh⟩:∃ x,x=gh:=⟨_,rfl⟩;subst hgh;obtain ⟨hk,heq⟩:=hI;dsimp only [lca,bD] at H;refine kP H (SR fun _ K8=>Rc rfl (Kz K8 (SQ fun _ K9=>Cd rfl ?_ ?_))) <;> clear H K8
 ·intro lY a H
  try have p25:=dT lY
  have hk2:k < h.props.length:=by omega
  obtain ⟨xb,xo,rfl,hrow⟩:=KO hh.props hk2;refine kP H (Kc K9 (SQ fun _ aT=>SB (SR fun _ bC=>Ri oU nA rfl rfl ?_)));clear H K9;intro a H;refine bK nA (cs:=[_,_]) H wn rfl rfl (fun j v hj=>H.hp.aL (hrow j v hj)) rfl ?_;clear H;intro a H;refine eZ nA H wn rfl ?_;clear H;intro b9 a w yS H;refine bM nA 0 (vs:=[_,_]) _ H wn rfl rfl rfl rfl rfl rfl rfl rfl ?_;clear H;intro w H;dsimp only [List.set,setRow] at H;refine bC _ _ ?_;clear bC;refine kP H (SR fun _ bJ=>Rg FI rfl (by assumption) ?_);clear H;intro a H;refine kH H (aW uW aH 0 rfl rfl (aW Ut aH 0 rfl rfl ?_));clear H;intro a H;refine s_call Nj H wn rfl (MI _ _ H.ro st li rv b ms ml mr mb mu n h.props[k].key h.props[k].value hck hb) rfl ?_;clear H;rintro v33 _ a w ⟨rfl,rfl⟩ - H;refine kH H (ak bJ rfl (SR fun _ bT=>Rm rfl (Rc rfl (Kz bT (Cd rfl ?_ ?_))))) <;> clear H bJ bT
  ·intro mY a H
   try have p35:=dT mY
   refine bG (fun _ bS=>?_)
   have hr:xW (aX st li rv) h.props=nO st (li.map fV.id) h.props[k].key h.props[k].value:=by rw [← heq];exact (XD (C:=aX st li rv) hk2).trans (au p35)
   have hE:=(afZ (C:=aX st li rv) (e:=e) (h:=h) e1 (by rw [hr];exact p35)).trans hr;exact kP H (SC (Rm rfl (aV bS rfl (LR results58 rfl fun H=>H.rt (by rw [hE])))))
  intro mY a H
  try have p35:=dF mY
  refine kP H (Kc aT (SC (Rd rfl (Rm rfl ?_))));clear H aT;intro a H;refine aI ?_;refine cK ((k+1)) (by exact (H.dV (Pl:=[_]) (dz:=[]) [] (by decide) rfl).sub ⟨rfl,rfl,rfl,rfl,rfl,rfl,aD⟩) ?_ ?_
  ·exact ⟨by omega,by rw [XD (C:=aX st li rv) hk2,ah (by simpa using p35)] at heq;exact heq⟩
  first|omega|(dsimp only;omega)
 intro lY a H
 try have p25:=dF lY
 refine dQ ?_;refine K6 _ _ ?_;clear K6;refine bG (fun _ dD=>?_)
 have e2:xW (aX st li rv) h.props=0:=by rw [← heq,iq (by rw [bU];omega)];rfl
 refine kP H (SC (Rf tY rfl ?_));clear H;intro a H;refine bK FL (cs:=[vi h.marks.ins,vi h.marks.move,.slice dA h.marks.dh.length dc,.slice lA h.marks.layers.length lc]) H wn rfl rfl (fun j v hj=>H.hp.aL (g51 j v hj)) rfl ?_;clear H;intro a H;refine eZ FL H wn rfl ?_;clear H;intro b11 a w JY H;refine bM FL 0 (vs:=[_,_,_,_]) _ H wn rfl rfl rfl rfl rfl rfl rfl rfl ?_;clear H;intro w H;dsimp only [List.set,setRow] at H;obtain ⟨Gb,hmb,ET,H⟩:=H.dS;replace hck:=hck.mono hmb;replace hb:=hmb _ _ hb;replace hh:=hh.mono hmb;replace g3:=aM hmb g3;replace g4:=aM hmb g4;replace hc2:=aM hmb hc2
 have q0:aL Gb b11 0=some (vi h.marks.ins):=by unfold aL;rw [ET];rfl
 have q1:aL Gb b11 1=some (vi h.marks.move):=by unfold aL;rw [ET];rfl
 have q2:aL Gb b11 2=some (.slice dA h.marks.dh.length dc):=by unfold aL;rw [ET];rfl
 have q3:aL Gb b11 3=some (.slice lA h.marks.layers.length lc):=by unfold aL;rw [ET];rfl
 have hcb:=ahO hck hb g3 g4 q3 hh.layers;refine aI ?_;refine dD _ _ ?_;clear dD;refine qy (ι:=GH) (Tc:=[(3,_),(4,_),(11,_)]) (Lc:=[]) (fun gh=>[]) (fun gh=>[]) (fun gh=>gh) (fun gh=>jM (aX st li rv) h.marks=0∧(∀ b o,Gb b=some o→gh b=some o)) (by exact (H).sub ⟨rfl,rfl,rfl,aD⟩) ?_ ?_
 ·skip;refine yI ?_;refine bG (fun _ dM=>?_)
  by_cases c0:h.marks.ins≠0
  ·skip
   by_cases c1:h.marks.ins∉rv.map fG.id
   ·skip;refine dI hmx [[],[0],[0,1],[0,1,2],(ra 0 4),(ra 0 5),(ra 0 6),(ra 0 7),(ra 0 4),[0,1,2,3,8],(ra 0 10),(ra 0 11),(ra 0 12),(ra 0 13)] [13] (by kernel_rfl) [_,_,_,_,_,(aJ b 0),_,_,_,_,.bool (decide (h.marks.ins∈rv.map fG.id)),.bool (decide (h.marks.ins∉rv.map fG.id)),_] H (aG (Z0 rfl (Rf wm rfl)) (X1 0 41 rfl fun hG=>Rg aH rfl (aM hG q0)) (Z1 1 42 rfl (Rc rfl)) (Z1 2 43 rfl (Rm rfl)) (aG (X1 3 44 rfl fun hG=>YR FI (aC c0) rfl (aM hG g3)) ?_ (Z2 5 46 3 44 rfl (YF GL (aC c0) rfl)) (X2 6 47 3 44 rfl fun hG=>YR zx (aC c0) rfl (aM hG hc2)) (aG (Z1 3 44 rfl (YF wm (aC c0) rfl)) (X2 8 49 3 44 rfl fun hG=>YR aH (aC c0) rfl (aM hG q0)) ?_ ?_ (aU (Z2 3 44 11 52 rfl (Pt (aC c0) rfl)) (aU (bN rfl) bZ))))) ?_
    ·refine dG 4 45 3 44 rfl rfl fun _ a w G1 hG HT H fin=>?_;refine rX H (wg H rfl rfl (aC c0)) rfl rfl ?_;clear H;intro a H;exact fin H iJ rfl
    ·refine pE 7 48 9 50 3 44 rfl rfl fun _ a w G1 hG HT H fin=>?_;refine xX (zv:=.bool false) zC nD (by kernel_rfl) H (wg H rfl rfl (aC c0)) rfl rfl (H.ro _ _ (hG _ _ hck.rev)) rfl ?_;clear H;intro a H;rw [DU] at H;exact fin H iJ rfl
    ·refine dG 10 51 3 44 rfl rfl fun _ a w G1 hG HT H fin=>?_;refine kH H (YN (aC c0) rfl ?_);clear H;intro a H;exact fin H iJ (by show _=_;first|rfl|exact aB decide_not.symm)
    clear H;intro a w G qC H hv;have H:=H.aQ (hv 12 53 rfl rfl) rfl;clear hv;refine kH H (Ra rfl ?_);clear H;intro a H;refine aI ⟨rfl,?_⟩;refine dM _ _ ?_;clear dM;refine qL H rfl (aC c1) ?_;refine bG (fun _ cZ=>?_);have e3:jM (aX st li rv) h.marks=22:=au ⟨c0,c1⟩;have hE:=(Ak (C:=aX st li rv) (e:=e) (h:=h) e1 e2 (by rw [e3];decide)).trans e3;exact kP H (SC (aV cZ rfl (LR results58 rfl fun H=>H.rt (by rw [hE]))))
   skip;refine dI hmx [[],[0],[0,1],[0,1,2],(ra 0 4),(ra 0 5),(ra 0 6),(ra 0 7),(ra 0 4),[0,1,2,3,8],(ra 0 10),(ra 0 11),(ra 0 12),(ra 0 13)] [13] (by kernel_rfl) [_,_,_,_,_,(aJ b 0),_,_,_,_,.bool (decide (h.marks.ins∈rv.map fG.id)),.bool (decide (h.marks.ins∉rv.map fG.id)),_] H (aG (Z0 rfl (Rf wm rfl)) (X1 0 41 rfl fun hG=>Rg aH rfl (aM hG q0)) (Z1 1 42 rfl (Rc rfl)) (Z1 2 43 rfl (Rm rfl)) (aG (X1 3 44 rfl fun hG=>YR FI (aC c0) rfl (aM hG g3)) ?_ (Z2 5 46 3 44 rfl (YF GL (aC c0) rfl)) (X2 6 47 3 44 rfl fun hG=>YR zx (aC c0) rfl (aM hG hc2)) (aG (Z1 3 44 rfl (YF wm (aC c0) rfl)) (X2 8 49 3 44 rfl fun hG=>YR aH (aC c0) rfl (aM hG q0)) ?_ ?_ (aU (Z2 3 44 11 52 rfl (Pt (aC c0) rfl)) (aU (bN rfl) bZ))))) ?_
   ·refine dG 4 45 3 44 rfl rfl fun _ a w G1 hG HT H fin=>?_;refine rX H (wg H rfl rfl (aC c0)) rfl rfl ?_;clear H;intro a H;exact fin H iJ rfl
   ·refine pE 7 48 9 50 3 44 rfl rfl fun _ a w G1 hG HT H fin=>?_;refine xX (zv:=.bool false) zC nD (by kernel_rfl) H (wg H rfl rfl (aC c0)) rfl rfl (H.ro _ _ (hG _ _ hck.rev)) rfl ?_;clear H;intro a H;rw [DU] at H;exact fin H iJ rfl
   ·refine dG 10 51 3 44 rfl rfl fun _ a w G1 hG HT H fin=>?_;refine kH H (YN (aC c0) rfl ?_);clear H;intro a H;exact fin H iJ (by show _=_;first|rfl|exact aB decide_not.symm)
   clear H;intro a w G qC H hv;have H:=H.aQ (hv 12 53 rfl rfl) rfl;clear hv;refine kH H (Ra rfl ?_);clear H;intro a H;refine aI ⟨rfl,?_⟩;refine dM _ _ ?_;clear dM;refine lI H rfl (aK c1) ?_;refine bG (fun _ dW=>?_)
   have hno:¬ (h.marks.ins≠0∧h.marks.ins∉(aX st li rv).Fz):=by first|exact fun h=>c1 h.2|exact fun h=>c0 h.1
   replace q0:=aM qC q0;replace q1:=aM qC q1;replace q2:=aM qC q2;refine kP H (SC (Rf Bn rfl (Rg aH rfl (by assumption) ?_)));clear H;intro a H;refine s_call uV H wn rfl (vo _ _ H.ro h.marks.move 0 1073741824) rfl ?_;clear H;rintro v57 _ a w ⟨rfl,rfl⟩ - H;refine kH H (Rn rfl (Rm rfl (Sp 59 rfl ?_ ?_))) <;> clear H
   ·intro iE a H
    try have p59:=dT iE
    refine kH H (aS iE rfl (aS iE rfl (Ku rfl (Ku rfl (Ku rfl (Ks iE rfl (Pt iE rfl (aV dW rfl (Ct rfl rfl (SQ fun _ fZ=>?_))))))))));clear H dW;intro a H
    have e3:jM (aX st li rv) h.marks=21:=by unfold jM;rw [ah hno,au (by first|(simp_all;done)|(simp_all;omega))]
    have hE:=(Ak (C:=aX st li rv) (e:=e) (h:=h) e1 e2 (by rw [e3];decide)).trans e3;exact kP H (SC (aV fZ rfl (LR results58 rfl fun H=>H.rt (by rw [hE]))))
   intro iE a H
   try have p59:=dF iE
   refine kH H (YF Bn iE rfl (YR aH iE rfl (by assumption) ?_));clear H;intro a H;refine kH H (YC iE rfl (YM iE rfl (Sp 63 rfl ?_ ?_))) <;> clear H
   ·intro h63 a H
    try have p63:=dT h63
    refine kH H (YF wm h63 rfl (YR aH h63 rfl (by assumption) ?_));clear H;intro a H;refine kH H (YC h63 rfl (PT iE h63 rfl (Pf iE rfl (aV dW rfl (Cd rfl ?_ ?_))))) <;> clear H dW
    ·intro iw a H
     try have p54:=dT iw
     refine bG (fun _ eG=>?_)
     have e3:jM (aX st li rv) h.marks=21:=by unfold jM;rw [ah hno,au (by first|(simp_all;done)|(simp_all;omega))]
     have hE:=(Ak (C:=aX st li rv) (e:=e) (h:=h) e1 e2 (by rw [e3];decide)).trans e3;exact kP H (SC (aV eG rfl (LR results58 rfl fun H=>H.rt (by rw [hE]))))
    intro iw a H
    try have p54:=dF iw
    refine bG (fun _ gq=>?_)
    have hn2:¬ (¬ (0≤h.marks.move∧h.marks.move≤1073741824)∨(h.marks.move≠0∧h.marks.ins=0)):=by first|(simp_all;done)|(simp_all;omega)
    refine kP H (SC (Rf wo rfl (Rg wI rfl (by assumption) ?_)));clear H;intro a H;refine kH H (Rl qH rfl (Rc rfl (aV gq rfl (Cd rfl ?_ ?_)))) <;> clear H gq
    ·intro jd a H
     refine bG (fun _ iB=>?_)
     have e3:jM (aX st li rv) h.marks=9:=by unfold jM;rw [ah hno,ah hn2,au (by simpa using jd)]
     have hE:=(Ak (C:=aX st li rv) (e:=e) (h:=h) e1 e2 (by rw [e3];decide)).trans e3;exact kP H (SC (aV iB rfl (LR results58 rfl fun H=>H.rt (by rw [hE]))))
    intro jd a H
    have e3:jM (aX st li rv) h.marks=0:=by unfold jM;rw [ah hno,ah hn2,ah (by simpa using jd)]
    refine fT ?_;refine ⟨_,by exact (H).sub ⟨rfl,rfl,rfl,aD⟩,?_⟩;exact ⟨e3,qC⟩
   intro h63 a H
   try have p63:=dF h63
   refine kH H (aY h63 rfl (PF iE h63 rfl (Pf iE rfl (aV dW rfl (Cf rfl rfl (SQ fun _ jv=>?_))))));clear H dW;intro a H
   have hn2:¬ (¬ (0≤h.marks.move∧h.marks.move≤1073741824)∨(h.marks.move≠0∧h.marks.ins=0)):=by first|(simp_all;done)|(simp_all;omega)
   refine kP H (SC (Rf wo rfl (Rg wI rfl (by assumption) ?_)));clear H;intro a H;refine kH H (Rl qH rfl (Rc rfl (aV jv rfl (Cd rfl ?_ ?_)))) <;> clear H jv
   ·intro jd a H
    refine bG (fun _ jB=>?_)
    have e3:jM (aX st li rv) h.marks=9:=by unfold jM;rw [ah hno,ah hn2,au (by simpa using jd)]
    have hE:=(Ak (C:=aX st li rv) (e:=e) (h:=h) e1 e2 (by rw [e3];decide)).trans e3;exact kP H (SC (aV jB rfl (LR results58 rfl fun H=>H.rt (by rw [hE]))))
   intro jd a H
   have e3:jM (aX st li rv) h.marks=0:=by unfold jM;rw [ah hno,ah hn2,ah (by simpa using jd)]
   refine fT ?_;refine ⟨_,by exact (H).sub ⟨rfl,rfl,rfl,aD⟩,?_⟩;exact ⟨e3,qC⟩
  skip;refine dI hmx [[],[0],[0,1],[0,1,2],(ra 0 4),(ra 0 5),(ra 0 6),(ra 0 7),(ra 0 4),[0,1,2,3,8],(ra 0 10),(ra 0 11),(ra 0 12),(ra 0 13)] [13] (by kernel_rfl) [_,_,_,_,undef,undef,undef,undef,undef,undef,undef,undef,_] H (aG (Z0 rfl (Rf wm rfl)) (X1 0 41 rfl fun hG=>Rg aH rfl (aM hG q0)) (Z1 1 42 rfl (Rc rfl)) (Z1 2 43 rfl (Rm rfl)) (aG (aN (j:=3) (by kernel_rfl) (fun _ _ _ _ _ h=>h) rfl rfl rfl rfl rfl (fun _ _ h=>aO h (aB (aK c0))) rfl (fun _=>rfl)) (aN (j:=3) (by kernel_rfl) (fun _ _ _ _ _ h=>h) rfl rfl rfl rfl rfl (fun _ _ h=>aO h (aB (aK c0))) rfl (fun _=>rfl)) (aN (j:=3) (by kernel_rfl) (fun _ _ _ _ _ h=>h) rfl rfl rfl rfl rfl (fun _ _ h=>aO h (aB (aK c0))) rfl (fun _=>rfl)) (aN (j:=3) (by kernel_rfl) (fun _ _ _ _ _ h=>h) rfl rfl rfl rfl rfl (fun _ _ h=>aO h (aB (aK c0))) rfl (fun _=>rfl)) (aG (aN (j:=3) (by kernel_rfl) (fun _ _ _ _ _ h=>h) rfl rfl rfl rfl rfl (fun _ _ h=>aO h (aB (aK c0))) rfl (fun _=>rfl)) (aN (j:=3) (by kernel_rfl) (fun _ _ _ _ _ h=>h) rfl rfl rfl rfl rfl (fun _ _ h=>aO h (aB (aK c0))) rfl (fun _=>rfl)) (aN (j:=3) (by kernel_rfl) (fun _ _ _ _ _ h=>h) rfl rfl rfl rfl rfl (fun _ _ h=>aO h (aB (aK c0))) rfl (fun _=>rfl)) (aN (j:=3) (by kernel_rfl) (fun _ _ _ _ _ h=>h) rfl rfl rfl rfl rfl (fun _ _ h=>aO h (aB (aK c0))) rfl (fun _=>rfl)) (aU (Z2 3 44 11 52 rfl (Pf (aK c0) rfl)) (aU (bN rfl) bZ))))) ?_
  clear H;intro a w G qC H hv;have H:=H.aQ (hv 12 53 rfl rfl) rfl;clear hv;refine kH H (Ra rfl ?_);clear H;intro a H;refine aI ⟨rfl,?_⟩;refine dM _ _ ?_;clear dM;refine lI H rfl rfl ?_;refine bG (fun _ iX=>?_)
  have hno:¬ (h.marks.ins≠0∧h.marks.ins∉(aX st li rv).Fz):=by first|exact fun h=>c1 h.2|exact fun h=>c0 h.1
  replace q0:=aM qC q0;replace q1:=aM qC q1;replace q2:=aM qC q2;refine kP H (SC (Rf Bn rfl (Rg aH rfl (by assumption) ?_)));clear H;intro a H;refine s_call uV H wn rfl (vo _ _ H.ro h.marks.move 0 1073741824) rfl ?_;clear H;rintro v57 _ a w ⟨rfl,rfl⟩ - H;refine kH H (Rn rfl (Rm rfl (Sp 59 rfl ?_ ?_))) <;> clear H
  ·intro iE a H
   try have p59:=dT iE
   refine kH H (aS iE rfl (aS iE rfl (Ku rfl (Ku rfl (Ku rfl (Ks iE rfl (Pt iE rfl (aV iX rfl (Ct rfl rfl (SQ fun _ kD=>?_))))))))));clear H iX;intro a H
   have e3:jM (aX st li rv) h.marks=21:=by unfold jM;rw [ah hno,au (by first|(simp_all;done)|(simp_all;omega))]
   have hE:=(Ak (C:=aX st li rv) (e:=e) (h:=h) e1 e2 (by rw [e3];decide)).trans e3;exact kP H (SC (aV kD rfl (LR results58 rfl fun H=>H.rt (by rw [hE]))))
  intro iE a H
  try have p59:=dF iE
  refine kH H (YF Bn iE rfl (YR aH iE rfl (by assumption) ?_));clear H;intro a H;refine kH H (YC iE rfl (YM iE rfl (Sp 63 rfl ?_ ?_))) <;> clear H
  ·intro h63 a H
   try have p63:=dT h63
   refine kH H (YF wm h63 rfl (YR aH h63 rfl (by assumption) ?_));clear H;intro a H;refine kH H (YC h63 rfl (PT iE h63 rfl (Pf iE rfl (aV iX rfl (Cd rfl ?_ ?_))))) <;> clear H iX
   ·intro iw a H
    try have p54:=dT iw
    refine bG (fun _ kZ=>?_)
    have e3:jM (aX st li rv) h.marks=21:=by unfold jM;rw [ah hno,au (by first|(simp_all;done)|(simp_all;omega))]
    have hE:=(Ak (C:=aX st li rv) (e:=e) (h:=h) e1 e2 (by rw [e3];decide)).trans e3;exact kP H (SC (aV kZ rfl (LR results58 rfl fun H=>H.rt (by rw [hE]))))
   intro iw a H
   try have p54:=dF iw
   refine bG (fun _ jC=>?_)
   have hn2:¬ (¬ (0≤h.marks.move∧h.marks.move≤1073741824)∨(h.marks.move≠0∧h.marks.ins=0)):=by first|(simp_all;done)|(simp_all;omega)
   refine kP H (SC (Rf wo rfl (Rg wI rfl (by assumption) ?_)));clear H;intro a H;refine kH H (Rl qH rfl (Rc rfl (aV jC rfl (Cd rfl ?_ ?_)))) <;> clear H jC
   ·intro jd a H
    refine bG (fun _ oz=>?_)
    have e3:jM (aX st li rv) h.marks=9:=by unfold jM;rw [ah hno,ah hn2,au (by simpa using jd)]
    have hE:=(Ak (C:=aX st li rv) (e:=e) (h:=h) e1 e2 (by rw [e3];decide)).trans e3;exact kP H (SC (aV oz rfl (LR results58 rfl fun H=>H.rt (by rw [hE]))))
   intro jd a H
   have e3:jM (aX st li rv) h.marks=0:=by unfold jM;rw [ah hno,ah hn2,ah (by simpa using jd)]
   refine fT ?_;refine ⟨_,by exact (H).sub ⟨rfl,rfl,rfl,aD⟩,?_⟩;exact ⟨e3,qC⟩
  intro h63 a H
  try have p63:=dF h63
  refine kH H (aY h63 rfl (PF iE h63 rfl (Pf iE rfl (aV iX rfl (Cf rfl rfl (SQ fun _ oZ=>?_))))));clear H iX;intro a H
  have hn2:¬ (¬ (0≤h.marks.move∧h.marks.move≤1073741824)∨(h.marks.move≠0∧h.marks.ins=0)):=by first|(simp_all;done)|(simp_all;omega)
  refine kP H (SC (Rf wo rfl (Rg wI rfl (by assumption) ?_)));clear H;intro a H;refine kH H (Rl qH rfl (Rc rfl (aV oZ rfl (Cd rfl ?_ ?_)))) <;> clear H oZ
  ·intro jd a H
   refine bG (fun _ qj=>?_)
   have e3:jM (aX st li rv) h.marks=9:=by unfold jM;rw [ah hno,ah hn2,au (by simpa using jd)]
   have hE:=(Ak (C:=aX st li rv) (e:=e) (h:=h) e1 e2 (by rw [e3];decide)).trans e3;exact kP H (SC (aV qj rfl (LR results58 rfl fun H=>H.rt (by rw [hE]))))
  intro jd a H
  have e3:jM (aX st li rv) h.marks=0:=by unfold jM;rw [ah hno,ah hn2,ah (by simpa using jd)]
  refine fT ?_;refine ⟨_,by exact (H).sub ⟨rfl,rfl,rfl,aD⟩,?_⟩;exact ⟨e3,qC⟩
 clear H;intro gh a w hI H;obtain ⟨g,hgh⟩:∃ x,x=gh:=⟨_,rfl⟩;subst hgh;obtain ⟨e3,vk⟩:=hI;replace hck:=hck.mono vk;replace hb:=vk _ _ hb;replace hh:=hh.mono vk;replace g3:=aM vk g3;replace q2:=aM vk q2;replace q3:=aM vk q3;replace hc2:=aM vk hc2;replace hcb:=hcb.mono vk;dsimp only [lca,bD] at H;refine kP H (SQ fun _ qJ=>SR fun _ ql=>Rf wo rfl (Rg wI rfl (by assumption) ?_));clear H;intro a H;refine kH H (Rl qH rfl (Rm rfl (Kz ql (SB ?_))));clear H ql;intro a H;skip;refine eU (ι:=Nat × GH) (Tc:=[(3,_),(4,_),(11,_),(75,_),(76,_)]) (Lc:=[]) (fun gh=>[(77,vi gh.1)]) (fun gh=>[]) (fun gh=>gh.2) (fun gh=>gh.1≤h.marks.dh.length∧dK (((List.range h.marks.dh.length).map (wU (aX st li rv) h.marks.dh)).drop gh.1)=kE (wU (aX st li rv) h.marks.dh) h.marks.dh.length∧(∀ b o,g b=some o→gh.2 b=some o)) (fun gh=>h.marks.dh.length - gh.1) ((0,g)) (by exact (H).sub ⟨rfl,rfl,rfl,rfl,rfl,rfl,aD⟩) ?_ ?_
 ·exact ⟨ig _,rfl,fun _ _ h=>h⟩
 clear H;intro gh a w hI H;obtain ⟨k,g2⟩:=gh;dsimp only at hI H;obtain ⟨hk,heq,hgm⟩:=hI;dsimp only [lca,bD] at H;refine kP H (SR fun _ sJ=>Rc rfl (Kz sJ (SQ fun _ uM=>Cd rfl ?_ ?_))) <;> clear H sJ
 ·intro mR a H
  try have P7:=dT mR
  have hk2:k < h.marks.dh.length:=by omega
  have hd2:=hh.dh.mono hgm;obtain ⟨xb,xo,rfl,hrow⟩:=Tx hd2 hk2
  have hk1:k - 1 < h.marks.dh.length:=by omega
  obtain ⟨b',o',he',hrow'⟩:=Tx hd2 hk1
  injection he' with he'
  injection he' with e1 e2
  subst e1;subst e2
  have hde:wU (aX st li rv) h.marks.dh k=wV (aX st li rv) k h.marks.dh[k] h.marks.dh[k - 1].rev:=by unfold wU;rw [gY hk2,gY hk1];rfl
  have hX:∀ v,wV (aX st li rv) k h.marks.dh[k] h.marks.dh[k - 1].rev=v→v≠0→iI (aX st li rv) e h=v:=fun v h1 h2=>by
   have h4:kE (wU (aX st li rv) h.marks.dh) h.marks.dh.length=v:=by rw [← heq,CO hk2,hde,h1,au h2]
   exact (aga e1 e2 e3 (by rw [h4];exact h2)).trans h4
  have hp:=hrow' 0 _ rfl;have g3':=aM hgm g3;have hc2':=aM hgm hc2;have q2':=aM hgm q2;refine kP H (Kc uM (SQ fun _ rE=>SB (SR fun _ wN=>Rm rfl (Ri qH vH rfl rfl ?_))));clear H uM;intro a H;refine bK vH (cs:=h.marks.dh[k].cells) H wn rfl rfl (fun j v hj=>H.hp.aL (hrow j v hj)) rfl ?_;clear H;intro a H;refine eZ vH H wn rfl ?_;clear H;intro b13 a w JZ H;refine kH H (Ra rfl ?_);clear H;intro a H;refine bM vH 0 (vs:=[_,_]) _ H wn rfl rfl rfl rfl rfl rfl rfl rfl ?_;clear H;intro w H;dsimp only [List.set,setRow] at H;refine wN _ _ ?_;clear wN;refine yI ?_;refine bG (fun _ Cx=>?_);refine dI hmx [[],[0],[0,1],[0,1,2],[],[4],(ra 0 6),(ra 0 7),(ra 0 8)] [8] (by kernel_rfl) [_,_,_,_,_,vi h.marks.dh[k].rev,.bool (decide (h.marks.dh[k].rev∈rv.map fG.id)),_] H (aG (X0 rfl fun hG=>Rg FI rfl (aM hG g3')) (Z1 0 83 rfl (Rk rfl)) (Z1 1 84 rfl (Rf GL rfl)) (X1 2 85 rfl fun hG=>Rg zx rfl (aM hG hc2')) (aG (Z0 rfl (Rf GN rfl)) (Z1 4 87 rfl (Ro aH 0 rfl)) ?_ (Z1 6 89 rfl (Rn rfl)) (aU (bN rfl) bZ))) ?_
  ·refine dG 3 86 5 88 rfl rfl fun _ a w G1 hG HT H fin=>?_;refine xX (zv:=.bool false) zC nD (by kernel_rfl) H wn rfl rfl (H.ro _ _ (hG _ _ (hgm _ _ hck.rev))) rfl ?_;clear H;intro a H;rw [DU] at H;exact fin H iJ rfl
  clear H;intro a w G EO H hv;have H:=H.aQ (hv 7 90 rfl rfl) rfl;clear hv;refine kH H (Ra rfl ?_);clear H;intro a H;refine aI ⟨rfl,?_⟩;refine Cx _ _ ?_;clear Cx;refine lW H rfl ?_ ?_
  ·intro uj
   refine bG (fun _ Cy=>?_);have hE:=hX 22 (by unfold wV;rw [au (by simpa using uj)]) (by decide);exact kP H (SC (aV Cy rfl (LR results58 rfl fun H=>H.rt (by rw [hE]))))
  intro uj
  try have Xt:=dF uj
  have Hr:¬ (h.marks.dh[k].rev∉(aX st li rv).Fz):=by simpa using uj
  refine bG (fun _ pq=>?_);replace hp:=aM EO hp;replace q2':=aM EO q2'
  by_cases c3:0 < (k:Int)
  ·skip
   by_cases c4:h.marks.dh[k].rev≤h.marks.dh[k - 1].rev
   ·skip;refine dI hmx [[],[0],[0,1],[0,1,2],(ra 0 4),[0,1,2],[0,1,2,5],[0,1,2],[0,1,2,7],[0,1,2,5,6,7,8],[0,1,2,5,6,7,8,9],([0,1,2]++ra 5 6),(ra 0 12),(ra 0 13),(ra 0 14)] [14] (by kernel_rfl) [_,_,_,_,vi h.marks.dh[k].rev,_,_,_,vi ((k - 1:Nat):Int),_,_,_,_,_] H (aG (Z0 rfl (Rm rfl)) (Z1 0 92 rfl (Rc rfl)) (Z1 1 93 rfl (Rm rfl)) (Z1 2 94 rfl (YF GN (aC c3) rfl)) (aG (Z2 3 95 2 94 rfl (YO aH 0 (aC c3) rfl)) (Z1 2 94 rfl (YF wo (aC c3) rfl)) (X2 5 97 2 94 rfl fun hG=>YR wI (aC c3) rfl (aM hG q2')) (Z1 2 94 rfl (YM (aC c3) rfl)) (aG ?_ (Z3 6 98 8 100 2 94 rfl (YI qH vH (aC c3) rfl rfl)) (Z2 9 101 2 94 rfl (YF GN (aC c3) rfl)) (X2 10 102 2 94 rfl fun hG=>YR aH (aC c3) rfl (aM hG hp)) (aU (Z3 4 96 11 103 2 94 rfl (YC (aC c3) rfl)) (aU (Z2 2 94 12 104 rfl (Pt (aC c3) rfl)) (aU (bN rfl) bZ)))))) ?_
    ·refine dG 7 99 2 94 rfl rfl fun _ a w G1 hG HT H fin=>?_;refine mW _ H (wg H rfl rfl (aC c3)) rfl rfl rfl (by omega) (by omega) rfl ?_;clear H;intro a H;exact fin H iJ (by show _=_;first|rfl|exact aF vi (by omega))
    clear H;intro a w G JW H hv;have H:=H.aQ (hv 13 105 rfl rfl) rfl;clear hv;refine kH H (Ra rfl ?_);clear H;intro a H;refine aI ⟨rfl,?_⟩;refine pq _ _ ?_;clear pq;refine qL H rfl (aC c4) ?_;refine bG (fun _ Er=>?_);have hz:0 < k∧h.marks.dh[k].rev≤h.marks.dh[k - 1].rev:=⟨by omega,c4⟩;have hE:=hX 6 (by unfold wV;rw [ah Hr,au hz]) (by decide);exact kP H (SC (aV Er rfl (LR results58 rfl fun H=>H.rt (by rw [hE]))))
   skip;refine dI hmx [[],[0],[0,1],[0,1,2],(ra 0 4),[0,1,2],[0,1,2,5],[0,1,2],[0,1,2,7],[0,1,2,5,6,7,8],[0,1,2,5,6,7,8,9],([0,1,2]++ra 5 6),(ra 0 12),(ra 0 13),(ra 0 14)] [14] (by kernel_rfl) [_,_,_,_,vi h.marks.dh[k].rev,_,_,_,vi ((k - 1:Nat):Int),_,_,_,_,_] H (aG (Z0 rfl (Rm rfl)) (Z1 0 92 rfl (Rc rfl)) (Z1 1 93 rfl (Rm rfl)) (Z1 2 94 rfl (YF GN (aC c3) rfl)) (aG (Z2 3 95 2 94 rfl (YO aH 0 (aC c3) rfl)) (Z1 2 94 rfl (YF wo (aC c3) rfl)) (X2 5 97 2 94 rfl fun hG=>YR wI (aC c3) rfl (aM hG q2')) (Z1 2 94 rfl (YM (aC c3) rfl)) (aG ?_ (Z3 6 98 8 100 2 94 rfl (YI qH vH (aC c3) rfl rfl)) (Z2 9 101 2 94 rfl (YF GN (aC c3) rfl)) (X2 10 102 2 94 rfl fun hG=>YR aH (aC c3) rfl (aM hG hp)) (aU (Z3 4 96 11 103 2 94 rfl (YC (aC c3) rfl)) (aU (Z2 2 94 12 104 rfl (Pt (aC c3) rfl)) (aU (bN rfl) bZ)))))) ?_
   ·refine dG 7 99 2 94 rfl rfl fun _ a w G1 hG HT H fin=>?_;refine mW _ H (wg H rfl rfl (aC c3)) rfl rfl rfl (by omega) (by omega) rfl ?_;clear H;intro a H;exact fin H iJ (by show _=_;first|rfl|exact aF vi (by omega))
   clear H;intro a w G JW H hv;have H:=H.aQ (hv 13 105 rfl rfl) rfl;clear hv;refine kH H (Ra rfl ?_);clear H;intro a H;refine aI ⟨rfl,?_⟩;refine pq _ _ ?_;clear pq;refine lI H rfl (aK c4) ?_;refine bG (fun _ FZ=>?_)
   have hz:¬ (0 < k∧h.marks.dh[k].rev≤h.marks.dh[k - 1].rev):=by first|exact fun h=>c4 h.2|exact fun h=>c3 (by omega)
   refine kP H (SC (aW Uu aH 0 rfl rfl ?_));clear H;intro a H;refine s_call uV H wn rfl (vo _ _ H.ro h.marks.dh[k].move 0 1073741824) rfl ?_;clear H;rintro v109 _ a w ⟨rfl,rfl⟩ - H;refine kH H (Rn rfl (aV FZ rfl (Cd rfl ?_ ?_))) <;> clear H FZ
   ·intro xg a H
    try have PZ:=dT xg
    refine bG (fun _ Jc=>?_);have hE:=hX 21 (by unfold wV;rw [ah Hr,ah hz,au (by have h0:=xg;simp at h0;omega)]) (by decide);exact kP H (SC (aV Jc rfl (LR results58 rfl fun H=>H.rt (by rw [hE]))))
   intro xg a H
   try have PZ:=dF xg
   have OC:wV (aX st li rv) k h.marks.dh[k] h.marks.dh[k - 1].rev=0:=by unfold wV;rw [ah Hr,ah hz,ah (by have h0:=xg;simp at h0;omega)]
   have NU:=fun b o h=>JW b o (EO b o (hgm b o h));refine kP H (Kc rE (SC (Rd rfl (Rm rfl ?_))));clear H rE;intro a H;refine aI ?_;refine cK ((k+1,G)) (by exact (H.dV (Pl:=[_]) (dz:=[]) [] (by decide) rfl).sub ⟨rfl,rfl,rfl,rfl,rfl,rfl,aD⟩) ?_ ?_
   ·(try dsimp only);exact ⟨by omega,by rw [CO hk2,ah (by rw [hde];simpa using OC)] at heq;exact heq,NU⟩
   first|omega|(dsimp only;omega)
  skip;refine dI hmx [[],[0],[0,1],[0,1,2],(ra 0 4),[0,1,2],[0,1,2,5],[0,1,2],[0,1,2,7],[0,1,2,5,6,7,8],[0,1,2,5,6,7,8,9],([0,1,2]++ra 5 6),(ra 0 12),(ra 0 13),(ra 0 14)] [14] (by kernel_rfl) [_,_,_,undef,undef,undef,undef,undef,undef,undef,undef,undef,undef,_] H (aG (Z0 rfl (Rm rfl)) (Z1 0 92 rfl (Rc rfl)) (Z1 1 93 rfl (Rm rfl)) (aN (j:=2) (by kernel_rfl) (fun _ _ _ _ _ h=>h) rfl rfl rfl rfl rfl (fun _ _ h=>aO h (aB (aK c3))) rfl (fun _=>rfl)) (aG (aN (j:=2) (by kernel_rfl) (fun _ _ _ _ _ h=>h) rfl rfl rfl rfl rfl (fun _ _ h=>aO h (aB (aK c3))) rfl (fun _=>rfl)) (aN (j:=2) (by kernel_rfl) (fun _ _ _ _ _ h=>h) rfl rfl rfl rfl rfl (fun _ _ h=>aO h (aB (aK c3))) rfl (fun _=>rfl)) (aN (j:=2) (by kernel_rfl) (fun _ _ _ _ _ h=>h) rfl rfl rfl rfl rfl (fun _ _ h=>aO h (aB (aK c3))) rfl (fun _=>rfl)) (aN (j:=2) (by kernel_rfl) (fun _ _ _ _ _ h=>h) rfl rfl rfl rfl rfl (fun _ _ h=>aO h (aB (aK c3))) rfl (fun _=>rfl)) (aG (aN (j:=2) (by kernel_rfl) (fun _ _ _ _ _ h=>h) rfl rfl rfl rfl rfl (fun _ _ h=>aO h (aB (aK c3))) rfl (fun _=>rfl)) (aN (j:=2) (by kernel_rfl) (fun _ _ _ _ _ h=>h) rfl rfl rfl rfl rfl (fun _ _ h=>aO h (aB (aK c3))) rfl (fun _=>rfl)) (aN (j:=2) (by kernel_rfl) (fun _ _ _ _ _ h=>h) rfl rfl rfl rfl rfl (fun _ _ h=>aO h (aB (aK c3))) rfl (fun _=>rfl)) (aN (j:=2) (by kernel_rfl) (fun _ _ _ _ _ h=>h) rfl rfl rfl rfl rfl (fun _ _ h=>aO h (aB (aK c3))) rfl (fun _=>rfl)) (aU (aN (j:=2) (by kernel_rfl) (fun _ _ _ _ _ h=>h) rfl rfl rfl rfl rfl (fun _ _ h=>aO h (aB (aK c3))) rfl (fun _=>rfl)) (aU (Z2 2 94 12 104 rfl (Pf (aK c3) rfl)) (aU (bN rfl) bZ)))))) ?_
  clear H;intro a w G JW H hv;have H:=H.aQ (hv 13 105 rfl rfl) rfl;clear hv;refine kH H (Ra rfl ?_);clear H;intro a H;refine aI ⟨rfl,?_⟩;refine pq _ _ ?_;clear pq;refine lI H rfl rfl ?_;refine bG (fun _ F3=>?_)
  have hz:¬ (0 < k∧h.marks.dh[k].rev≤h.marks.dh[k - 1].rev):=by first|exact fun h=>c4 h.2|exact fun h=>c3 (by omega)
  refine kP H (SC (aW Uu aH 0 rfl rfl ?_));clear H;intro a H;refine s_call uV H wn rfl (vo _ _ H.ro h.marks.dh[k].move 0 1073741824) rfl ?_;clear H;rintro v109 _ a w ⟨rfl,rfl⟩ - H;refine kH H (Rn rfl (aV F3 rfl (Cd rfl ?_ ?_))) <;> clear H F3
  ·intro xg a H
   try have PZ:=dT xg
   refine bG (fun _ Jd=>?_);have hE:=hX 21 (by unfold wV;rw [ah Hr,ah hz,au (by have h0:=xg;simp at h0;omega)]) (by decide);exact kP H (SC (aV Jd rfl (LR results58 rfl fun H=>H.rt (by rw [hE]))))
  intro xg a H
  try have PZ:=dF xg
  have OC:wV (aX st li rv) k h.marks.dh[k] h.marks.dh[k - 1].rev=0:=by unfold wV;rw [ah Hr,ah hz,ah (by have h0:=xg;simp at h0;omega)]
  have NU:=fun b o h=>JW b o (EO b o (hgm b o h));refine kP H (Kc rE (SC (Rd rfl (Rm rfl ?_))));clear H rE;intro a H;refine aI ?_;refine cK ((k+1,G)) (by exact (H.dV (Pl:=[_]) (dz:=[]) [] (by decide) rfl).sub ⟨rfl,rfl,rfl,rfl,rfl,rfl,aD⟩) ?_ ?_
  ·(try dsimp only);exact ⟨by omega,by rw [CO hk2,ah (by rw [hde];simpa using OC)] at heq;exact heq,NU⟩
  first|omega|(dsimp only;omega)
 intro mR a H
 try have P7:=dF mR
 refine dQ ?_;refine qJ _ _ ?_;clear qJ;refine bG (fun _ F4=>?_);refine bG (fun _ F5=>?_)
 have e4:kE (wU (aX st li rv) h.marks.dh) h.marks.dh.length=0:=by rw [← heq,iq (by simp;omega)];rfl
 replace q3:=aM hgm q3;refine kP H (SC (Rf CW rfl (Rg Ec rfl (by assumption) ?_)));clear H;intro a H;refine kH H (Rl uJ rfl (Rc rfl (Kn F5 (Cd rfl ?_ ?_)))) <;> clear H F5
 ·intro NA a H
  try have P5:=dT NA
  refine bG (fun _ Je=>?_);have hE:=agb (C:=aX st li rv) (e:=e) (h:=h) e1 e2 e3 e4 P5;exact kP H (SC (aV Je rfl (LR results58 rfl fun H=>H.rt (by rw [hE]))))
 intro NA a H
 try have P5:=dF NA
 refine fT ?_;refine F4 _ _ ?_;clear F4;refine bG (fun _ Jf=>?_);have hE:=agc (C:=aX st li rv) (e:=e) (h:=h) e1 e2 e3 e4 P5;refine kP H (SC (Rf CW rfl (Rg Ec rfl (by assumption) ?_)));clear H;intro a H;refine kH H (Rl uJ rfl ?_);clear H;intro a H;refine qd H wn rfl rfl ?_;clear H;intro a H;refine s_call EI H wn rfl (Gf _ _ H.ro h.marks.layers.length (DN (aX st li rv) e h.marks.layers) _ (by omega) (hcb.mono hgm)) rfl ?_;clear H;rintro amB als a w rfl alC H;exact kH H (aV Jf rfl (LR results58 rfl fun H=>H.rt (by rw [hE])))
end
section
open Go.RowKit
theorem CY:bY prog 63 1 1:=⟨by kernel_rfl⟩
def codeOk (x:ay):Bool:=if x.kind=4 then decide (1≤x.code∧x.code≤3) else if x.kind=6 then decide (1≤x.code∧x.code≤2) else if x.kind=8 then decide (1≤x.code∧x.code≤4) else true
def zq (x:ay):Bool:=decide (x.kind=8∧x.code=1)
def zD (x:ay):Bool:=decide (x.kind=1∨x.kind=5) || zq x
def zi (x:ay):Bool:=decide (x.kind=6∨x.kind=7∨x.kind=8)
def yK (x:ay):Bool:=decide (x.kind=4∨x.kind=6∨x.kind=8)
def sQ (s:ByteArray):Bool:=s.toList == (⟨#[]⟩:ByteArray).toList
def wC (x:ay):Bool:=!yK x && decide (x.code≠0) || !zi x && decide (x.id≠0) || !zD x && !sQ x.text || decide (x.kind≠6) && decide (0 < (x.flow.length:Int)) || decide (x.kind≠7) && decide (0 < (x.rows.length:Int))
def kK (x:ay):Int :=
 if (!decide (1≤x.kind∧x.kind≤8) || !codeOk x)=true then 3 else if wC x=true then 15 else if qg x.text=false then 12 else if (decide (x.kind=1∨x.kind=5) && sQ x.text)=true then 11
 else if (decide (x.kind=5) && decide (1024 < (x.text.size:Int)))=true then 10 else if (zq x && !pJ x.text)=true then 13 else 0
theorem aeX (G:GH) (w0:World) (hG:Hold G w0) (x:ay) (p d l:aj) (fA rA:Option Addr) (fc rc:Nat) (hs:x.text.size < 4611686018427387904) :
  Calls prog 127 #[.agg #[vi x.kind,vi x.code,vi x.id,.string x.text,p,vi x.head.marks.ins,vi x.head.marks.move,d,l,.slice fA x.flow.length fc,.slice rA x.rows.length rc]] w0 (bF w0 G fun u G'=>u=vi (kK x)∧G=G'):=by
 refine eN [(0,_)] func127 rfl ntmps127 rfl rfl hG ?_;intro a H;refine dH (fun _ K1=>?_);refine fq (cs:=[_,_,_,_,_,_,_,_,_,_,_]) H wn rfl rfl rfl ?_;clear H;intro b1 a w hb1 H;refine kH H (ak K1 rfl ?_);clear H K1;intro a H;refine qy (ι:=Bool) (Tc:=[(1,_)]) (Lc:=[(_,_)]) (fun gh=>[(3,.bool gh)]) (fun gh=>[]) (fun gh=>G) (fun gh=>gh=zq x) (by exact (H).sub ⟨rfl,aD⟩) ?_ ?_
 ·skip;refine kP H (SC (aW jD aH 0 rfl rfl (Rc rfl (Rm rfl (Sp 11 rfl ?_ ?_))))) <;> clear H
  ·intro h11 a H
   try have nM:=dT h11
   refine kH H (YF CY h11 rfl (YO aH 0 h11 rfl (YC h11 rfl (Pt h11 rfl (Ra rfl ?_)))));clear H;intro a H;refine aI ?_;refine ⟨_,by exact (H).sub ⟨rfl,rfl,aD⟩,?_⟩
   unfold zq;first|(simp_all;done)
  intro h11 a H
  try have nM:=dF h11
  refine kH H (aY h11 rfl (Pf h11 rfl (Ra rfl ?_)));clear H;intro a H;refine aI ?_;refine ⟨_,by exact (H).sub ⟨rfl,rfl,aD⟩,?_⟩
  unfold zq;first|(simp_all;done)
 clear H;intro gh a w hI H;obtain ⟨st,hgh⟩:∃ x,x=gh:=⟨_,rfl⟩;subst hgh;have hst:=hI;dsimp only [lca,bD] at H;refine qy (ι:=Bool) (Tc:=[(1,_),(3,_)]) (Lc:=[(_,_)]) (fun gh=>[(4,.bool gh)]) (fun gh=>[]) (fun gh=>G) (fun gh=>gh=zD x) (by exact (H).sub ⟨rfl,rfl,aD⟩) ?_ ?_
 ·skip;refine kP H (SC (aW jD aH 0 rfl rfl (Rc rfl (Rm rfl (Sp 19 rfl ?_ ?_))))) <;> clear H
  ·intro h19 a H
   try have pY:=dT h19
   refine kH H (aY h19 rfl (Pt h19 rfl (Rm rfl (Ks rfl rfl (Pt rfl rfl (Ra rfl ?_))))));clear H;intro a H;refine aI ?_;refine ⟨_,by exact (H).sub ⟨rfl,rfl,rfl,aD⟩,?_⟩
   unfold zD;first|(simp_all;done)
  intro h19 a H
  try have pY:=dF h19
  refine kH H (YF jD h19 rfl (YO aH 0 h19 rfl (YC h19 rfl (Pf h19 rfl (Rm rfl (Sp 24 rfl ?_ ?_)))))) <;> clear H
  ·intro dY a H
   try have kG:=dT dY
   refine kH H (Ks dY rfl (Pt dY rfl (Ra rfl ?_)));clear H;intro a H;refine aI ?_;refine ⟨_,by exact (H).sub ⟨rfl,rfl,rfl,aD⟩,?_⟩
   unfold zD;first|(simp_all;done)
  intro dY a H
  try have kG:=dF dY
  refine kH H (YM dY rfl (Pf dY rfl (Ra rfl ?_)));clear H;intro a H;refine aI ?_;refine ⟨_,by exact (H).sub ⟨rfl,rfl,rfl,aD⟩,?_⟩
  unfold zD;first|(simp_all;done)
 clear H;intro gh a w hI H;obtain ⟨wd,hgh⟩:∃ x,x=gh:=⟨_,rfl⟩;subst hgh;have hwd:=hI;dsimp only [lca,bD] at H;refine qy (ι:=Bool) (Tc:=[(1,_),(3,_),(4,_)]) (Lc:=[(_,_)]) (fun gh=>[(5,.bool gh)]) (fun gh=>[]) (fun gh=>G) (fun gh=>gh=zi x) (by exact (H).sub ⟨rfl,rfl,rfl,aD⟩) ?_ ?_
 ·skip;refine kP H (SC (aW jD aH 0 rfl rfl (Rc rfl (Rm rfl (Sp 30 rfl ?_ ?_))))) <;> clear H
  ·intro qM a H
   try have p30:=dT qM
   refine kH H (aY qM rfl (Pt qM rfl (Rm rfl (aY rfl rfl (Pt rfl rfl (Ra rfl ?_))))));clear H;intro a H;refine aI ?_;refine ⟨_,by exact (H).sub ⟨rfl,rfl,rfl,rfl,aD⟩,?_⟩
   unfold zi;first|(simp_all;done)
  intro qM a H
  try have p30:=dF qM
  refine kH H (YF jD qM rfl (YO aH 0 qM rfl (YC qM rfl (Pf qM rfl (Rm rfl (Sp 35 rfl ?_ ?_)))))) <;> clear H
  ·intro mY a H
   try have p35:=dT mY
   refine kH H (aY mY rfl (Pt mY rfl (Ra rfl ?_)));clear H;intro a H;refine aI ?_;refine ⟨_,by exact (H).sub ⟨rfl,rfl,rfl,rfl,aD⟩,?_⟩
   unfold zi;first|(simp_all;done)
  intro mY a H
  try have p35:=dF mY
  refine kH H (YF jD mY rfl (YO aH 0 mY rfl (YC mY rfl (Pf mY rfl (Ra rfl ?_)))));clear H;intro a H;refine aI ?_;refine ⟨_,by exact (H).sub ⟨rfl,rfl,rfl,rfl,aD⟩,?_⟩
  unfold zi;first|(simp_all;done)
 clear H;intro gh a w hI H;obtain ⟨nm,hgh⟩:∃ x,x=gh:=⟨_,rfl⟩;subst hgh;have hnm:=hI;dsimp only [lca,bD] at H;refine kP H (SR fun _ K2=>ak K2 rfl ?_);clear H K2;intro a H;refine qy (ι:=Bool) (Tc:=[(1,_),(3,_),(4,_),(5,_)]) (Lc:=[(_,_)]) (fun gh=>[(6,.bool gh)]) (fun gh=>[]) (fun gh=>G) (fun gh=>gh=codeOk x) (by exact (H).sub ⟨rfl,rfl,rfl,rfl,aD⟩) ?_ ?_
 ·skip;refine kP H (SR fun _ K3=>aW jD aH 0 rfl rfl (Kz K3 (SB (SR fun _ K4=>Rc rfl (ak K4 rfl (Cd rfl ?_ ?_)))))) <;> clear H K3 K4
  ·intro C9 a H
   try have p42:=dT C9
   refine kP H (SC (aW CY aH 0 rfl rfl ?_));clear H;intro a H;refine s_call uV H wn rfl (vo _ _ H.ro x.code 1 3) rfl ?_;clear H;rintro v46 _ a w ⟨rfl,rfl⟩ - H;refine kH H (Ra rfl ?_);clear H;intro a H;refine aI ?_;refine ⟨_,by exact (H).sub ⟨rfl,rfl,rfl,rfl,rfl,aD⟩,?_⟩
   unfold codeOk;first|(simp_all;done)
  intro C9 a H
  try have p42:=dF C9
  refine kP H (SR fun _ K5=>Rc rfl (ak K5 rfl (Cd rfl ?_ ?_))) <;> clear H K5
  ·intro h47 a H
   try have p47:=dT h47
   refine kP H (SC (aW CY aH 0 rfl rfl ?_));clear H;intro a H;refine s_call uV H wn rfl (vo _ _ H.ro x.code 1 2) rfl ?_;clear H;rintro v51 _ a w ⟨rfl,rfl⟩ - H;refine kH H (Ra rfl ?_);clear H;intro a H;refine aI ?_;refine ⟨_,by exact (H).sub ⟨rfl,rfl,rfl,rfl,rfl,aD⟩,?_⟩
   unfold codeOk;first|(simp_all;done)
  intro h47 a H
  try have p47:=dF h47
  refine kP H (SR fun _ K6=>Rc rfl (ak K6 rfl (Cd rfl ?_ ?_))) <;> clear H K6
  ·intro mZ a H
   try have p52:=dT mZ
   refine kP H (SC (aW CY aH 0 rfl rfl ?_));clear H;intro a H;refine s_call uV H wn rfl (vo _ _ H.ro x.code 1 4) rfl ?_;clear H;rintro v56 _ a w ⟨rfl,rfl⟩ - H;refine kH H (Ra rfl ?_);clear H;intro a H;refine aI ?_;refine ⟨_,by exact (H).sub ⟨rfl,rfl,rfl,rfl,rfl,aD⟩,?_⟩
   unfold codeOk;first|(simp_all;done)
  intro mZ a H
  try have p52:=dF mZ
  refine fT ?_;refine ⟨_,by exact (H).sub ⟨rfl,rfl,rfl,rfl,rfl,aD⟩,?_⟩
  unfold codeOk;first|(simp_all;done)
 clear H;intro gh a w hI H;obtain ⟨ck,hgh⟩:∃ x,x=gh:=⟨_,rfl⟩;subst hgh;have hck:=hI;dsimp only [lca,bD] at H;refine qy (ι:=Bool) (Tc:=[(1,_),(3,_),(4,_),(5,_),(6,_)]) (Lc:=[(_,_)]) (fun gh=>[(7,.bool gh)]) (fun gh=>[]) (fun gh=>G) (fun gh=>gh=yK x) (by exact (H).sub ⟨rfl,rfl,rfl,rfl,rfl,aD⟩) ?_ ?_
 ·skip;refine kP H (SC (aW jD aH 0 rfl rfl (Rc rfl (Rm rfl (Sp 60 rfl ?_ ?_))))) <;> clear H
  ·intro jm a H
   try have p60:=dT jm
   refine kH H (aY jm rfl (Pt jm rfl (Rm rfl (aY rfl rfl (Pt rfl rfl (Ra rfl ?_))))));clear H;intro a H;refine aI ?_;refine ⟨_,by exact (H).sub ⟨rfl,rfl,rfl,rfl,rfl,rfl,aD⟩,?_⟩
   unfold yK;first|(simp_all;done)
  intro jm a H
  try have p60:=dF jm
  refine kH H (YF jD jm rfl (YO aH 0 jm rfl (YC jm rfl (Pf jm rfl (Rm rfl (Sp 65 rfl ?_ ?_)))))) <;> clear H
  ·intro qN a H
   try have p65:=dT qN
   refine kH H (aY qN rfl (Pt qN rfl (Ra rfl ?_)));clear H;intro a H;refine aI ?_;refine ⟨_,by exact (H).sub ⟨rfl,rfl,rfl,rfl,rfl,rfl,aD⟩,?_⟩
   unfold yK;first|(simp_all;done)
  intro qN a H
  try have p65:=dF qN
  refine kH H (YF jD qN rfl (YO aH 0 qN rfl (YC qN rfl (Pf qN rfl (Ra rfl ?_)))));clear H;intro a H;refine aI ?_;refine ⟨_,by exact (H).sub ⟨rfl,rfl,rfl,rfl,rfl,rfl,aD⟩,?_⟩
  unfold yK;first|(simp_all;done)
 clear H;intro gh a w hI H;obtain ⟨cd,hgh⟩:∃ x,x=gh:=⟨_,rfl⟩;subst hgh;have hcd:=hI;dsimp only [lca,bD] at H;refine kP H (SQ fun _ K7=>SB (SR fun _ K8=>?_));clear H;intro a H;refine Bb (ι:=Bool) (Tc:=[(1,_),(3,_),(4,_),(5,_),(7,_)]) 8 (fun (q0:Bool)=>[(78,.bool q0)]) (fun (q0:Bool)=>q0=(!decide (1≤x.kind∧x.kind≤8) || !codeOk x)) (by exact H.sub ⟨rfl,rfl,rfl,rfl,rfl,aD⟩) ?_ ?_
 ·intro U6;refine kH H (aW jD aH 0 rfl rfl ?_);clear H;intro a H;refine s_call uV H wn rfl (vo _ _ H.ro x.kind 1 8) rfl ?_;clear H;rintro v73 _ a w ⟨rfl,rfl⟩ - H;refine kH H (Rn rfl (Rm rfl (Sp 75 rfl ?_ ?_))) <;> clear H
  ·intro Bw a H
   try have p75:=dT Bw
   refine kH H (aS Bw rfl (Pt Bw rfl ?_));clear H;intro a H;refine U6 (_) _ _ ?_ (by exact H.sub ⟨rfl,rfl,rfl,rfl,rfl,rfl,aD⟩);rw [← hck];clear hst hwd hnm hck hcd;(try clear hq1);(try clear hq2);(try clear hq3);(try clear hq0);(try clear hq4);(try clear mE);(try clear mF);(try clear mG);simp_all
  intro Bw a H
  try have p75:=dF Bw
  refine kH H (YM Bw rfl (YN Bw rfl (Pf Bw rfl ?_)));clear H;intro a H;refine U6 (_) _ _ ?_ (by exact H.sub ⟨rfl,rfl,rfl,rfl,rfl,rfl,aD⟩);rw [← hck];clear hst hwd hnm hck hcd;(try clear hq1);(try clear hq2);(try clear hq3);(try clear hq0);(try clear hq4);(try clear mE);(try clear mF);(try clear mG);simp_all
 clear H;intro q0 a w hI H;dsimp only [lca,bD] at H;simp only [zS,uR];have hq0:=hI;refine kH H (ak K8 rfl (Cd rfl ?_ ?_)) <;> clear H K8
 ·intro qO a H
  refine bG (fun _ K9=>?_)
  have e:kK x=3:=by unfold kK;rw [au (by rw [← hq0];exact qO)]
  exact kP H (SC (aV K9 rfl (LR results127 rfl fun H=>H.rt ⟨by rw [e],rfl⟩)))
 intro qO a H
 try have p70:=dF qO
 have f0:¬ (!decide (1≤x.kind∧x.kind≤8) || !codeOk x)=true:=by rw [← hq0,qO];decide
 refine dH (fun _ aT=>?_);refine Bb (ι:=Bool) (Tc:=[(1,_),(3,_),(4,_),(5,_)]) 7 (fun (q1:Bool)=>[(86,.bool q1)]) (fun (q1:Bool)=>q1=(!yK x && decide (x.code≠0))) (by exact H.sub ⟨rfl,rfl,rfl,rfl,aD⟩) ?_ ?_
 ·intro U7;refine kH H (Rm rfl (Rn rfl (Rm rfl (Sp 82 rfl ?_ ?_)))) <;> clear H
  ·intro uj a H
   try have Xt:=dT uj
   refine kH H (YF CY uj rfl (YO aH 0 uj rfl (YC uj rfl (Pt uj rfl ?_))));clear H;intro a H;refine U7 (_) _ _ ?_ (by exact H.sub ⟨rfl,rfl,rfl,rfl,rfl,aD⟩);rw [← hcd];clear hst hwd hnm hck hcd;(try clear hq1);(try clear hq2);(try clear hq3);(try clear hq0);(try clear hq4);(try clear mE);(try clear mF);(try clear mG);simp_all
  intro uj a H
  try have Xt:=dF uj
  refine kH H (aY uj rfl (Pf uj rfl ?_));clear H;intro a H;refine U7 (_) _ _ ?_ (by exact H.sub ⟨rfl,rfl,rfl,rfl,rfl,aD⟩);rw [← hcd];clear hst hwd hnm hck hcd;(try clear hq1);(try clear hq2);(try clear hq3);(try clear hq0);(try clear hq4);(try clear mE);(try clear mF);(try clear mG);simp_all
 clear H;intro q1 a w hI H;dsimp only [lca,bD] at H;simp only [zS,uR];have hq1:=hI;refine Bb (ι:=Bool) (Tc:=[(1,_),(3,_),(4,_)]) 9 (fun (q2:Bool)=>[(95,.bool q2)]) (fun (q2:Bool)=>q2=(q1 || !zi x && decide (x.id≠0))) (by exact H.sub ⟨rfl,rfl,rfl,aD⟩) ?_ ?_
 ·intro Ol;refine kH H (Rm rfl (Sp 87 rfl ?_ ?_)) <;> clear H
  ·intro h87 a H
   try have P9:=dT h87
   refine kH H (aY h87 rfl (Ku rfl (Ku rfl (Ku rfl (Ks h87 rfl (Pt h87 rfl ?_))))));clear H;intro a H;refine Ol (_) _ _ ?_ (by exact H.sub ⟨rfl,rfl,rfl,rfl,aD⟩);rw [← hnm];clear hst hwd hnm hck hcd;(try clear hq1);(try clear hq2);(try clear hq3);(try clear hq0);(try clear hq4);(try clear mE);(try clear mF);(try clear mG);simp_all
  intro h87 a H
  try have P9:=dF h87
  refine kH H (YM h87 rfl (YN h87 rfl (YM h87 rfl (Sp 90 rfl ?_ ?_)))) <;> clear H
  ·intro Af a H
   try have p90:=dT Af
   refine kH H (YF yO Af rfl (YO aH 0 Af rfl (YC Af rfl (PT h87 Af rfl (Pf h87 rfl ?_)))));clear H;intro a H;refine Ol (_) _ _ ?_ (by exact H.sub ⟨rfl,rfl,rfl,rfl,aD⟩);rw [← hnm];clear hst hwd hnm hck hcd;(try clear hq1);(try clear hq2);(try clear hq3);(try clear hq0);(try clear hq4);(try clear mE);(try clear mF);(try clear mG);simp_all
  intro Af a H
  try have p90:=dF Af
  refine kH H (aY Af rfl (PF h87 Af rfl (Pf h87 rfl ?_)));clear H;intro a H;refine Ol (_) _ _ ?_ (by exact H.sub ⟨rfl,rfl,rfl,rfl,aD⟩);rw [← hnm];clear hst hwd hnm hck hcd;(try clear hq1);(try clear hq2);(try clear hq3);(try clear hq0);(try clear hq4);(try clear mE);(try clear mF);(try clear mG);simp_all
 clear H;intro q2 a w hI H;dsimp only [lca,bD] at H;simp only [zS,uR];have hq2:=hI;refine Bb (ι:=Bool) (Tc:=[(1,_),(3,_)]) 9 (fun (q3:Bool)=>[(104,.bool q3)]) (fun (q3:Bool)=>q3=(q2 || !zD x && !sQ x.text)) (by exact H.sub ⟨rfl,rfl,aD⟩) ?_ ?_
 ·intro Oh;refine kH H (Rm rfl (Sp 96 rfl ?_ ?_)) <;> clear H
  ·intro qP a H
   try have Im:=dT qP
   refine kH H (aY qP rfl (Ku rfl (Ku rfl (Ku rfl (Ks qP rfl (Pt qP rfl ?_))))));clear H;intro a H;refine Oh (_) _ _ ?_ (by exact H.sub ⟨rfl,rfl,rfl,aD⟩);rw [← hwd];clear hst hwd hnm hck hcd;(try clear hq1);(try clear hq2);(try clear hq3);(try clear hq0);(try clear hq4);(try clear mE);(try clear mF);(try clear mG);simp_all [sQ]
  intro qP a H
  try have Im:=dF qP
  refine kH H (YM qP rfl (YN qP rfl (YM qP rfl (Sp 99 rfl ?_ ?_)))) <;> clear H
  ·intro Ag a H
   try have p99:=dT Ag
   refine kH H (YF tZ Ag rfl (YO gG 0 Ag rfl ?_));clear H;intro a H;refine ajI H (wg H rfl rfl Ag) rfl rfl rfl ?_;clear H;intro a H;refine kH H (PT qP Ag rfl (Pf qP rfl ?_));clear H;intro a H;refine Oh (_) _ _ ?_ (by exact H.sub ⟨rfl,rfl,rfl,aD⟩);rw [← hwd];clear hst hwd hnm hck hcd;(try clear hq1);(try clear hq2);(try clear hq3);(try clear hq0);(try clear hq4);(try clear mE);(try clear mF);(try clear mG);simp_all [sQ]
  intro Ag a H
  try have p99:=dF Ag
  refine kH H (aY Ag rfl (PF qP Ag rfl (Pf qP rfl ?_)));clear H;intro a H;refine Oh (_) _ _ ?_ (by exact H.sub ⟨rfl,rfl,rfl,aD⟩);rw [← hwd];clear hst hwd hnm hck hcd;(try clear hq1);(try clear hq2);(try clear hq3);(try clear hq0);(try clear hq4);(try clear mE);(try clear mF);(try clear mG);simp_all [sQ]
 clear H;intro q3 a w hI H;dsimp only [lca,bD] at H;simp only [zS,uR];have hq3:=hI;refine Bb (ι:=Bool) (Tc:=[(1,_),(3,_)]) 11 (fun (q4:Bool)=>[(115,.bool q4)]) (fun (q4:Bool)=>q4=(q3 || decide (x.kind≠6) && decide (0 < (x.flow.length:Int)))) (by exact H.sub ⟨rfl,rfl,aD⟩) ?_ ?_
 ·intro Oi;refine kH H (Rm rfl (Sp 105 rfl ?_ ?_)) <;> clear H
  ·intro pU a H
   try have Fp:=dT pU
   refine kH H (aS pU rfl (aS pU rfl (Ku rfl (Ku rfl (Ku rfl (Ku rfl (Ks pU rfl (Pt pU rfl ?_))))))));clear H;intro a H;refine Oi (_) _ _ ?_ (by exact H.sub ⟨rfl,rfl,rfl,aD⟩);clear hst hwd hnm hck hcd;(try clear hq1);(try clear hq2);(try clear hq3);(try clear hq0);(try clear hq4);(try clear mE);(try clear mF);(try clear mG);simp_all
  intro pU a H
  try have Fp:=dF pU
  refine kH H (YF jD pU rfl (YO aH 0 pU rfl (YC pU rfl (YM pU rfl (Sp 109 rfl ?_ ?_))))) <;> clear H
  ·intro xk a H
   try have aiM:=dT xk
   refine kH H (YF wW xk rfl (YO gW 0 xk rfl (YL fU xk rfl (YC xk rfl (PT pU xk rfl (Pf pU rfl ?_))))));clear H;intro a H;refine Oi (_) _ _ ?_ (by exact H.sub ⟨rfl,rfl,rfl,aD⟩);clear hst hwd hnm hck hcd;(try clear hq1);(try clear hq2);(try clear hq3);(try clear hq0);(try clear hq4);(try clear mE);(try clear mF);(try clear mG);simp_all
  intro xk a H
  try have aiM:=dF xk
  refine kH H (aS xk rfl (aS xk rfl (PF pU xk rfl (Pf pU rfl ?_))));clear H;intro a H;refine Oi (_) _ _ ?_ (by exact H.sub ⟨rfl,rfl,rfl,aD⟩);clear hst hwd hnm hck hcd;(try clear hq1);(try clear hq2);(try clear hq3);(try clear hq0);(try clear hq4);(try clear mE);(try clear mF);(try clear mG);simp_all
 clear H;intro q4 a w hI H;dsimp only [lca,bD] at H;simp only [zS,uR];have hq4:=hI;refine Bb (ι:=Bool) (Tc:=[(1,_),(3,_)]) 11 (fun (q5:Bool)=>[(126,.bool q5)]) (fun (q5:Bool)=>q5=wC x) (by exact H.sub ⟨rfl,rfl,aD⟩) ?_ ?_
 ·intro Oj;refine kH H (Rm rfl (Sp 116 rfl ?_ ?_)) <;> clear H
  ·intro h116 a H
   try have aiO:=dT h116
   refine kH H (aS h116 rfl (aS h116 rfl (Ku rfl (Ku rfl (Ku rfl (Ku rfl (Ks h116 rfl (Pt h116 rfl ?_))))))));clear H;intro a H;refine Oj (_) _ _ ?_ (by exact H.sub ⟨rfl,rfl,rfl,aD⟩);rw [show wC x=(q4 || decide (x.kind≠7) && decide (0 < (x.rows.length:Int))) by rw [hq4,hq3,hq2,hq1];rfl];clear hq4;clear hst hwd hnm hck hcd;(try clear hq1);(try clear hq2);(try clear hq3);(try clear hq0);(try clear hq4);(try clear mE);(try clear mF);(try clear mG);simp_all
  intro h116 a H
  try have aiO:=dF h116
  refine kH H (YF jD h116 rfl (YO aH 0 h116 rfl (YC h116 rfl (YM h116 rfl (Sp 120 rfl ?_ ?_))))) <;> clear H
  ·intro xq a H
   try have aiP:=dT xq
   refine kH H (YF oH xq rfl (YO oQ 0 xq rfl (YL lS xq rfl (YC xq rfl (PT h116 xq rfl (Pf h116 rfl ?_))))));clear H;intro a H;refine Oj (_) _ _ ?_ (by exact H.sub ⟨rfl,rfl,rfl,aD⟩);rw [show wC x=(q4 || decide (x.kind≠7) && decide (0 < (x.rows.length:Int))) by rw [hq4,hq3,hq2,hq1];rfl];clear hq4;clear hst hwd hnm hck hcd;(try clear hq1);(try clear hq2);(try clear hq3);(try clear hq0);(try clear hq4);(try clear mE);(try clear mF);(try clear mG);simp_all
  intro xq a H
  try have aiP:=dF xq
  refine kH H (aS xq rfl (aS xq rfl (PF h116 xq rfl (Pf h116 rfl ?_))));clear H;intro a H;refine Oj (_) _ _ ?_ (by exact H.sub ⟨rfl,rfl,rfl,aD⟩);rw [show wC x=(q4 || decide (x.kind≠7) && decide (0 < (x.rows.length:Int))) by rw [hq4,hq3,hq2,hq1];rfl];clear hq4;clear hst hwd hnm hck hcd;(try clear hq1);(try clear hq2);(try clear hq3);(try clear hq0);(try clear hq4);(try clear mE);(try clear mF);(try clear mG);simp_all
 clear H;intro q5 a w hI H;dsimp only [lca,bD] at H;simp only [zS,uR];have mE:=hI;refine kH H (ak aT rfl (Cd rfl ?_ ?_)) <;> clear H aT
 ·intro Bz a H
  refine bG (fun _ bC=>?_)
  have e:kK x=15:=by unfold kK;rw [ah f0,au (by rw [← mE];exact Bz)]
  exact kP H (SC (aV bC rfl (LR results127 rfl fun H=>H.rt ⟨by rw [e],rfl⟩)))
 intro Bz a H
 try have P8:=dF Bz
 have f1:¬ wC x=true:=by rw [← mE,Bz];decide
 refine kP H (SR fun _ bJ=>aW tZ gG 0 rfl rfl ?_);clear H;intro a H;refine s_call GI H wn rfl (IG _ _ H.ro x.text hs) rfl ?_;clear H;rintro v130 _ a w ⟨rfl,rfl⟩ - H;refine kH H (Rn rfl (ak bJ rfl (Cd rfl ?_ ?_))) <;> clear H bJ
 ·intro h127 a H
  refine bG (fun _ bT=>?_)
  have e:kK x=12:=by unfold kK;rw [ah f0,ah f1,au (by simpa using h127)]
  exact kP H (SC (aV bT rfl (LR results127 rfl fun H=>H.rt ⟨by rw [e],rfl⟩)))
 intro h127 a H
 try have amw:=dF h127
 have f2:¬ qg x.text=false:=by simpa using h127
 refine dH (fun _ bS=>?_);refine Bb (ι:=Bool) (Tc:=[(1,_),(3,_)]) 13 (fun (q6:Bool)=>[(145,.bool q6)]) (fun (q6:Bool)=>q6=(decide (x.kind=1∨x.kind=5) && sQ x.text)) (by exact H.sub ⟨rfl,rfl,aD⟩) ?_ ?_
 ·intro Om;refine kH H (aW jD aH 0 rfl rfl (Rc rfl (Rm rfl (Sp 136 rfl ?_ ?_)))) <;> clear H
  ·intro Ac a H
   try have aiQ:=dT Ac
   refine kH H (aY Ac rfl (Pt Ac rfl (Rm rfl ?_)));clear H;intro a H;refine FE tZ H (wg H rfl rfl rfl) rfl rfl ?_;clear H;intro a H;refine tF gG H (wg H rfl rfl rfl) rfl (H.hp.nL 0 rfl rfl) rfl ?_;clear H;intro a H;refine BZ H (wg H rfl rfl rfl) rfl rfl rfl ?_;clear H;intro a H;refine kH H (Pt rfl rfl ?_);clear H;intro a H;refine Om (_) _ _ ?_ (by exact H.sub ⟨rfl,rfl,rfl,aD⟩);clear hst hwd hnm hck hcd;(try clear hq1);(try clear hq2);(try clear hq3);(try clear hq0);(try clear hq4);(try clear mE);(try clear mF);(try clear mG);simp_all [sQ]
  intro Ac a H
  try have aiQ:=dF Ac
  refine kH H (YF jD Ac rfl (YO aH 0 Ac rfl (YC Ac rfl (Pf Ac rfl (Rm rfl (Sp 141 rfl ?_ ?_)))))) <;> clear H
  ·intro Ad a H
   try have aiR:=dT Ad
   refine kH H (YF tZ Ad rfl (YO gG 0 Ad rfl ?_));clear H;intro a H;refine BZ H (wg H rfl rfl Ad) rfl rfl rfl ?_;clear H;intro a H;refine kH H (Pt Ad rfl ?_);clear H;intro a H;refine Om (_) _ _ ?_ (by exact H.sub ⟨rfl,rfl,rfl,aD⟩);clear hst hwd hnm hck hcd;(try clear hq1);(try clear hq2);(try clear hq3);(try clear hq0);(try clear hq4);(try clear mE);(try clear mF);(try clear mG);simp_all [sQ]
  intro Ad a H
  try have aiR:=dF Ad
  refine kH H (aY Ad rfl (Pf Ad rfl ?_));clear H;intro a H;refine Om (_) _ _ ?_ (by exact H.sub ⟨rfl,rfl,rfl,aD⟩);clear hst hwd hnm hck hcd;(try clear hq1);(try clear hq2);(try clear hq3);(try clear hq0);(try clear hq4);(try clear mE);(try clear mF);(try clear mG);simp_all [sQ]
 clear H;intro q6 a w hI H;dsimp only [lca,bD] at H;simp only [zS,uR];have mF:=hI;refine kH H (ak bS rfl (Cd rfl ?_ ?_)) <;> clear H bS
 ·intro Bu a H
  refine bG (fun _ dD=>?_)
  have e:kK x=11:=by unfold kK;rw [ah f0,ah f1,ah f2,au (by rw [← mF];exact Bu)]
  exact kP H (SC (aV dD rfl (LR results127 rfl fun H=>H.rt ⟨by rw [e],rfl⟩)))
 intro Bu a H
 try have Xr:=dF Bu
 have f3:¬ (decide (x.kind=1∨x.kind=5) && sQ x.text)=true:=by rw [← mF,Bu];decide
 refine dH (fun _ dM=>?_);refine Bb (ι:=Bool) (Tc:=[(1,_),(3,_)]) 9 (fun (q7:Bool)=>[(155,.bool q7)]) (fun (q7:Bool)=>q7=(decide (x.kind=5) && decide (1024 < (x.text.size:Int)))) (by exact H.sub ⟨rfl,rfl,aD⟩) ?_ ?_
 ·intro U9;refine kH H (aW jD aH 0 rfl rfl (Rc rfl (Rm rfl (Sp 150 rfl ?_ ?_)))) <;> clear H
  ·intro xu a H
   try have aiS:=dT xu
   refine kH H (YF tZ xu rfl (YO gG 0 xu rfl ?_));clear H;intro a H;refine Ca gy H (wg H rfl rfl xu) rfl rfl ?_;clear H;intro a H;refine kH H (YC xu rfl (Pt xu rfl ?_));clear H;intro a H;refine U9 (_) _ _ ?_ (by exact H.sub ⟨rfl,rfl,rfl,aD⟩);clear hst hwd hnm hck hcd;(try clear hq1);(try clear hq2);(try clear hq3);(try clear hq0);(try clear hq4);(try clear mE);(try clear mF);(try clear mG);simp_all
  intro xu a H
  try have aiS:=dF xu
  refine kH H (aS xu rfl (aS xu rfl (Pf xu rfl ?_)));clear H;intro a H;refine U9 (_) _ _ ?_ (by exact H.sub ⟨rfl,rfl,rfl,aD⟩);clear hst hwd hnm hck hcd;(try clear hq1);(try clear hq2);(try clear hq3);(try clear hq0);(try clear hq4);(try clear mE);(try clear mF);(try clear mG);simp_all
 clear H;intro q7 a w hI H;dsimp only [lca,bD] at H;simp only [zS,uR];have mG:=hI;refine kH H (ak dM rfl (Cd rfl ?_ ?_)) <;> clear H dM
 ·intro JQ a H
  refine bG (fun _ cZ=>?_)
  have e:kK x=10:=by unfold kK;rw [ah f0,ah f1,ah f2,ah f3,au (by rw [← mG];exact JQ)]
  exact kP H (SC (aV cZ rfl (LR results127 rfl fun H=>H.rt ⟨by rw [e],rfl⟩)))
 intro JQ a H
 try have amx:=dF JQ
 have f4:¬ (decide (x.kind=5) && decide (1024 < (x.text.size:Int)))=true:=by rw [← mG,JQ];decide
 refine dH (fun _ dW=>?_);refine Bb (ι:=Bool) (Tc:=[]) 7 (fun (q8:Bool)=>[(163,.bool q8)]) (fun (q8:Bool)=>q8=(zq x && !pJ x.text)) (by exact H.sub trivial) ?_ ?_
 ·intro Va;refine kH H (Rm rfl (Rm rfl (Sp 158 rfl ?_ ?_))) <;> clear H
  ·intro xw a H
   try have aiT:=dT xw
   refine kH H (YF tZ xw rfl (YO gG 0 xw rfl ?_));clear H;intro a H;refine s_call MZ H (wg H rfl rfl xw) rfl (MO _ _ H.ro x.text hs) rfl ?_;clear H;rintro amC _ a w ⟨rfl,rfl⟩ - H;refine kH H (YN xw rfl (Pt xw rfl ?_));clear H;intro a H;refine Va (_) _ _ ?_ (by exact H.sub ⟨rfl,aD⟩);rw [← hst];clear hst hwd hnm hck hcd;(try clear hq1);(try clear hq2);(try clear hq3);(try clear hq0);(try clear hq4);(try clear mE);(try clear mF);(try clear mG);simp_all
  intro xw a H
  try have aiT:=dF xw
  refine kH H (aS xw rfl (aS xw rfl (Pf xw rfl ?_)));clear H;intro a H;refine Va (_) _ _ ?_ (by exact H.sub ⟨rfl,aD⟩);rw [← hst];clear hst hwd hnm hck hcd;(try clear hq1);(try clear hq2);(try clear hq3);(try clear hq0);(try clear hq4);(try clear mE);(try clear mF);(try clear mG);simp_all
 clear H;intro q8 a w hI H;dsimp only [lca,bD] at H;simp only [zS,uR];have hq8:=hI;refine kH H (ak dW rfl (Cd rfl ?_ ?_)) <;> clear H dW
 ·intro NC a H
  refine bG (fun _ fZ=>?_)
  have e:kK x=13:=by unfold kK;rw [ah f0,ah f1,ah f2,ah f3,ah f4,au (by rw [← hq8];exact NC)]
  exact kP H (SC (aV fZ rfl (LR results127 rfl fun H=>H.rt ⟨by rw [e],rfl⟩)))
 intro NC a H
 refine fT ?_;refine K7 _ _ ?_;clear K7;refine bG (fun _ eG=>?_)
 have e:kK x=0:=by unfold kK;rw [ah f0,ah f1,ah f2,ah f3,ah f4,ah (by rw [← hq8,NC];decide)]
 exact kP H (SC (aV eG rfl (LR results127 rfl fun H=>H.rt ⟨by rw [e],rfl⟩)))
end
section
open Go.RowKit
structure CS where
 n:Int
 bL:List Int
abbrev CR:=Int × CS
def fQ (r:CR) (f:CS→CR):CR:=if r.1≠0 then r else f r.2
theorem Gj {r:CR} {f:CS→CR} (h:r.1=0):fQ r f=f r.2:=by rw [fQ,ah (fun h'=>h' h)]
theorem Jm {r:CR} {f:CS→CR} (h:r.1≠0):fQ r f=r:=by rw [fQ,au h]
def jU (s:CS) (x:Int):CR:=(pV s.bL x,⟨s.n,jT s.bL x⟩)
def kI (body note:Bool) (t k i:Int) (s:CS):CR :=
 if k=3 then (cu (!body) 19,s) else if k=6 then fQ (cu note 19,s) fun s=>jU s i else if k=7 then fQ (cu (decide (4≤t)) 17,s) fun s=>jU s i else if k=8 then (cu (!decide (1≤i∧i≤1073741824)) 18,s) else (0,s)
def D6 (C:gN) (h:iG) (n:Nat):Int:=dK [iI C 9 h,cu (decide ((n:Int)=0)) 11,cu (decide (32 < (n:Int))) 9]
def lQ (n:Nat) (f:CS→CR) (s:CS):CR:=if n=0 then (11,s) else if 256 < n then (9,s) else f s
mutual
def eY (C:gN) (body note:Bool) (t:Int):ay→CS→CR
 | .mk k c i tx h f r,s =>
  fQ (kK (.mk k c i tx h f r),s) fun s=>fQ (kI body note t k i ⟨s.n+(if k=1 then vY tx else 1:Nat),s.bL⟩) fun s=>fQ (iI C k h,s) fun s =>
   if k=6 then jy C false true t f s else if k=7 then lQ r.length (fun s=>iR C note (t+1) r s) s else (0,s)
def BX (C:gN) (note:Bool) (t:Int):bP→CS→CR
 | .mk h cs,s=>fQ (D6 C h cs.length,s) fun s=>rJ C note t cs s
def cellC (C:gN) (note:Bool) (t:Int):bO→CS→CR
 | .mk i h f,s=>fQ (jU s i) fun s=>fQ (iI C 10 h,s) fun s=>jy C false note t f s
def jy (C:gN) (body note:Bool) (t:Int):List ay→CS→CR
 | [],s=>(0,s)
 | x :: r,s=>fQ (eY C body note t x s) fun s=>jy C body note t r s
def iR (C:gN) (note:Bool) (t:Int):List bP→CS→CR
 | [],s=>(0,s)
 | x :: r,s=>fQ (BX C note t x s) fun s=>iR C note t r s
def rJ (C:gN) (note:Bool) (t:Int):List bO→CS→CR
 | [],s=>(0,s)
 | x :: r,s=>fQ (cellC C note t x s) fun s=>rJ C note t r s
end
theorem Po (C:gN) (body note:Bool) (t:Int) (x:ay) (s:CS):eY C body note t x s=fQ (kK x,s) fun s=>fQ (kI body note t x.kind x.id ⟨s.n+(eD x:Nat),s.bL⟩) fun s=>fQ (iI C x.kind x.head,s) fun s =>
  if x.kind=6 then jy C false true t x.flow s else if x.kind=7 then lQ x.rows.length (fun s=>iR C note (t+1) x.rows s) s else (0,s):=by cases x;rw [eY];rfl
theorem KQ (C:gN) (note:Bool) (t:Int) (x:bP) (s:CS):BX C note t x s=fQ (D6 C x.head x.cells.length,s) fun s=>rJ C note t x.cells s:=by cases x;rw [BX];rfl
theorem Ju (C:gN) (note:Bool) (t:Int) (x:bO) (s:CS):cellC C note t x s=fQ (jU s x.id) fun s=>fQ (iI C 10 x.head,s) fun s=>jy C false note t x.flow s:=by cases x;rw [cellC];rfl
def Up (s:CS) (z:Nat) (r:CR):Prop:=s.n≤r.2.n∧r.2.n≤s.n+z
theorem Up.and {s:CS} {z y q:Nat} {r:CR} {f:CS→CR} (h:Up s z r) (hq:z+y≤q) (hf:∀ s,Up s y (f s)):Up s q (fQ r f):=by
 obtain ⟨h1,h2⟩:=h
 unfold fQ
 split
 ·exact ⟨h1,by omega⟩
 obtain ⟨h3,h4⟩:=hf r.2;exact ⟨by omega,by omega⟩
theorem Up.zero (s:CS) (e:Int) (q:Nat):Up s q (e,s):=⟨Int.le_refl _,by dsimp only;omega⟩
theorem Up.le {s:CS} {z y:Nat} {r:CR} (h:Up s z r) (hq:z≤y):Up s y r:=⟨h.1,by have:=h.2;omega⟩
theorem YB (s:CS) (x:Int) (q:Nat):Up s q (jU s x):=⟨Int.le_refl _,by dsimp only [jU];omega⟩
theorem akN (body note:Bool) (t k i:Int) (s:CS) (q:Nat):Up s q (kI body note t k i s):=by
 unfold kI
 (repeat' split) <;> first|exact Up.zero _ _ _|exact (Up.zero _ _ 0).and (y:=0) (by omega) fun s=>YB _ _ _
mutual
theorem YD (C:gN) (body note:Bool) (t:Int):∀ (x:ay) (s:CS),Up s (dw x.dat) (eY C body note t x s)
 | .mk k c i tx h f r,s=>by
  have hz:=nU (.mk k c i tx h f r);have hf:=LK C false true t f;have hr:=YE C note (t+1) r;rw [eY];obtain ⟨u,hu'⟩:∃ u,u=(if k=1 then vY tx else 1:Nat):=⟨_,rfl⟩
  have hu:u≤tx.size+1:=by
   have:=Gw tx
   rw [hu'];split <;> omega
  rw [← hu'];dsimp only [ay.text,ay.flow,ay.rows,ay.head] at hz;refine (Up.zero s _ 0).and (Nat.le_of_eq (kT _)) fun s=>?_
  have h2:Up s (u) (kI body note t k i ⟨s.n+(u:Nat),s.bL⟩):=by
   obtain ⟨h3,h4⟩:=akN body note t k i ⟨s.n+(u:Nat),s.bL⟩ 0;dsimp only at h3 h4;exact ⟨by omega,by omega⟩
  refine h2.and (y:=bq f+gZ r) (by omega) fun s=>(Up.zero s _ 0).and (Nat.le_of_eq (kT _)) fun s=>?_
  by_cases h6:k=6
  ·rw [au h6];exact (hf s).le (by omega)
  rw [ah h6]
  by_cases h7:k=7
  ·rw [au h7]
   unfold lQ
   by_cases c1:r.length=0
   ·rw [au c1];exact Up.zero _ _ _
   rw [ah c1]
   by_cases c2:256 < r.length
   ·rw [au c2];exact Up.zero _ _ _
   rw [ah c2];exact (hr s).le (by omega)
  rw [ah h7];exact Up.zero _ _ _
theorem akO (C:gN) (note:Bool) (t:Int):∀ (x:bP) (s:CS),Up s (dw x.dat) (BX C note t x s)
 | .mk h cs,s=>by
  have hz:=Bf (.mk h cs);have hc:=YA C note t cs;rw [KQ];dsimp only [bP.cells,bP.head] at hz ⊢;exact (Up.zero s _ 0).and (y:=jA cs) (by omega) fun s=>hc s
theorem akM (C:gN) (note:Bool) (t:Int):∀ (x:bO) (s:CS),Up s (dw x.dat) (cellC C note t x s)
 | .mk i h f,s=>by
  have hz:=Bd (.mk i h f);have hf:=LK C false note t f;rw [Ju];dsimp only [bO.flow,bO.head,bO.id] at hz ⊢;exact (YB s _ 0).and (y:=bq f) (by omega) fun s=>(Up.zero s _ 0).and (Nat.le_of_eq (kT _)) fun s=>hf s
theorem LK (C:gN) (body note:Bool) (t:Int):∀ (l:List ay) (s:CS),Up s (bq l) (jy C body note t l s)
 | [],s=>by rw [jy];exact Up.zero _ _ _
 | x :: r,s=>by
  rw [jy];exact (YD C body note t x s).and (y:=bq r) (by simp only [bq,eT,eX];omega) fun s=>LK C body note t r s
theorem YE (C:gN) (note:Bool) (t:Int):∀ (l:List bP) (s:CS),Up s (gZ l) (iR C note t l s)
 | [],s=>by rw [iR];exact Up.zero _ _ _
 | x :: r,s=>by
  rw [iR];exact (akO C note t x s).and (y:=gZ r) (by simp only [gZ,eT,eX];omega) fun s=>YE C note t r s
theorem YA (C:gN) (note:Bool) (t:Int):∀ (l:List bO) (s:CS),Up s (jA l) (rJ C note t l s)
 | [],s=>by rw [rJ];exact Up.zero _ _ _
 | x :: r,s=>by
  rw [rJ];exact (akM C note t x s).and (y:=jA r) (by simp only [jA,eT,eX];omega) fun s=>YA C note t r s
end
def oO {α:Type} (f:α→CS→CR) (l:List α) (s:CS):Nat→CS
 | 0=>s
 | i+1=>match l[i]? with|some x=>(f x (oO f l s i)).2|none=>oO f l s i
def zX {α:Type} (f:α→CS→CR) (l:List α) (s:CS) (i:Nat):Int:=match l[i]? with|some x=>(f x (oO f l s i)).1|none=>0
theorem Qw {α:Type} (f:α→CS→CR) (x:α) (l:List α) (s:CS):∀ i,oO f (x :: l) s (i+1)=oO f l (f x s).2 i
 | 0=>rfl
 | i+1=>by
  have ih:=Qw f x l s i
  simp only [oO,List.getElem?_cons_succ] at ih ⊢
  rw [ih]
theorem aee {α:Type} (f:α→CS→CR) (x:α) (l:List α) (s:CS) (i:Nat):zX f (x :: l) s (i+1)=zX f l (f x s).2 i:=by
 unfold zX
 simp only [List.getElem?_cons_succ,Qw]
theorem aal (E:Nat→Int) (n:Nat):kE E (n+1)=if E 0≠0 then E 0 else kE (fun i=>E (i+1)) n:=by
 unfold kE
 rw [List.range_succ_eq_map,eT,dK,List.map_map]
 rfl
theorem Wu (C:gN) (body note:Bool) (t:Int):∀ (l:List ay) (s:CS),(jy C body note t l s).1=kE (zX (eY C body note t) l s) l.length∧((jy C body note t l s).1=0→(jy C body note t l s).2=oO (eY C body note t) l s l.length)
 | [],s=>by rw [jy];exact ⟨rfl,fun _=>rfl⟩
 | x :: r,s=>by
  obtain ⟨h1,h2⟩:=Wu C body note t r (eY C body note t x s).2;have e0:zX (eY C body note t) (x :: r) s 0=(eY C body note t x s).1:=rfl;rw [jy,nV,aal,e0,Qw]
  simp only [aee]
  unfold fQ
  split
  ·next h=>exact ⟨rfl,fun h0=>absurd h0 h⟩
  exact ⟨h1,h2⟩
theorem YG (C:gN) (body note:Bool) (t:Int) (l:List ay) (s:CS):∀ i,i≤l.length→s.n≤(oO (eY C body note t) l s i).n∧(oO (eY C body note t) l s i).n+(bq (l.drop i):Nat)≤s.n+(bq l:Nat)
 | 0,_=>⟨Int.le_refl _,Int.le_refl _⟩
 | i+1,hi=>by
  have hi':i < l.length:=hi;obtain ⟨h1,h2⟩:=YG C body note t l s i (by omega)
  have hs:oO (eY C body note t) l s (i+1)=(eY C body note t l[i] (oO (eY C body note t) l s i)).2:=by rw [oO,gY hi']
  have hd:bq (l.drop i)=1+dw l[i].dat+bq (l.drop (i+1)):=by
   simp only [bq];rw [kS hi',eT,eX]
  obtain ⟨h3,h4⟩:=YD C body note t l[i] (oO (eY C body note t) l s i);rw [hs];exact ⟨by omega,by omega⟩
end
section
open Go.RowKit
mutual
/-- The ids in items, in document order. -/
def Au:ay→List Int
 | .mk k _ i _ _ f r=>(if k=6∨k=7 then [i] else [])++((if k=6 then uE f else [])++(if k=7 then Av r else []))
def uE:List ay→List Int
 | []=>[]
 | x :: r=>Au x++uE r
def BM:bP→List Int
 | .mk _ c=>Ar c
def Av:List bP→List Int
 | []=>[]
 | x :: r=>BM x++Av r
def BL:bO→List Int
 | .mk i _ f=>i :: uE f
def Ar:List bO→List Int
 | []=>[]
 | x :: r=>BL x++Ar r
end
end
section
open Go.RowKit
theorem pI {r:CR} {f:CS→CR} {s':CS} (h:fQ r f=(0,s')):r.1=0∧f r.2=(0,s'):=by
 unfold fQ at h
 split at h
 ·rename_i h1;rw [h] at h1;exact absurd rfl h1
 rename_i h1;exact ⟨jJ.1 h1,h⟩
theorem Tn {r:CR} (h:r.1=0):r=(0,r.2):=Prod.ext h rfl
structure kQ (a b c:List Int):Prop where
 eq:c=a++b
 nd:a.Nodup→c.Nodup
 pos:∀ i∈b,1≤i∧i≤1073741824
theorem kQ.nil (a:List Int):kQ a [] a:=⟨by simp,fun h=>h,fun i h=>by cases h⟩
theorem kQ.trans {a b c d e:List Int} (h:kQ a b c) (g:kQ c d e):kQ a (b++d) e:=⟨by rw [g.eq,h.eq,nW],fun h1=>g.nd (h.nd h1),fun i hi=>(kR.1 hi).elim (h.pos i) (g.pos i)⟩
theorem kQ.id {a:List Int} {x:Int} (h:pV a x=0):kQ a [x] (jT a x):=by
 unfold jT
 rw [au h]
 unfold pV at h
 by_cases h1:1≤x∧x≤1073741824
 ·rw [ah (fun h'=>h' h1)] at h
  by_cases h2:x∈a
  ·rw [au h2] at h;cases h
  exact ⟨rfl,fun h3=>List.nodup_append.2 ⟨h3,by simp,fun u hu v hv=>by rw [sM.1 hv];exact fun e=>h2 (e ▸ hu)⟩,fun i hi=>by rw [sM.1 hi];exact h1⟩
 rw [au h1] at h;cases h
theorem kQ.jU {s s':CS} {x:Int} (h:jU s x=(0,s')):kQ s.bL [x] s'.bL:=by
 unfold Go.Proofs.YteopmoocmoigcaaGreat.jU at h
 injection h with h1 h2
 rw [← h2];exact kQ.id h1
theorem aiZ {body note:Bool} {t k i:Int} {s s':CS} (h:kI body note t k i s=(0,s')):kQ s.bL (if k=6∨k=7 then [i] else []) s'.bL:=by
 unfold kI at h
 by_cases h3:k=3
 ·rw [au h3] at h;injection h with _ h2;rw [ah (by omega),← h2];exact kQ.nil _
 rw [ah h3] at h
 by_cases h6:k=6
 ·rw [au h6] at h;rw [au (.inl h6)];exact kQ.jU (pI h).2
 rw [ah h6] at h
 by_cases h7:k=7
 ·rw [au h7] at h;rw [au (.inr h7)];exact kQ.jU (pI h).2
 rw [ah h7] at h;rw [ah (by omega)]
 by_cases h8:k=8
 ·rw [au h8] at h;injection h with _ h2;rw [← h2];exact kQ.nil _
 rw [ah h8] at h;injection h with _ h2;rw [← h2];exact kQ.nil _
theorem XF {n:Nat} {f:CS→CR} {s s':CS} (h:lQ n f s=(0,s')):n≠0∧f s=(0,s'):=by
 unfold lQ at h
 split at h
 ·cases h
 rename_i h1
 split at h
 ·cases h
 exact ⟨h1,h⟩
mutual
theorem aei (C:gN) (body note:Bool) (t:Int):∀ (x:ay) (s s':CS),eY C body note t x s=(0,s')→kQ s.bL (Au x) s'.bL
 | .mk k c i tx h f r,s,s',e=>by
  have hf:=JF C false true t f;have hr:=Um C note (t+1) r;rw [eY] at e;obtain ⟨-,e⟩:=pI e;obtain ⟨e1,e⟩:=pI e;obtain ⟨-,e⟩:=pI e;have h1:=aiZ (Tn e1);rw [Au];refine h1.trans ?_
  by_cases h6:k=6
  ·rw [au h6] at e ⊢;rw [ah (show ¬ k=7 by omega),oF];exact hf _ _ e
  rw [ah h6] at e ⊢;rw [jX]
  by_cases h7:k=7
  ·rw [au h7] at e ⊢;exact hr _ _ (XF e).2
  rw [ah h7] at e ⊢
  injection e with _ e
  rw [← e];exact kQ.nil _
theorem aej (C:gN) (note:Bool) (t:Int):∀ (x:bP) (s s':CS),BX C note t x s=(0,s')→kQ s.bL (BM x) s'.bL
 | .mk h cs,s,s',e=>by
  have hc:=Ul C note t cs;rw [KQ] at e;rw [BM];exact hc _ _ (pI e).2
theorem aeh (C:gN) (note:Bool) (t:Int):∀ (x:bO) (s s':CS),cellC C note t x s=(0,s')→kQ s.bL (BL x) s'.bL
 | .mk i h f,s,s',e=>by
  have hf:=JF C false note t f;rw [Ju] at e;dsimp only [bO.id,bO.head,bO.flow] at e;obtain ⟨e1,e⟩:=pI e;have h1:=kQ.jU (s':=(jU s i).2) (Prod.ext e1 rfl);rw [BL];exact h1.trans (hf _ _ (pI e).2)
theorem JF (C:gN) (body note:Bool) (t:Int):∀ (l:List ay) (s s':CS),jy C body note t l s=(0,s')→kQ s.bL (uE l) s'.bL
 | [],s,s',e=>by rw [jy] at e;injection e with _ e;rw [← e];exact kQ.nil _
 | x :: r,s,s',e=>by
  rw [jy] at e;obtain ⟨e1,e⟩:=pI e;rw [uE];exact (aei C body note t x s _ (Prod.ext e1 rfl)).trans (JF C body note t r _ _ e)
theorem Um (C:gN) (note:Bool) (t:Int):∀ (l:List bP) (s s':CS),iR C note t l s=(0,s')→kQ s.bL (Av l) s'.bL
 | [],s,s',e=>by rw [iR] at e;injection e with _ e;rw [← e];exact kQ.nil _
 | x :: r,s,s',e=>by
  rw [iR] at e;obtain ⟨e1,e⟩:=pI e;rw [Av];exact (aej C note t x s _ (Prod.ext e1 rfl)).trans (Um C note t r _ _ e)
theorem Ul (C:gN) (note:Bool) (t:Int):∀ (l:List bO) (s s':CS),rJ C note t l s=(0,s')→kQ s.bL (Ar l) s'.bL
 | [],s,s',e=>by rw [rJ] at e;injection e with _ e;rw [← e];exact kQ.nil _
 | x :: r,s,s',e=>by
  rw [rJ] at e;obtain ⟨e1,e⟩:=pI e;rw [Ar];exact (aeh C note t x s _ (Prod.ext e1 rfl)).trans (Ul C note t r _ _ e)
end
def dX (l:List ay):Prop:=∃ (C:gN) (body note:Bool) (t:Int) (s s':CS),jy C body note t l s=(0,s')
structure vP (x:ay):Prop where
 txt:qg x.text=true
 kd:1≤x.kind∧x.kind≤8
 Io:x.kind≠7→x.rows=[]
 fl0:x.kind≠6→x.flow=[]
 fl:dX x.flow
 rw:∀ r∈x.rows,∀ c∈r.cells,dX c.flow
theorem aiG:dX []:=⟨⟨[],[],[]⟩,false,false,0,⟨0,[]⟩,⟨0,[]⟩,by rw [jy]⟩
theorem aeW {x:ay} (h:kK x=0):qg x.text=true∧(1≤x.kind∧x.kind≤8)∧(x.kind≠7→x.rows=[])∧(x.kind≠6→x.flow=[]):=by
 unfold kK at h
 split at h
 ·cases h
 rename_i h1
 split at h
 ·cases h
 rename_i h2
 split at h
 ·cases h
 rename_i h3
 have hk:decide (1≤x.kind∧x.kind≤8)=true:=by
  cases hd:decide (1≤x.kind∧x.kind≤8)
  ·rw [hd] at h1;exact absurd rfl h1
  rfl
 refine ⟨by simpa using h3,rF hk,fun h7=>?_,fun h6=>?_⟩
 ·rw [Bool.not_eq_true] at h2
  unfold wC at h2
  simp only [Bool.or_eq_false_iff] at h2
  have h4:=h2.2;rw [jY h7,CK,rG] at h4;exact List.length_eq_zero_iff.1 (by omega)
 rw [Bool.not_eq_true] at h2
 unfold wC at h2
 simp only [Bool.or_eq_false_iff] at h2
 have h4:=h2.1.2;rw [jY h6,CK,rG] at h4;exact List.length_eq_zero_iff.1 (by omega)
theorem cells_ok {C:gN} {note:Bool} {t:Int}:∀ {l:List bO} {s s':CS},rJ C note t l s=(0,s')→∀ c∈l,dX c.flow
 | [],_,_,_,_,h=>by cases h
 | x :: r,s,s',e,c,h=>by
  rw [rJ] at e;obtain ⟨e1,e⟩:=pI e
  rcases lq.1 h with rfl|h
  ·have e2:cellC C note t c s=(0,(cellC C note t c s).2):=Prod.ext e1 rfl
   generalize (cellC C note t c s).2=s2 at e2
   rw [Ju] at e2;exact ⟨C,false,note,t,_,_,(pI (pI e2).2).2⟩
  exact cells_ok e c h
theorem XG {C:gN} {note:Bool} {t:Int}:∀ {l:List bP} {s s':CS},iR C note t l s=(0,s')→∀ r∈l,∀ c∈r.cells,dX c.flow
 | [],_,_,_,_,h=>by cases h
 | x :: r,s,s',e,q,h=>by
  rw [iR] at e;obtain ⟨e1,e⟩:=pI e
  rcases lq.1 h with rfl|h
  ·have e2:BX C note t q s=(0,(BX C note t q s).2):=Prod.ext e1 rfl
   generalize (BX C note t q s).2=s2 at e2
   rw [KQ] at e2;exact cells_ok (pI e2).2
  exact XG e q h
theorem dX.head {x:ay} {l:List ay} (h:dX (x :: l)):vP x∧dX l:=by
 obtain ⟨C,body,note,t,s,s',e⟩:=h;rw [jy] at e;obtain ⟨e1,e⟩:=pI e;have e2:eY C body note t x s=(0,(eY C body note t x s).2):=Prod.ext e1 rfl
 generalize (eY C body note t x s).2=s2 at e2
 refine ⟨?_,⟨C,body,note,t,_,_,e⟩⟩;rw [Po] at e2;obtain ⟨f1,e2⟩:=pI e2;(iterate 2 obtain ⟨-,e2⟩:=pI e2);obtain ⟨h1,h2,h3,h4⟩:=aeW f1;refine ⟨h1,h2,h3,h4,?_,?_⟩
 ·by_cases h6:x.kind=6
  ·rw [au h6] at e2;exact ⟨_,_,_,_,_,_,e2⟩
  rw [h4 h6];exact aiG
 by_cases h7:x.kind=7
 ·rw [ah (by omega),au h7] at e2;exact XG (XF e2).2
 rw [h3 h7];exact fun _ h=>by cases h
theorem dX.tail {x:ay} {l:List ay} (h:dX (x :: l)):dX l:=h.head.2
theorem dX.mem:∀ {l:List ay} {x:ay},dX l→x∈l→vP x
 | y :: l,x,h,hx=>by
  rcases lq.1 hx with rfl|hx
  ·exact h.head.1
  exact dX.mem h.head.2 hx
theorem vP.e {x:ay} (h:vP x):rC x=0:=by unfold rC FP;rw [au h.txt];split <;> rfl
theorem vP.n1 {x:ay} (h:vP x):n1 x=eD x:=by unfold Go.Proofs.YteopmoocmoigcaaGreat.n1;rw [au h.e]
theorem dX.div {l:List ay} (h:dX l):uU l=true:=by
 unfold uU
 rw [lC];exact fun x hx=>jY (h.mem hx).e
theorem dX.len {l:List ay} (h:dX l):vC l=iW l:=by unfold vC;rw [au h.div]
def sI (f t:Int) (L:List jg):Prop:=∃ F∈L,F.id=f∧0≤t∧t≤vC F.items
theorem Kt {f t:Int}:sI f t []↔False:=⟨fun ⟨_,h,_⟩=>(by cases h),False.elim⟩
theorem Pk {f t:Int} {L M:List jg}:sI f t (L++M)↔sI f t L∨sI f t M:=by
 unfold sI
 constructor
 ·rintro ⟨F,h,r⟩
  rcases kR.1 h with h|h
  ·exact .inl ⟨F,h,r⟩
  exact .inr ⟨F,h,r⟩
 rintro (⟨F,h,r⟩|⟨F,h,r⟩)
 ·exact ⟨F,kR.2 (.inl h),r⟩
 exact ⟨F,kR.2 (.inr h),r⟩
theorem Wj {f t:Int} {F:jg} {L:List jg}:sI f t (F :: L)↔(F.id=f∧0≤t∧t≤vC F.items)∨sI f t L:=by
 unfold sI
 constructor
 ·rintro ⟨E,h,r⟩
  rcases lq.1 h with rfl|h
  ·exact .inl r
  exact .inr ⟨E,h,r⟩
 rintro (r|⟨E,h,r⟩)
 ·exact ⟨F,iC,r⟩
 exact ⟨E,jZ _ h,r⟩
mutual
theorem WW (g:Int) (at_:Nat) (note:Bool) (tt f t:Int):∀ x:ay,vP x→((f,t)∈Cn g at_ x↔(g=f∧(at_:Int)≤t∧t < at_+eD x)∨sI f t (vL note tt x))
 | .mk k c i tx h fl r,hx=>by
  have hf:=KE i 0 true tt f t fl hx.fl;have hr:=PK note tt f t r hx.rw;have hn:=hx.n1;have h0:=hx.Io;have hl:=hx.fl.len;rw [Cn,vL,hn]
  simp only [ay.kind,ay.rows,ay.flow] at h0 hl
  generalize eD (.mk k c i tx h fl r)=u
  have h1:(f,t)∈(List.range u).map (fun q=>(g,((at_+q:Nat):Int)))↔(g=f∧(at_:Int)≤t∧t < at_+u):=by
   rw [List.mem_map]
   constructor
   ·rintro ⟨q,hq,e⟩
    injection e with e1 e2
    have:=oD.1 hq;exact ⟨e1,by omega,by omega⟩
   rintro ⟨e,h2,h3⟩;exact ⟨(t - at_).toNat,oD.2 (by omega),by rw [e];exact Prod.ext rfl (by simp only;omega)⟩
  rw [kR,kR,h1];refine or_congr Iff.rfl ?_
  by_cases h6:k=6
  ·rw [au h6,au h6,h0 (by omega),hf,Wj]
   simp only [sG,List.not_mem_nil,or_false,hl]
   constructor
   ·rintro (⟨e,h2,h3⟩|h2)
    ·exact .inl ⟨e,by omega,by omega⟩
    exact .inr h2
   rintro (⟨e,h2,h3⟩|h2)
   ·exact .inl ⟨e,by omega,by omega⟩
   exact .inr h2
  rw [ah h6,ah h6]
  by_cases h7:k=7
  ·rw [au h7,hr];simp
  rw [ah h7,h0 h7,Kt];simp [sG]
theorem KE (g:Int) (at_:Nat) (note:Bool) (tt f t:Int):∀ l:List ay,dX l→((f,t)∈vJ g at_ l↔(g=f∧(at_:Int)≤t∧t≤at_+iW l)∨sI f t (iT note tt l))
 | [],_=>by
  rw [vJ,iT,Kt,sM]
  constructor
  ·intro e;injection e with e1 e2;exact .inl ⟨e1.symm,by omega,by simp only [iW];omega⟩
  rintro (⟨e,h2,h3⟩|h)
  ·simp only [iW] at h3;rw [e];exact Prod.ext rfl (by simp only;omega)
  exact h.elim
 | x :: l,hl=>by
  obtain ⟨hx,hl⟩:=hl.head;have h1:=WW g at_ note tt f t x hx;have h2:=KE g (at_+n1 x) note tt f t l hl;rw [vJ,iT,kR,h1,h2,Pk,hx.n1]
  simp only [iW]
  constructor
  ·rintro ((⟨e,h3,h4⟩|h3)|(⟨e,h3,h4⟩|h3))
   ·exact .inl ⟨e,by omega,by omega⟩
   ·exact .inr (.inl h3)
   ·exact .inl ⟨e,by omega,by omega⟩
   exact .inr (.inr h3)
  rintro (⟨e,h3,h4⟩|(h3|h3))
  ·by_cases hlt:t < at_+eD x
   ·exact .inl (.inl ⟨e,h3,hlt⟩)
   exact .inr (.inl ⟨e,by omega,by omega⟩)
  ·exact .inl (.inr h3)
  exact .inr (.inr h3)
theorem mem_row (note:Bool) (tt f t:Int):∀ x:bP,(∀ c∈x.cells,dX c.flow)→((f,t)∈Co x↔sI f t (vM note tt x))
 | .mk h cs,hx=>by
  have hc:=PI note tt f t cs hx;rw [Co,vM];exact hc
theorem PK (note:Bool) (tt f t:Int):∀ l:List bP,(∀ r∈l,∀ c∈r.cells,dX c.flow)→((f,t)∈sG l↔sI f t (nR note tt l))
 | [],_=>by rw [sG,nR,Kt];simp
 | x :: l,hx=>by
  have h1:=mem_row note tt f t x (hx x iC);have h2:=PK note tt f t l (fun r hr=>hx r (jZ _ hr));rw [sG,nR,kR,h1,h2,Pk]
theorem WV (note:Bool) (tt f t:Int):∀ x:bO,dX x.flow→((f,t)∈Cm x↔sI f t (vK note tt x))
 | .mk i h fl,hx=>by
  have h1:=KE i 0 note (tt+1) f t fl hx;have hl:=hx.len
  simp only [bO.flow] at hl
  rw [Cm,vK,h1,Wj]
  simp only [hl]
  refine or_congr ?_ Iff.rfl
  constructor
  ·rintro ⟨e,h2,h3⟩;exact ⟨e,by omega,by omega⟩
  rintro ⟨e,h2,h3⟩;exact ⟨e,by omega,by omega⟩
theorem PI (note:Bool) (tt f t:Int):∀ l:List bO,(∀ c∈l,dX c.flow)→((f,t)∈yu l↔sI f t (ow note tt l))
 | [],_=>by rw [yu,ow,Kt];simp
 | x :: l,hx=>by
  have h1:=WV note tt f t x (hx x iC);have h2:=PI note tt f t l (fun r hr=>hx r (jZ _ hr));rw [yu,ow,kR,h1,h2,Pk]
end
mutual
theorem YW (note:Bool) (t:Int):∀ x:ay,((vL note t x).map jg.id).Sublist (Au x)
 | .mk k c i tx h f r=>by
  have hf:=II true t f;have hr:=QM note t r;rw [vL,Au]
  by_cases h6:k=6
  ·rw [au h6,au (.inl h6),au h6,ah (by omega),oF];exact List.Sublist.cons_cons _ hf
  rw [ah h6,ah h6,jX]
  by_cases h7:k=7
  ·rw [au h7,au h7,au (.inr h7)];exact List.Sublist.cons _ hr
  rw [ah h7];exact List.nil_sublist _
theorem II (note:Bool) (t:Int):∀ l:List ay,((iT note t l).map jg.id).Sublist (uE l)
 | []=>by rw [iT];exact List.nil_sublist _
 | x :: l=>by
  rw [iT,uE,lG];exact (YW note t x).append (II note t l)
theorem YX (note:Bool) (t:Int):∀ x:bP,((vM note t x).map jg.id).Sublist (BM x)
 | .mk h cs=>by rw [vM,BM];exact QL note t cs
theorem QM (note:Bool) (t:Int):∀ l:List bP,((nR note t l).map jg.id).Sublist (Av l)
 | []=>by rw [nR];exact List.nil_sublist _
 | x :: l=>by
  rw [nR,Av,lG];exact (YX note t x).append (QM note t l)
theorem YV (note:Bool) (t:Int):∀ x:bO,((vK note t x).map jg.id).Sublist (BL x)
 | .mk i h f=>by rw [vK,BL];exact List.Sublist.cons_cons _ (II note (t+1) f)
theorem QL (note:Bool) (t:Int):∀ l:List bO,((ow note t l).map jg.id).Sublist (Ar l)
 | []=>by rw [ow];exact List.nil_sublist _
 | x :: l=>by
  rw [ow,Ar,lG];exact (YV note t x).append (QL note t l)
end
structure zK (l:List ay):Prop where
 ok:dX l
 nd:(uE l).Nodup
 pos:∀ i∈uE l,1≤i∧i≤1073741824
theorem zK.of {C:gN} {body note:Bool} {t n:Int} {l:List ay} {s':CS} (h:jy C body note t l ⟨n,[]⟩=(0,s')):zK l:=by
 have he:=JF C body note t l _ _ h;have hn:=he.nd List.nodup_nil;rw [he.eq] at hn;exact ⟨⟨C,body,note,t,_,_,h⟩,by simpa using hn,he.pos⟩
theorem zK.ids {l:List ay} (h:zK l):((Bt l).map jg.id).Nodup:=by
 have hs:=II false 0 l;rw [Bt,eT,List.nodup_cons];exact ⟨fun hm=>by have:=h.pos _ (hs.subset hm);dsimp only at this;omega,hs.nodup h.nd⟩
end
section
open Go.RowKit
def Bj (s:CS) (z:Nat) (r:CR):Prop:=r.2.bL.length≤s.bL.length+z
theorem Bj.and {s:CS} {z y q:Nat} {r:CR} {f:CS→CR} (h:Bj s z r) (hq:z+y≤q) (hf:∀ s,Bj s y (f s)):Bj s q (fQ r f):=by
 unfold Bj at *
 unfold fQ
 split
 ·omega
 have:=hf r.2
 omega
theorem Bj.zero (s:CS) (e:Int) (q:Nat):Bj s q (e,s):=by unfold Bj;dsimp only;omega
theorem Y8 {l:List ay} {k:Nat} (hk:k < l.length):bq (l.drop k)=1+dw l[k].dat+bq (l.drop (k+1)):=by
 simp only [bq];rw [kS hk,eT,eX]
end
section
open Go.RowKit
structure bX where
 code:Int
 id:Int
 name:ByteArray
 flow:Int
 at_:Int
def bX.dat (x:bX):List Dat:=[li x.code,li x.id,.lf (.string x.name),li x.flow,li x.at_]
abbrev bX.cells (x:bX):List aj:=[vi x.code,vi x.id,.string x.name,vi x.flow,vi x.at_]
abbrev bX.val (x:bX):aj:=.agg #[vi x.code,vi x.id,.string x.name,vi x.flow,vi x.at_]
theorem Sq {G:GH} {x:bX} {cs:List aj} (h:aZ G x.dat cs):cs=x.cells:=by
 simp only [bX.dat,aZ,av] at h
 obtain ⟨_,_,rfl,⟨rfl,_⟩,_,_,rfl,⟨rfl,_⟩,_,_,rfl,⟨rfl,_⟩,_,_,rfl,⟨rfl,_⟩,_,_,rfl,⟨rfl,_⟩,rfl⟩:=h
 rfl
theorem aap (G:GH) (x:bX):aZ G x.dat x.cells :=
 ⟨_,_,rfl,⟨rfl,rfl⟩,_,_,rfl,⟨rfl,rfl⟩,_,_,rfl,⟨rfl,rfl⟩,_,_,rfl,⟨rfl,rfl⟩,_,_,rfl,⟨rfl,rfl⟩,rfl⟩
mutual
def zN (g:Int) (t:Nat):ay→List bX
 | .mk k c i tx _ f r=>(if k=8 then [⟨c,i,tx,g,(t:Int)⟩] else [])++((if k=6 then dB i 0 f else [])++(if k=7 then mM r else []))
/-- The anchors of a flow, and of those in it, in document order. -/
def dB (g:Int):Nat→List ay→List bX
 | _,[]=>[]
 | t,x :: l=>zN g t x++dB g (t+n1 x) l
def mM:List bP→List bX
 | []=>[]
 | x :: l=>zO x++mM l
def zO:bP→List bX
 | .mk _ cs=>pF cs
def pF:List bO→List bX
 | []=>[]
 | x :: l=>zM x++pF l
def zM:bO→List bX
 | .mk i _ f=>dB i 0 f
end
theorem Mk (g:Int) (t:Nat) (x:ay):zN g t x=(if x.kind=8 then [⟨x.code,x.id,x.text,g,(t:Int)⟩] else [])++((if x.kind=6 then dB x.id 0 x.flow else [])++(if x.kind=7 then mM x.rows else [])):=by cases x;rw [zN];rfl
theorem Si (x:bP):zO x=pF x.cells:=by cases x;rw [zO];rfl
theorem Sd (x:bO):zM x=dB x.id 0 x.flow:=by cases x;rw [zM];rfl
mutual
theorem aae (g:Int) (t:Nat):∀ x:ay,(zN g t x).length≤dw x.dat
 | .mk k c i tx h fl r=>by
  have h4:=nU (.mk k c i tx h fl r);have hf:=yE i 0 fl;have hr:=Ml r;dsimp only [ay.text,ay.head,ay.flow,ay.rows] at h4;rw [zN,lF,lF]
  split <;> split <;> split <;> simp only [nV,List.length_nil] <;> omega
theorem yE (g:Int):∀ (t:Nat) (l:List ay),(dB g t l).length≤bq l
 | _,[]=>by simp [dB]
 | t,x :: l=>by
  have h1:=aae g t x;have h2:=yE g (t+n1 x) l;rw [dB,lF]
  simp only [bq,eT,eX] at *;omega
theorem aaf:∀ x:bP,(zO x).length≤dw x.dat
 | .mk h cs=>by
  have h4:=Bf (.mk h cs);have hc:=Sg cs;dsimp only [bP.head,bP.cells] at h4;rw [zO];omega
theorem Ml:∀ l:List bP,(mM l).length≤gZ l
 | []=>by simp [mM]
 | x :: l=>by
  have h1:=aaf x;have h2:=Ml l;rw [mM,lF]
  simp only [gZ,eT,eX] at *;omega
theorem aac:∀ x:bO,(zM x).length≤dw x.dat
 | .mk i h fl=>by
  have h4:=Bd (.mk i h fl);have hf:=yE i 0 fl;dsimp only [bO.head,bO.flow] at h4;rw [zM];omega
theorem Sg:∀ l:List bO,(pF l).length≤jA l
 | []=>by simp [pF]
 | x :: l=>by
  have h1:=aac x;have h2:=Sg l;rw [pF,lF]
  simp only [jA,eT,eX] at *;omega
end
theorem PO (x:ay):n1 x+bq x.flow+gZ x.rows < dw x.dat:=by
 have h1:=nU x;have h2:=Gw x.text
 unfold n1 eD
 split <;> first|omega|(split <;> omega)
def CP (a:bX):AP:=fun args _=>args=[a.val]
def QX (P:Program) (fv:aj) (Gi:GH) (xs:List AP) (J:Nat→GH→OL→Prop):Prop :=
 ∀ k args G L w,uK xs k args G→(∀ b o,Gi b=some o→G b=some o)→J k G L→gX G L w→sH P fv args w (gH w G L fun _ G' L'=>J (k+1) G' L')
end
section
open Go.RowKit
abbrev pW (p:Int × Int):aj:=.agg #[vi p.1,vi p.2]
def kW:Nat→List ((Int × Int) × aj)→List MapEntry
 | _,[]=>[]
 | i,(k,v) :: r=>⟨pW k,v,i⟩ :: kW (i+1) r
theorem WT (x:(Int × Int) × aj):∀ (i:Nat) (l:List ((Int × Int) × aj)),kW i (l++[x])=kW i l++[⟨pW x.1,x.2,i+l.length⟩]
 | _,[]=>rfl
 | i,k :: r=>by
  rw [nH,kW,WT x (i+1) r,kW,nH,nV,show i+1+r.length=i+(r.length+1) by omega]
def mV (x:Int × Int):List ((Int × Int) × aj)→Option aj
 | []=>none
 | (k,v) :: r=>if k=x then some v else mV x r
theorem XI {P:Program} {kt:TypeId} (he:zG P kt [0,1]) (w:World) (p q:Int × Int):(Op.equal kt (pW p) (pW q)).run P w=.ok (decide (p=q)) w:=by
 have h1:=Qf (P:=P) (w:=w) (d:=9998) (xs:=#[vi p.1,vi p.2]) (ys:=#[vi q.1,vi q.2]) _ he.ok (by rw [he.ug];rfl)
 rw [he.ug] at h1
 have h2:=run_equalIn_struct w 9999 kt #[vi p.1,vi p.2] #[vi q.1,vi q.2] he.und he.held
 show (Op.equalIn 10000 kt (pW p) (pW q)).run P w=_
 rw [h2,h1]
 congr 1
 obtain ⟨a,b⟩:=p
 obtain ⟨c,d⟩:=q
 rw [nX]
 simp [jR]
theorem Qe {P:Program} {kt:TypeId} (he:zG P kt [0,1]) (w:World) (e:Bool) (p:Int × Int):(Instr.checkKey e 10000 kt (pW p)).run P w=.ok () w:=by
 show (Instr.checkKey e (9999+1) kt (pW p)).run P w=_
 have hok:=he.ok
 have hfl:=he.ug
 rw [Instr.checkKey]
 simp only [cO,run_underlying he.und,jW]
 rw [← Array.forIn_toList]
 have hall:∀ f∈(P.fieldsOf kt).toList,f.name ≠ "_"∧P.plainKey f.type=true∧P.underlying f.type=some (.int .i64)∧∃ m,(#[vi p.1,vi p.2]:Array aj)[f.offset]?=some (.int .i64 m):=by
  intro f hf
  have h1:=lC.1 hok f hf
  simp only [lD,pG] at h1
  refine ⟨h1.1.1,h1.1.2,?_,?_⟩
  ·have h2:=h1.2
   unfold Ib at h2
   split at h2
   ·assumption
   ·cases h2
  ·have:f.offset∈[0,1]:=by rw [← hfl];exact List.mem_map_of_mem hf
   simp only [lq,List.not_mem_nil,or_false] at this
   rcases this with h|h
   ·rw [h];exact ⟨p.1,rfl⟩
   ·rw [h];exact ⟨p.2,rfl⟩
 clear hok hfl
 generalize (P.fieldsOf kt).toList=fs at hall
 induction fs with
 | nil=>simp
 | cons f fs ih =>
  obtain ⟨hn,hp,hu,m,hm⟩:=hall f iC
  have p1:=run_part_plain w hp hm
  have p2:=MapKept.run_checkKey (P:=P) (w:=w) (k:=.int .i64 m) hu (by trivial) e 9998
  simp only [List.forIn_cons,cO,hn,ne_eq,not_false_eq_true,if_true,jW,p1,p2,qw]
  exact ih fun y hy=>hall y (jZ _ hy)
theorem XJ {P:Program} {kt:TypeId} (he:zG P kt [0,1]) (w:World) (x:Int × Int):∀ (i j:Nat) (l:List ((Int × Int) × aj)),∃ an,(Instr.findAsking kt (pW x) (kW i l) j).run P w=.ok an w∧an.map (·.2)=mV x l
 | _,_,[]=>⟨none,by simp [kW,Instr.findAsking],rfl⟩
 | i,j,(k,v) :: r=>by
  obtain ⟨an,h1,h2⟩:=XJ he w x (i+1) (j+1) r
  by_cases e:k=x
  ·subst e
   exact ⟨some (j,v),by simp [kW,Instr.findAsking,XI he,cO],by rw [mV,au rfl];rfl⟩
  ·exact ⟨an,by simp [kW,Instr.findAsking,XI he,cO,show ¬ x=k from fun h=>e h.symm,h1],by rw [mV,ah e];exact h2⟩
theorem aeJ {P:Program} {kt:TypeId} (he:zG P kt [0,1]) (x:aj):∀ (l:List MapEntry) (j:Nat),l≠[]→Instr.findNow (.struct (P.fieldsOf kt)) x l j=none
 | [],_,h=>absurd rfl h
 | e :: l,j,_=>by simp [Instr.findNow,Instr.sameNow]
theorem Qh {P:Program} {kt:TypeId} (he:zG P kt [0,1]) (w:World) (x:Int × Int) (l:List ((Int × Int) × aj)):∃ an,(Instr.findKey kt (pW x) (kW 0 l)).run P w=.ok an w∧an.map (·.2)=mV x l:=by
 obtain ⟨an,h1,h2⟩:=XJ he w x 0 0 l
 refine ⟨an,?_,h2⟩
 unfold Instr.findKey
 simp only [cO,run_underlying he.und,jW]
 cases l with
 | nil=>simp only [kW,Instr.findAsking] at h1 ⊢;simpa [Instr.findNow] using h1
 | cons y l =>
  rw [aeJ he _ _ _ (by obtain ⟨k,v⟩:=y;simp [kW])]
  exact h1
abbrev BP (l:List ((Int × Int) × aj)):Obj:=.map (kW 0 l).toArray l.length
section
variable {N:Nat} {D:List Deferred} {w0:World} {F:Nat→Prop} {G0 G:GH} {L:OL} {T:List (Nat × aj)}
variable {r:Option Nat} {P:Program} {ops:Array Oper} {Q:Exit→Act→World→Prop} {rest:List Oper} {a:Act} {w:World}
variable {d:Nat} {ty:TypeId} {pos:String} {aP:Array Edge} {g:Option (Nat × Bool)}
theorem ajF {t kt et:TypeId} {x y:Operand} {b:Nat} {l:List ((Int × Int) × aj)} {ky:Int × Int} {zv:aj} (hm:P.underlying t=some (.map kt et)) (he:zG P kt [0,1]) (hz:(P.info? et).map (fun i=>i.zero)=some (some zv)) (H:St N D w0 F G0 G L T a w)
  (hw:Region.wanted ⟨some d,.lookup t x y false,ty,pos,aP,g⟩ (yielded ops a.tmps)=true) (hx:ev T x=some (.map (some b))) (hy:ev T y=some (pW ky)) (hb:w.heap[b]?=some (BP l)) (hd:Nat.blt d N=true)
  (k:∀ a',St N D w0 F G0 G L ((d,(mV ky l).getD zv) :: T) a' w→WL r P ops Q rest a' w):WL r P ops Q (⟨some d,.lookup t x y false,ty,pos,aP,g⟩ :: rest) a w:=by
 obtain ⟨an,h2,han⟩:=Qh he w ky l
 obtain ⟨inf,hi1,hi2⟩:=lu.1 hz
 refine fO (v:=(mV ky l).getD zv) (w':=w) hw rfl ?_ (k _ (H.put hd _ H.hp))
 have h1:=Qe he w (kW 0 l).toArray.isEmpty ky
 replace hb:w.heap[b]?=some (.map (kW 0 l).toArray l.length):=hb
 have h2':(Instr.findKey kt (pW ky) (kW 0 l).toArray.toList).run P w=.ok an w:=by simpa using h2
 generalize (kW 0 l).toArray=es at hb h1 h2'
 rw [← han]
 cases an with
 | none=>simp [execOp,Instr.lookup,H.ev hx,H.ev hy,cO,mg hm,MapKept.run_getObj_map hb,h1,h2',Result.andThen,zeroValue,AJ hi1,hi2]
 | some q=>simp [execOp,Instr.lookup,H.ev hx,H.ev hy,cO,mg hm,MapKept.run_getObj_map hb,h1,h2',Result.andThen]
theorem XR {t kt et:TypeId} {x y:Operand} {b:Nat} {l:List ((Int × Int) × aj)} {ky:Int × Int} {zv:aj} (hm:P.underlying t=some (.map kt et)) (he:zG P kt [0,1]) (hz:(P.info? et).map (fun i=>i.zero)=some (some zv)) (H:St N D w0 F G0 G L T a w)
  (hw:Region.wanted ⟨some d,.lookup t x y true,ty,pos,aP,g⟩ (yielded ops a.tmps)=true) (hx:ev T x=some (.map (some b))) (hy:ev T y=some (pW ky)) (hb:w.heap[b]?=some (BP l)) (hd:Nat.blt d N=true)
  (k:∀ a',St N D w0 F G0 G L ((d,.tuple #[(mV ky l).getD zv,.bool (mV ky l).isSome]) :: T) a' w→WL r P ops Q rest a' w):WL r P ops Q (⟨some d,.lookup t x y true,ty,pos,aP,g⟩ :: rest) a w:=by
 obtain ⟨an,h2,han⟩:=Qh he w ky l
 obtain ⟨inf,hi1,hi2⟩:=lu.1 hz
 refine fO (v:=.tuple #[(mV ky l).getD zv,.bool (mV ky l).isSome]) (w':=w) hw rfl ?_ (k _ (H.put hd _ H.hp))
 have h1:=Qe he w (kW 0 l).toArray.isEmpty ky
 replace hb:w.heap[b]?=some (.map (kW 0 l).toArray l.length):=hb
 have h2':(Instr.findKey kt (pW ky) (kW 0 l).toArray.toList).run P w=.ok an w:=by simpa using h2
 generalize (kW 0 l).toArray=es at hb h1 h2'
 rw [← han]
 cases an with
 | none=>simp [execOp,Instr.lookup,H.ev hx,H.ev hy,cO,mg hm,MapKept.run_getObj_map hb,h1,h2',Result.andThen,zeroValue,AJ hi1,hi2]
 | some q=>simp [execOp,Instr.lookup,H.ev hx,H.ev hy,cO,mg hm,MapKept.run_getObj_map hb,h1,h2',Result.andThen]
theorem ajJ {t kt et:TypeId} {x y z:Operand} {b i:Nat} {l:List ((Int × Int) × aj)} {ky:Int × Int} {v:aj} (hm:P.underlying t=some (.map kt et)) (he:zG P kt [0,1]) (H:St N D w0 F G0 G L T a w)
  (hw:Region.wanted ⟨none,.mapUpdate t x y z,ty,pos,aP,g⟩ (yielded ops a.tmps)=true) (hx:ev T x=some (.map (some b))) (hy:ev T y=some (pW ky)) (hzv:ev T z=some v) (hi:L[i]?=some (b,BP l)) (hn:mV ky l=none)
  (k:∀ w',St N D w0 F G0 G (L.set i (b,BP (l++[(ky,v)]))) T a w'→WL r P ops Q rest a w'):WL r P ops Q (⟨none,.mapUpdate t x y z,ty,pos,aP,g⟩ :: rest) a w:=by
 obtain ⟨an,h2,han⟩:=Qh he w ky l
 have hnone:an=none:=by
  rw [hn] at han
  cases an with
  | none=>rfl
  | some q=>cases han
 subst hnone
 have hb:w.heap[b]?=some (.map (kW 0 l).toArray l.length):=H.hp.own _ (lU hi)
 have h1:=Qe he w false ky
 have h2':(Instr.findKey kt (pW ky) (kW 0 l).toArray.toList).run P w=.ok none w:=by simpa using h2
 have e:(kW 0 l).toArray.push ⟨pW ky,v,l.length⟩=(kW 0 (l++[(ky,v)])).toArray:=by
  rw [WT,List.push_toArray,kT]
 refine QS (w':={ w with heap:=w.heap.setIfInBounds b (.map ((kW 0 l).toArray.push ⟨pW ky,v,l.length⟩) (l.length+1)) }) hw rfl ?_ ?_
 ·generalize (kW 0 l).toArray=es at hb h2'
  simp [execOp,Instr.mapUpdate,H.ev hx,H.ev hy,H.ev hzv,cO,mg hm,MapKept.run_getObj_map hb,h1,h2',MapKept.run_setObj_map _ hb,Result.andThen]
 ·refine k _ ?_
  have H':=H.move (H.hp.upd hi (YH (o:=.map ((kW 0 l).toArray.push ⟨pW ky,v,l.length⟩) (l.length+1)) hb))
  rw [e] at H' ⊢
  rw [BP,lF]
  exact H'
end
end
section
open Go.RowKit
theorem Fe {f t:Int} {L:List jg} (h:sI f t L):f∈L.map jg.id:=by
 obtain ⟨F,hF,rfl,-⟩:=h;exact List.mem_map_of_mem hF
theorem Ny {g:Int} {at_:Nat} {l:List ay} (h:dX l) {p:Int × Int} (hp:p∈vJ g at_ l):(g=p.1∧(at_:Int)≤p.2)∨p.1∈uE l:=by
 rcases (KE g at_ false 0 p.1 p.2 l h).1 hp with ⟨h1,h2,-⟩|h1
 ·exact .inl ⟨h1,h2⟩
 exact .inr ((II false 0 l).subset (Fe h1))
theorem afa {g:Int} {at_:Nat} {x:ay} (h:vP x) {p:Int × Int} (hp:p∈Cn g at_ x):(g=p.1∧p.2 < at_+eD x)∨p.1∈Au x:=by
 rcases (WW g at_ false 0 p.1 p.2 x h).1 hp with ⟨h1,-,h2⟩|h1
 ·exact .inl ⟨h1,h2⟩
 exact .inr ((YW false 0 x).subset (Fe h1))
theorem U0 {l:List bP} (h:∀ r∈l,∀ c∈r.cells,dX c.flow) {p:Int × Int} (hp:p∈sG l):p.1∈Av l:=(QM false 0 l).subset (Fe ((PK false 0 p.1 p.2 l h).1 hp))
theorem afb {x:bP} (h:∀ c∈x.cells,dX c.flow) {p:Int × Int} (hp:p∈Co x):p.1∈BM x:=(YX false 0 x).subset (Fe ((mem_row false 0 p.1 p.2 x h).1 hp))
theorem aeZ {l:List bO} (h:∀ c∈l,dX c.flow) {p:Int × Int} (hp:p∈yu l):p.1∈Ar l:=(QL false 0 l).subset (Fe ((PI false 0 p.1 p.2 l h).1 hp))
theorem aeY {x:bO} (h:dX x.flow) {p:Int × Int} (hp:p∈Cm x):p.1∈BL x:=(YV false 0 x).subset (Fe ((WV false 0 p.1 p.2 x h).1 hp))
theorem KH (g:Int) (a:Nat):∀ u:Nat,((List.range u).map fun q=>(g,((a+q:Nat):Int))).Nodup
 | 0=>List.nodup_nil
 | u+1=>by
  rw [List.range_succ,lG,List.nodup_append];refine ⟨KH g a u,by simp,fun p hp q hq=>?_⟩;obtain ⟨i,hi,rfl⟩:=List.mem_map.1 hp;have hi:=oD.1 hi
  simp only [eT,qx,sM] at hq
  subst hq;intro e
  injection e with _ e
  omega
mutual
theorem aiw (g:Int) (at_:Nat):∀ x:ay,vP x→(Au x).Nodup→g∉Au x→(Cn g at_ x).Nodup
 | .mk k c i tx h fl r,hx,hn,hg=>by
  have hf:=KG i 0 fl hx.fl;have hr:=Xe r hx.rw;have h0:=hx.Io;have hxf:dX fl:=hx.fl;have Kr:∀ q∈r,∀ c∈q.cells,dX c.flow:=hx.rw
  simp only [ay.kind,ay.rows] at h0
  rw [Au] at hn hg;rw [Cn]
  by_cases h6:k=6
  ·rw [au (.inl h6),au h6,ah (show ¬ k=7 by omega),oF] at hn hg;rw [au h6,h0 (by omega),sG,oF]
   simp only [nH,jX,List.nodup_cons,lq,not_or] at hn hg
   rw [List.nodup_append];refine ⟨KH _ _ _,hf hn.2 hn.1,fun p hp q hq e=>?_⟩;subst e;obtain ⟨j,-,rfl⟩:=List.mem_map.1 hp
   rcases Ny hxf hq with ⟨h1,-⟩|h1
   ·exact hg.1 h1.symm
   exact hg.2 h1
  rw [ah h6,jX]
  by_cases h7:k=7
  ·rw [au (.inr h7),ah h6,au h7,jX] at hn hg
   simp only [nH,jX,List.nodup_cons,lq,not_or] at hn hg
   rw [List.nodup_append];refine ⟨KH _ _ _,hr hn.2,fun p hp q hq e=>?_⟩;subst e;obtain ⟨j,-,rfl⟩:=List.mem_map.1 hp;exact hg.2 (U0 Kr hq)
  rw [h0 h7,sG,oF];exact KH _ _ _
theorem KG (g:Int) (at_:Nat):∀ l:List ay,dX l→(uE l).Nodup→g∉uE l→(vJ g at_ l).Nodup
 | [],_,_,_=>by rw [vJ];simp
 | x :: l,hl,hn,hg=>by
  obtain ⟨hx,hl⟩:=hl.head;rw [uE,List.nodup_append] at hn;rw [uE,kR,not_or] at hg;rw [vJ,List.nodup_append];refine ⟨aiw g at_ x hx hn.1 hg.1,KG g (at_+n1 x) l hl hn.2.1 hg.2,fun p hp q hq e=>?_⟩;subst e
  rcases afa hx hp with ⟨h1,h2⟩|h1
  ·rcases Ny hl hq with ⟨h3,h4⟩|h3
   ·rw [hx.n1] at h4;push_cast at h4;omega
   exact hg.2 (h1 ▸ h3)
  rcases Ny hl hq with ⟨h3,h4⟩|h3
  ·exact hg.1 (h3 ▸ h1)
  exact hn.2.2 _ h1 _ h3 rfl
theorem aix:∀ x:bP,(∀ c∈x.cells,dX c.flow)→(BM x).Nodup→(Co x).Nodup
 | .mk h cs,hx,hn=>by
  rw [BM] at hn;rw [Co];exact Xd cs hx hn
theorem Xe:∀ l:List bP,(∀ r∈l,∀ c∈r.cells,dX c.flow)→(Av l).Nodup→(sG l).Nodup
 | [],_,_=>by rw [sG];exact List.nodup_nil
 | x :: l,hx,hn=>by
  rw [Av,List.nodup_append] at hn;rw [sG,List.nodup_append];exact ⟨aix x (hx x iC) hn.1,Xe l (fun r hr=>hx r (jZ _ hr)) hn.2.1,fun p hp q hq e=>hn.2.2 _ (afb (hx x iC) hp) _ (U0 (fun r hr=>hx r (jZ _ hr)) hq) (by rw [e])⟩
theorem aiv:∀ x:bO,dX x.flow→(BL x).Nodup→(Cm x).Nodup
 | .mk i h fl,hx,hn=>by
  rw [BL,List.nodup_cons] at hn;rw [Cm];exact KG i 0 fl hx hn.2 hn.1
theorem Xd:∀ l:List bO,(∀ c∈l,dX c.flow)→(Ar l).Nodup→(yu l).Nodup
 | [],_,_=>by rw [yu];exact List.nodup_nil
 | x :: l,hx,hn=>by
  rw [Ar,List.nodup_append] at hn;rw [yu,List.nodup_append];exact ⟨aiv x (hx x iC) hn.1,Xd l (fun r hr=>hx r (jZ _ hr)) hn.2.1,fun p hp q hq e=>hn.2.2 _ (aeY (hx x iC) hp) _ (aeZ (fun r hr=>hx r (jZ _ hr)) hq) (by rw [e])⟩
end
theorem zK.vnd {l:List ay} (h:zK l):(vJ 0 0 l).Nodup:=KG 0 0 l h.ok h.nd fun hm=>by have:=h.pos _ hm;omega
end
section
open Go.RowKit
theorem bX.eq_iff (a b:bX):(a.code=b.code∧a.id=b.id∧a.name=b.name∧a.flow=b.flow∧a.at_=b.at_)↔a=b:=by cases a;cases b;simp
instance:DecidableEq bX:=fun a b=>decidable_of_iff _ (bX.eq_iff a b)
def mQ (l:List bX) (c i:Int):Option bX:=l.find? fun a=>decide (a.code=c∧a.id=i)
theorem U1 {l:List bX} {k:Nat} (hk:k < l.length) (c i:Int):mQ (l.take (k+1)) c i=(mQ (l.take k) c i).or (if l[k].code=c∧l[k].id=i then some l[k] else none):=by
 unfold mQ
 rw [jF hk,List.find?_append,List.find?_cons,List.find?_nil]
 by_cases h:l[k].code=c∧l[k].id=i
 ·rw [au h,jY h]
 rw [ah h,jk h]
theorem WH (p q:Int × Int) (v:aj):∀ l:List ((Int × Int) × aj),mV p (l++[(q,v)])=(mV p l).or (if q=p then some v else none)
 | []=>by
  by_cases h:q=p
  ·simp [mV,h]
  simp [mV,h]
 | (k,u) :: r=>by
  rw [nH,mV,mV]
  by_cases h:k=p
  ·rw [au h,au h];rfl
  rw [ah h,ah h];exact WH p q v r
def uL (acc:List ((Int × Int) × aj)) (l:List bX):Prop:=∀ p:Int × Int,mV p acc=(mQ l p.1 p.2).map bX.val
theorem uL.nil:uL [] []:=fun _=>rfl
theorem uL.new {acc:List ((Int × Int) × aj)} {l:List bX} {k:Nat} (h:uL acc (l.take k)) (hk:k < l.length) (hn:mV (l[k].code,l[k].id) acc=none):uL (acc++[((l[k].code,l[k].id),l[k].val)]) (l.take (k+1)):=by
 intro p;rw [WH,h p,U1 hk]
 by_cases e:(l[k].code,l[k].id)=p
 ·subst e;rw [au rfl,au ⟨rfl,rfl⟩];rw [h] at hn
  cases hf:mQ (l.take k) l[k].code l[k].id with
  | none=>rfl
  | some x=>rw [hf] at hn;cases hn
 rw [ah e,ah (fun h=>e (Prod.ext h.1 h.2))]
 cases mQ (l.take k) p.1 p.2 <;> rfl
theorem uL.old {acc:List ((Int × Int) × aj)} {l:List bX} {k:Nat} (h:uL acc (l.take k)) (hk:k < l.length) (hn:(mV (l[k].code,l[k].id) acc).isSome=true):uL acc (l.take (k+1)):=by
 intro p;rw [h p,U1 hk]
 by_cases e:l[k].code=p.1∧l[k].id=p.2
 ·rw [h,Option.isSome_map] at hn;rw [e.1,e.2] at hn;obtain ⟨x,hx⟩:=Option.isSome_iff_exists.1 hn;rw [hx];rfl
 rw [ah e,Option.or_none]
structure fP where
 id:Int
 name:ByteArray
 ff:Int
 fa:Int
 tf:Int
 ta:Int
def fP.dat (x:fP):List Dat:=[li x.id,.lf (.string x.name),li x.ff,li x.fa,li x.tf,li x.ta]
abbrev fP.cells (x:fP):List aj:=[vi x.id,.string x.name,vi x.ff,vi x.fa,vi x.tf,vi x.ta]
theorem Yh {G:GH} {x:fP} {cs:List aj} (h:aZ G x.dat cs):cs=x.cells:=by
 simp only [fP.dat,aZ,av] at h
 obtain ⟨_,_,rfl,⟨rfl,_⟩,_,_,rfl,⟨rfl,_⟩,_,_,rfl,⟨rfl,_⟩,_,_,rfl,⟨rfl,_⟩,_,_,rfl,⟨rfl,_⟩,_,_,rfl,⟨rfl,_⟩,rfl⟩:=h
 rfl
theorem Yi (G:GH) (x:fP):aZ G x.dat x.cells :=
 ⟨_,_,rfl,⟨rfl,rfl⟩,_,_,rfl,⟨rfl,rfl⟩,_,_,rfl,⟨rfl,rfl⟩,_,_,rfl,⟨rfl,rfl⟩,_,_,rfl,⟨rfl,rfl⟩,_,_,rfl,⟨rfl,rfl⟩,rfl⟩
def zW (l:List bX) (c:Int) (a:bX):Int × Int:=match mQ l (c+1) a.id with
 | some e=>if e.flow=a.flow∧a.at_ < e.at_ then (e.flow,e.at_) else (a.flow,a.at_+1)
 | none=>(a.flow,a.at_+1)
def xY (l:List bX) (c:Int) (a:bX):fP:=⟨a.id,a.name,a.flow,a.at_+1,(zW l c a).1,(zW l c a).2⟩
def oM (l:List bX) (c:Int) (a:bX):Bool:=decide (a.code=c∧mQ l c a.id=some a)
def jq (l:List bX) (c:Int):List fP:=(l.filter (oM l c)).map (xY l c)
theorem Yg {l m:List bX} {c:Int} {k:Nat} (hk:k < l.length):((l.take (k+1)).filter (oM m c)).map (xY m c)=((l.take k).filter (oM m c)).map (xY m c)++if oM m c l[k]=true then [xY m c l[k]] else []:=by
 rw [jF hk,List.filter_append,lG]
 congr 1
 by_cases h:oM m c l[k]=true
 ·rw [au h,List.filter_cons,au h];rfl
 rw [ah h,List.filter_cons,ah h];rfl
mutual
theorem aau (g:Int) (t:Nat):∀ x:ay,vP x→((zN g t x).map fun a=>(a.flow,a.at_)).Sublist (Cn g t x)
 | .mk k c i tx h fl r,hx=>by
  have hf:=Jp i 0 fl hx.fl;have hr:=Sw r hx.rw;have h0:=hx.Io
  simp only [ay.kind,ay.rows] at h0
  rw [zN,Cn,lG,lG];have hn:=hx.n1
  by_cases h8:k=8
  ·subst h8
   have hu:eD (.mk 8 c i tx h fl r)=1:=by unfold eD;rw [ah (by simp [ay.kind])]
   rw [hn,hu,au rfl,ah (by omega),ah (by omega),h0 (by omega),sG,show List.range 1=[0] from rfl]
   simp
  rw [ah h8,qx,jX];refine List.Sublist.trans ?_ (List.sublist_append_right _ _)
  by_cases h6:k=6
  ·rw [au h6,au h6,ah (by omega),qx,oF];exact hf.trans (List.sublist_append_left _ _)
  rw [ah h6,ah h6,qx,jX,jX]
  by_cases h7:k=7
  ·rw [au h7];exact hr
  rw [ah h7];exact List.nil_sublist _
theorem Jp (g:Int):∀ (t:Nat) (l:List ay),dX l→((dB g t l).map fun a=>(a.flow,a.at_)).Sublist (vJ g t l)
 | _,[],_=>by rw [dB];exact List.nil_sublist _
 | t,x :: l,hl=>by
  obtain ⟨hx,hl⟩:=hl.head;rw [dB,vJ,lG,hx.n1];have h2:=Jp g (t+n1 x) l hl;rw [hx.n1] at h2;exact (aau g t x hx).append h2
theorem Sw:∀ l:List bP,(∀ r∈l,∀ c∈r.cells,dX c.flow)→((mM l).map fun a=>(a.flow,a.at_)).Sublist (sG l)
 | [],_=>by rw [mM];exact List.nil_sublist _
 | x :: l,h=>by
  rw [mM,sG,lG];exact (aav x (h x iC)).append (Sw l fun r hr=>h r (jZ _ hr))
theorem aav:∀ x:bP,(∀ c∈x.cells,dX c.flow)→((zO x).map fun a=>(a.flow,a.at_)).Sublist (Co x)
 | .mk hd cs,h=>by rw [zO,Co];exact Sv cs h
theorem Sv:∀ l:List bO,(∀ c∈l,dX c.flow)→((pF l).map fun a=>(a.flow,a.at_)).Sublist (yu l)
 | [],_=>by rw [pF];exact List.nil_sublist _
 | x :: l,h=>by
  rw [pF,yu,lG];exact (aat x (h x iC)).append (Sv l fun r hr=>h r (jZ _ hr))
theorem aat:∀ x:bO,dX x.flow→((zM x).map fun a=>(a.flow,a.at_)).Sublist (Cm x)
 | .mk i hd fl,h=>by rw [zM,Cm];exact Jp i 0 fl h
end
end
section
open Go.RowKit
section
variable {N:Nat} {D:List Deferred} {w0:World} {F:Nat→Prop} {G0 G:GH} {L Lo:OL} {T:List (Nat × aj)}
variable {r:Option Nat} {P:Program} {ops:Array Oper} {Q:Exit→Act→World→Prop} {rest:List Oper} {a:Act} {w:World}
variable {d:Nat} {ty:TypeId} {pos:String} {aP:Array Edge} {g:Option (Nat × Bool)}
end
end
section
open Go.RowKit
theorem Nc:∀ args w,(callFunc 34 args).run prog w=.ok (.enter 34 args) w:=enters func34 rfl (by kernel_rfl)
theorem Qv:qm prog 45 [(0,1),(1,1)] [.int .i64 0,.int .i64 0]:=⟨by kernel_rfl,by kernel_rfl⟩
theorem Ym:qm prog 47 [(0,1),(1,1),(2,1),(3,2)] [.int .i64 0,.int .i64 0,.string ⟨#[]⟩,.int .i64 0,.int .i64 0]:=⟨by kernel_rfl,by kernel_rfl⟩
theorem M9:∀ args w,(callFunc 18 args).run prog w=.ok (.enter 18 args) w:=enters func18 rfl (by kernel_rfl)
def LU (n:Nat):Prop:=∀ (fv:aj) (Gi:GH) (xs:List AP) (J:Nat→GH→OL→Prop) (G:GH) (L:OL) (w0:World) (j:Nat) (g:Int) (l:List ay) (v:aj),
 (∀ b o,Gi b=some o→G b=some o)→QX prog fv Gi xs J→Cw J→J j G L→gX G L w0→av G (.sl 11 (l.map ay.dat)) v→dX l→bq l < n→(∀ i a,(dB g 0 l)[i]?=some a→xs[j+i]?=some (CP a)) →
 Calls prog 34 #[vi g,v,fv] w0 (gH w0 G L fun _ G' L'=>J (j+(dB g 0 l).length) G' L')
set_option maxHeartbeats 4000000 in
theorem aax {n:Nat} (ih:LU n) (hn:n≤4294967296):LU (n+1):=by
 intro fv Gi xs J G L w0 j0 g l v hGi hcb vg hJ0 hO hv hok hz hx0;obtain ⟨A,c,rfl,hc1,hc2,hg⟩:=hv.slice;rw [bU] at *;have hll:=zF l;have hml:maxLen=9223372036854775807:=rfl;refine kg (N:=83) (T:=[(0,_),(1,_),(2,_)]) func34 rfl ntmps34 rfl rfl hO ?_;intro a H;refine kP H (SR fun _ K1=>ak K1 rfl (SR fun _ K2=>Rm rfl (Rl fU rfl (Rm rfl (Kz K2 (SB ?_))))));clear H K1 K2;intro a H;skip;refine eU (ι:=Nat × Nat × Nat × OL × GH) (Tc:=[(0,_),(1,_),(2,_),(15,_),(16,_)]) (Lc:=[]) (fun gh=>[(6,vi gh.2.1),(17,vi gh.1)]) (fun gh=>[]++gh.2.2.2.1) (fun gh=>gh.2.2.2.2) (fun gh=>gh.1≤l.length∧(∀ b o,G b=some o→gh.2.2.2.2 b=some o)∧dX (l.drop gh.1)∧gh.2.1+bq (l.drop gh.1)≤4294967297∧Now xs CP J (j0+(dB g 0 l).length) gh.2.2.1 (dB g gh.2.1 (l.drop gh.1)) gh.2.2.2.2 gh.2.2.2.1) (fun gh=>l.length - gh.1) ((0,0,j0,L,G)) (by exact (H).sub ⟨rfl,rfl,rfl,rfl,rfl,rfl,rfl,aD⟩) ?_ ?_
 ·exact ⟨by omega,fun _ _ h=>h,hok,by dsimp only;rw [uR];omega,⟨hJ0,hx0,rfl⟩⟩
 clear H;intro gh a w hI H;obtain ⟨k,t,j,Lt,g1⟩:=gh;dsimp only at hI H;obtain ⟨hk,hgm,hok1,hat,eH⟩:=hI;dsimp only [lca,bD] at H;refine kP H (SR fun _ K3=>Rc rfl (Kz K3 (SQ fun _ K4=>Cd rfl ?_ ?_))) <;> clear H K3
 ·intro h18 a H
  try have rV:=dT h18
  have hk2:k < l.length:=by omega
  obtain ⟨b,o,pA,pn,pc,dA,dn,dc,yA,yn,yc,fA,fn,fc,rA,rn,rc,rfl,hrow,hhd,hfl,hrw⟩:=wX hk2 hg;replace hrow:=fun j u hj=>aM hgm (hrow j u hj);replace hfl:=hfl.mono hgm;replace hrw:=hrw.mono hgm;have hpart:=(hv.mono hgm).part k (k+1) (by omega) (by rw [bU];omega)
  have he1:((l.map ay.dat).drop k).take 1=[l[k]].map ay.dat:=by rw [kS (by simpa using hk2)];simp
  have hc3:¬ c=k:=by omega
  have hrn:=hrw.len;rw [bU] at hrn;subst hrn;have hzs:=Y8 hk2;have hzi:=nU l[k];have DF:=Ei (iM hk2);have Dz:=PO l[k];rw [kS hk2] at hok1 eH;obtain ⟨hox,hok2⟩:=hok1.head;have hn1:=hox.n1;rw [dB,Mk] at eH;obtain ⟨x,hx⟩:∃ x,x=l[k]:=⟨_,rfl⟩;rw [← hx] at eH hox hrow hhd hfl hrw hzs hzi DF Dz he1 hn1;have hrl:=FT x.rows;refine kP H (Kc K4 (SQ fun _ K5=>SB (SR fun _ K6=>Rm rfl (Ri fU dx rfl rfl ?_))));clear H K4;intro a H;refine bK dx (cs:=[_,_,_,_,_,_,_,_,_,_,_]) H wn rfl rfl (fun j v hj=>H.hp.aL (hrow j v hj)) rfl ?_;clear H;intro a H;refine eZ dx H wn rfl ?_;clear H;intro b8 a w Hf H;refine kH H (Ra rfl ?_);clear H;intro a H;refine bM dx 0 (vs:=[_,_,_,_,_,_,_,_,_,_,_]) _ H wn rfl rfl rfl rfl rfl rfl rfl rfl ?_;clear H;intro w H;dsimp only [List.set,setRow] at H;refine K6 _ _ ?_;clear K6;refine qy (ι:=Nat × OL × GH) (Tc:=[(0,_),(1,_),(2,_),(6,_),(7,_),(15,_),(16,_),(17,_)]) (Lc:=[(_,_)]) (fun gh=>[]) (fun gh=>[]++gh.2.1) (fun gh=>gh.2.2) (fun gh=>(∀ b o,g1 b=some o→gh.2.2 b=some o)∧Now xs CP J (j0+(dB g 0 l).length) gh.1 (dB g (t+n1 x) (l.drop (k+1))) gh.2.2 gh.2.1) (by exact (H).sub ⟨rfl,rfl,rfl,rfl,rfl,rfl,rfl,rfl,aD⟩) ?_ ?_
  ·skip;refine kP H (SR fun _ K7=>aW jD aH 0 rfl rfl (Kz K7 (SB (SR fun _ K8=>Rc rfl (ak K8 rfl (Cd rfl ?_ ?_)))))) <;> clear H K7 K8
   ·intro dY a H
    try have kG:=dT dY
    rw [au kG,ah (by omega),ah (by omega)] at eH
    simp only [nH,jX] at eH
    refine kP H (SC (Rm rfl (aW CY aH 0 rfl rfl (aW yO aH 0 rfl rfl (aW tZ gG 0 rfl rfl (Rm rfl (Rm rfl ?_)))))));clear H;intro a H;refine ku Qv [_,_] H wn rfl rfl rfl rfl ?_;clear H;intro a H;refine ku Ym [_,_,_,_,_] H wn rfl rfl rfl rfl ?_;clear H;intro a H;refine FB (Li:=[_]) (L:=Lt) H wn rfl rfl (hcb _ _ _ _ _ ⟨_,eH.head,rfl⟩ (fun b o h=>hgm b o (hGi b o h)) eH.now (Hp.owns (Li:=[_]) H.hp)) rfl ?_;clear H;intro v37 Zz Z7 a w afx agj H;have rT:=eH.step afx;refine aI ?_;refine ⟨(j+1,Z7,Zz),by exact (H).sub ⟨rfl,rfl,rfl,rfl,rfl,rfl,rfl,rfl,aD⟩,?_⟩;(try dsimp only);exact ⟨agj,rT⟩
   intro dY a H
   try have kG:=dF dY
   rw [ah kG,jX,nW] at eH;refine kP H (SR fun _ K9=>Rc rfl (ak K9 rfl (Cd rfl ?_ ?_))) <;> clear H K9
   ·intro oI a H
    try have p38:=dT oI
    rw [au p38,ah (by omega),jX] at eH;refine kP H (SC (aW yO aH 0 rfl rfl (aW wW gW 0 rfl rfl (Rm rfl ?_))));clear H;intro a H;refine gV Nc (Li:=[_]) (L:=Lt) H wn rfl (ih fv Gi xs J _ _ _ j x.id x.flow _ (fun b o h=>hgm b o (hGi b o h)) hcb vg eH.now (Hp.owns (Li:=[_]) H.hp) hfl hox.fl (by omega) eH.part) rfl ?_;clear H;intro v45 LY Z8 a w afy OJ H;have rT:=eH.jump afy;refine aI ?_;refine ⟨(j+(dB x.id 0 x.flow).length,Z8,LY),by exact (H).sub ⟨rfl,rfl,rfl,rfl,rfl,rfl,rfl,rfl,aD⟩,?_⟩;(try dsimp only);exact ⟨OJ,rT⟩
   intro oI a H
   try have p38:=dF oI
   rw [ah p38,jX] at eH;refine kP H (SR fun _ aT=>Rc rfl (ak aT rfl (Cd rfl ?_ ?_))) <;> clear H aT
   ·intro h46 a H
    try have p46:=dT h46
    rw [au p46] at eH;refine kP H (SR fun _ bC=>aW oH oQ 0 rfl rfl (Rl lS rfl (Rm rfl (Kz bC (SB ?_)))));clear H bC;intro a H;skip;refine eU (ι:=Nat × Nat × OL × GH) (Tc:=[(0,_),(1,_),(2,_),(6,_),(7,_),(15,_),(16,_),(17,_),(49,_),(50,_)]) (Lc:=[(_,_)]) (fun gh=>[(51,vi gh.1)]) (fun gh=>[]++gh.2.2.1) (fun gh=>gh.2.2.2) (fun gh=>gh.1≤x.rows.length∧(∀ b o,g1 b=some o→gh.2.2.2 b=some o)∧Now xs CP J (j0+(dB g 0 l).length) gh.2.1 (mM (x.rows.drop gh.1)++dB g (t+n1 x) (l.drop (k+1))) gh.2.2.2 gh.2.2.1) (fun gh=>x.rows.length - gh.1) ((0,j,Lt,g1)) (by exact (H).sub ⟨rfl,rfl,rfl,rfl,rfl,rfl,rfl,rfl,rfl,rfl,rfl,aD⟩) ?_ ?_
    ·exact ⟨by omega,fun _ _ h=>h,eH⟩
    clear H;intro gh a w hI H;obtain ⟨rk,j3,Lt3,g3⟩:=gh;dsimp only at hI H;obtain ⟨HY,hg3,rT⟩:=hI;dsimp only [lca,bD] at H;refine kP H (SR fun _ bJ=>Rc rfl (Kz bJ (SQ fun _ bT=>Cd rfl ?_ ?_))) <;> clear H bJ
    ·intro mZ a H
     try have p52:=dT mZ
     have hk3:rk < x.rows.length:=by omega
     obtain ⟨b2,o2,qA,qn,qc,eA,en,ec,zA,zn,zc,cA,cn,cc,rfl,hrow,xJ,hcl⟩:=Fx hk3 (hrw.mono hg3).at_;have hcn:=hcl.len;rw [bU] at hcn;subst hcn;have hsz2:=IQ hk3;have hcs:=FR x.rows[rk].cells;have hoc:=hox.rw _ (iM hk3);rw [kS hk3] at rT
     simp only [mM,Si,nW] at rT
     obtain ⟨y,hy⟩:∃ y,y=x.rows[rk]:=⟨_,rfl⟩;rw [← hy] at rT hrow xJ hcl hsz2 hcs hoc;refine kP H (Kc bT (SQ fun _ bS=>SB (SR fun _ dD=>Ri lS jV rfl rfl ?_)));clear H bT;intro a H;refine bK jV (cs:=[_,_,_,_,_,_]) H wn rfl rfl (fun j v hj=>H.hp.aL (hrow j v hj)) rfl ?_;clear H;intro a H;refine eZ jV H wn rfl ?_;clear H;intro b10 a w Ot H;refine bM jV 0 (vs:=[_,_,_,_,_,_]) _ H wn rfl rfl rfl rfl rfl rfl rfl rfl ?_;clear H;intro w H;dsimp only [List.set,setRow] at H;refine dD _ _ ?_;clear dD;refine kP H (SR fun _ dM=>aW uf uI 0 rfl rfl (Rl oV rfl (Rm rfl (Kz dM (SB ?_)))));clear H dM;intro a H;skip;refine eU (ι:=Nat × Nat × OL × GH) (Tc:=[(0,_),(1,_),(2,_),(6,_),(7,_),(15,_),(16,_),(17,_),(49,_),(50,_),(51,_),(56,_),(57,_)]) (Lc:=[(_,_),(_,_)]) (fun gh=>[(58,vi gh.1)]) (fun gh=>[]++gh.2.2.1) (fun gh=>gh.2.2.2) (fun gh=>gh.1≤y.cells.length∧(∀ b o,g3 b=some o→gh.2.2.2 b=some o)∧Now xs CP J (j0+(dB g 0 l).length) gh.2.1 (pF (y.cells.drop gh.1)++(mM (x.rows.drop (rk+1))++dB g (t+n1 x) (l.drop (k+1)))) gh.2.2.2 gh.2.2.1) (fun gh=>y.cells.length - gh.1) ((0,j3,Lt3,g3)) (by exact (H).sub ⟨rfl,rfl,rfl,rfl,rfl,rfl,rfl,rfl,rfl,rfl,rfl,rfl,rfl,rfl,aD⟩) ?_ ?_
     ·exact ⟨by omega,fun _ _ h=>h,rT⟩
     clear H;intro gh a w hI H;obtain ⟨ck,j4,Lt4,g4⟩:=gh;dsimp only at hI H;obtain ⟨hck,hg4,sW⟩:=hI;dsimp only [lca,bD] at H;refine kP H (SR fun _ cZ=>Rc rfl (Kz cZ (SQ fun _ dW=>Cd rfl ?_ ?_))) <;> clear H cZ
     ·intro iE a H
      try have p59:=dT iE
      have hk4:ck < y.cells.length:=by omega
      obtain ⟨b3,o3,sA,sn,sc,tA,tn,tc,uA,un,uc,gA,gn,gc,rfl,hrow,hch,hcf⟩:=EC hk4 (hcl.mono hg4).at_;have H7:=IJ hk4;have Dr:=hoc _ (iM hk4);rw [kS hk4] at sW
      simp only [pF,Sd,nW] at sW
      refine kP H (Kc dW (SQ fun _ fZ=>SB (SR fun _ eG=>Ri oV kN rfl rfl ?_)));clear H dW;intro a H;refine bK kN (cs:=[_,_,_,_,_,_,_]) H wn rfl rfl (fun j v hj=>H.hp.aL (hrow j v hj)) rfl ?_;clear H;intro a H;refine eZ kN H wn rfl ?_;clear H;intro b12 a w BD H;refine bM kN 0 (vs:=[_,_,_,_,_,_,_]) _ H wn rfl rfl rfl rfl rfl rfl rfl rfl ?_;clear H;intro w H;dsimp only [List.set,setRow] at H;refine eG _ _ ?_;clear eG;refine kP H (SC (aW EN aH 0 rfl rfl (aW CZ gW 0 rfl rfl (Rm rfl ?_))));clear H;intro a H;refine gV Nc (Li:=[_,_,_]) (L:=Lt4) H wn rfl (ih fv Gi xs J _ _ _ j4 y.cells[ck].id y.cells[ck].flow _ (fun b o h=>hg4 b o (hg3 b o (hgm b o (hGi b o h)))) hcb vg sW.now (Hp.owns (Li:=[_,_,_]) H.hp) hcf Dr (by omega) sW.part) rfl ?_;clear H;intro v67 ZL Z9 a w afz agr H;have agA:=sW.jump afz;refine kH H (Kn fZ (SC (Rd rfl (Rm rfl ?_))));clear H fZ;intro a H;refine aI ?_;refine cK ((ck+1,j4+(dB y.cells[ck].id 0 y.cells[ck].flow).length,Z9,ZL)) (by exact (H.dV (Pl:=[_,_,_]) (dz:=[_,_]) [1,2] (by decide) rfl).sub ⟨rfl,rfl,rfl,rfl,rfl,rfl,rfl,rfl,rfl,rfl,rfl,rfl,rfl,rfl,aD⟩) ?_ ?_
      ·(try dsimp only);exact ⟨by omega,fun b o h=>agr b o (hg4 b o h),agA⟩
      first|omega|(dsimp only;omega)
     intro iE a H
     try have p59:=dF iE
     refine dQ ?_;refine bS _ _ ?_;clear bS;refine kP H (SC (Rd rfl (Rm rfl ?_)));clear H;intro a H;refine aI ?_;refine cK ((rk+1,j4,Lt4,g4)) (by exact (H.dV (Pl:=[_,_]) (dz:=[_]) [1] (by decide) rfl).sub ⟨rfl,rfl,rfl,rfl,rfl,rfl,rfl,rfl,rfl,rfl,rfl,aD⟩) ?_ ?_
     ·(try dsimp only);exact ⟨by omega,fun b o h=>hg4 b o (hg3 b o h),by rw [iq (by omega),pF,jX] at sW;exact sW⟩
     first|omega|(dsimp only;omega)
    intro mZ a H
    try have p52:=dF mZ
    refine dQ ?_;refine ⟨(j3,Lt3,g3),by exact (H).sub ⟨rfl,rfl,rfl,rfl,rfl,rfl,rfl,rfl,aD⟩,?_⟩;(try dsimp only);exact ⟨hg3,by rw [iq (by omega),mM,jX] at rT;exact rT⟩
   intro h46 a H
   try have p46:=dF h46
   rw [ah p46,jX] at eH;refine fT ?_;refine ⟨(j,Lt,g1),by exact (H).sub ⟨rfl,rfl,rfl,rfl,rfl,rfl,rfl,rfl,aD⟩,?_⟩;(try dsimp only);exact ⟨fun _ _ h=>h,eH⟩
  clear H;intro gh a w hI H;obtain ⟨j2,Lt2,g2⟩:=gh;dsimp only at hI H;obtain ⟨hg2,agz⟩:=hI;dsimp only [lca,bD] at H;refine kP H (SR fun _ gq=>Rm rfl (Rm rfl (Rm rfl (Rd rfl ?_))));clear H;intro a H;refine ajM fU dx k (k+1) H wn rfl rfl rfl rfl (by omega) (by omega) (by omega) rfl ?_;clear H;intro a H;rw [ah hc3,Option.map_some,add_lit,Mr] at H;refine s_call M9 H wn rfl (Pz _ _ H.ro [x] _ (by have h:=hpart;rw [ah hc3,Option.map_some,add_lit,Mr,he1] at h;exact h.mono hg2) (by show 1+dw x.dat+0≤_;omega)) rfl ?_;clear H;rintro v76 ZN a w ⟨rfl,rfl⟩ - H;rw [ahR] at H;refine kH H (Rm rfl ?_);clear H;intro a H;(iterate 2 refine jN H wn rfl rfl rfl ?_;clear H;intro a H);refine kH H (Ra rfl (ak gq rfl (SC (Rm rfl (Rm rfl (Rd rfl (aV K5 rfl (SC (Rd rfl (Rm rfl ?_))))))))));clear H gq K5;intro a H;refine aI ?_;refine cK ((k+1,t+n1 x,j2,Lt2,g2)) (by exact (H.dV (Pl:=[_]) (dz:=[]) [] (by decide) rfl).sub ⟨rfl,rfl,rfl,rfl,rfl,rfl,rfl,aD⟩) ?_ ?_
  ·(try dsimp only);exact ⟨by omega,fun b o h=>hg2 b o (hgm b o h),hok2,by omega,agz⟩
  first|omega|(dsimp only;omega)
 intro h18 a H
 try have rV:=dF h18
 refine dQ ?_;refine (leave0 H results34 ?_).2;exact H.hp.gT (L':=Lt) (by repeat (first|exact iN _|apply List.Sublist.cons)) (by rw [iq (by omega),dB] at eH;have:=eH.len;simp only [List.length_nil,tN] at this;rw [← this];exact eH.now)
theorem SA:∀ n:Nat,n≤4294967297→LU n
 | 0,_=>fun _ _ _ _ _ _ _ _ _ _ _ _ _ _ _ _ _ _ h=>absurd h (by omega)
 | n+1,hn=>aax (SA n (by omega)) (by omega)
end
section
open Go.RowKit
theorem wY {G:GH} {b:Nat} {cs:List aj} {e:TypeId} {q:Nat × Nat} (h:G b=some (.cells cs.toArray e q)) (k:Nat) (ds:List aj) (hd:ds=(cs.drop k).take ds.length) (j:Nat) (v:aj) (hj:ds[j]?=some v):aL G b (k+j)=some v:=by
 unfold aL
 rw [h]
 show cs.toArray[k+j]?=some v
 rw [hd,tL] at hj
 split at hj
 ·simpa using hj
 cases hj
end
section
open Go.RowKit
theorem mX:prog.underlying 41=some (.slice 47):=by kernel_rfl
theorem jP:Ty prog 47 5 48 [.int .i64 0,.int .i64 0,.string ⟨#[]⟩,.int .i64 0,.int .i64 0] true:=⟨by kernel_rfl,by kernel_rfl⟩
theorem LC:Ty prog 41 1 24 [.slice none 0 0] false:=⟨by kernel_rfl,by kernel_rfl⟩
theorem LG:prog.underlying 129=some (.map 134 47):=by kernel_rfl
theorem GU:bY prog 47 0 0:=⟨by kernel_rfl⟩
theorem Bp:bY prog 47 1 1:=⟨by kernel_rfl⟩
theorem Qu:qm prog 134 [(0,1),(1,1)] [.int .i64 0,.int .i64 0]:=⟨by kernel_rfl,by kernel_rfl⟩
theorem Ls:Ty prog 134 2 16 [.int .i64 0,.int .i64 0] true:=⟨by kernel_rfl,by kernel_rfl⟩
theorem adp:∀ args w,(callFunc 35 args).run prog w=.ok (.enter 35 args) w:=enters func35 rfl (by kernel_rfl)
def qK (l:List bX):List aj:=(l.map bX.cells).flatten
theorem aan {l:List bX} {k:Nat} (hk:k < l.length):qK (l.take (k+1))=qK (l.take k)++l[k].cells:=by
 unfold qK
 rw [jF hk,lG,List.flatten_append]
 simp
theorem Mt (G:GH):∀ l:List bX,fD G 5 (l.map bX.dat) (qK l)
 | []=>fD.nil
 | x :: l=>by
  have h1:fD G 5 [x.dat] x.cells:=by
   have:=(fD.nil (G:=G) (sz:=5)).snoc (q:=x.dat) (cs:=x.cells) (aap G x) rfl
   simpa using this
  rw [eT,← List.singleton_append];exact h1.append (Mt G l)
def R7 (bo:Nat) (A:List bX):Nat→GH→OL→Prop:=fun k _ L=>k≤A.length∧∃ v Lo,L=(bo,.cells #[v] 41 (0,0)) :: Lo∧dJ 47 5 v k (qK (A.take k)) Lo
theorem ahY (Gi:GH) (bo:Nat) (A:List bX) (hA:A.length≤4294967296):QX prog (.func (.func 35) #[] #[(aJ bo 0)]) Gi (A.map CP) (R7 bo A):=by
 rintro k args G L w0 ⟨p,hp,hargs⟩ hGi ⟨-,v,Lo,rfl,hrw⟩ hO;rw [qp] at hp;obtain ⟨x,hx,rfl⟩:=lu.1 hp;obtain ⟨hk,hxe⟩:=ji.1 hx;have ha:args=[x.val]:=hargs;subst ha;obtain ⟨vA,vc,rfl,-,-⟩:=hrw.shape;have hml:maxLen=9223372036854775807:=rfl;refine mo (caps:=[(aJ bo 0)]) adp ?_;refine kg (N:=7) (T:=[(0,_),(1,_)]) func35 rfl ntmps35 rfl rfl hO ?_;intro a H;refine dH (fun _ K1=>?_);refine fq (cs:=[_,_,_,_,_]) H wn rfl rfl rfl ?_;clear H;intro b2 a w hb2 H;refine K1 _ _ ?_;clear K1;refine kP H (SC (Ro LC 1 rfl ?_));clear H;intro a H;refine bK jP (cs:=[_,_,_,_,_]) H wn rfl rfl (H.hp.eF 0 rfl rfl) rfl ?_;clear H;intro a H;refine gU mX jP [_,_,_,_,_] [_,_,_,_,_] H wn rfl rfl rfl rfl rfl (by intro i q h;match i,h with|0,h=>exact h|n+1,h=>simp at h) rfl rfl ?_;clear H;intro b5 a w hb5 H;refine oN (Li:=[_,_,_]) (Lo:=Lo) (news:=x.cells) mX jP rfl rfl H wn rfl rfl hrw rfl (H.hp.eF 0 rfl rfl) rfl (by omega) (by omega) rfl ?_;clear H;intro v6 R5 a w VU H;obtain ⟨IC,IE,rfl,-,-⟩:=VU.shape;refine bM LC 2 (vs:=[_]) _ H wn rfl rfl rfl rfl rfl rfl rfl rfl ?_;clear H;intro w H;dsimp only [List.set,setRow] at H;refine aI ?_;refine (leave0 H results35 ?_).2;exact H.hp.gT (L':=(bo,.cells #[.slice IC (k+1) IE] 41 (0,0)) :: R5) (by repeat (first|exact iN _|apply List.Sublist.cons)) ⟨hk,_,R5,rfl,by rw [aan hk,hxe];exact VU⟩
theorem ahZ (G:GH) (w0:World) (hG:Hold G w0) (D:nE) (l:List ay) (hv:av G (.sl 11 (l.map ay.dat)) (fI D.f)) (hok:dX l) (hz:bq l≤4294967296) :
  Calls prog 11 #[D.val] w0 (bF w0 G fun u G'=>av G' (.sl 5 ((dB 0 0 l).map bX.dat)) u):=by
 have hn:=yE 0 0 l;refine eN [(0,_)] func11 rfl ntmps11 rfl rfl hG ?_;intro a H;refine dH (fun _ K1=>?_);refine fq (cs:=[_,_,_,_,_,_,_,_,_,_,_]) H wn rfl rfl rfl ?_;clear H;intro b1 a w hb1 H;refine kH H (ak K1 rfl (SQ fun _ K2=>?_));clear H K1;intro a H;obtain ⟨Ga,hma,hb',H⟩:=H.dS;have hga:=fun j v hj=>wY hb' 0 D.cells rfl j v hj;replace hv:=hv.mono hma;refine nY ?_;refine eZ LC H wn rfl ?_;clear H;intro b3 a w hb3 H;refine kH H (Kn K2 (SR fun _ K3=>Rf Bo rfl (Rg gW rfl (hga 0 _ rfl) ?_)));clear H K2;intro a H;refine qd H wn rfl rfl ?_;clear H;intro a H;refine gV Nc (Li:=[]) (L:=[(b3,.cells #[.slice none 0 0] 41 (0,0))]) H wn rfl (SA 4294967297 (by omega) _ Ga ((dB 0 0 l).map CP) (R7 b3 (dB 0 0 l)) _ _ _ 0 0 l _ (fun _ _ h=>h) (ahY Ga b3 (dB 0 0 l) (by omega)) (fun _ _ _ _ _ h=>h) ⟨ig _,_,[],rfl,dJ.nil⟩ (Hp.owns (Li:=[]) H.hp) hv hok (by omega) (fun i a h=>by rw [kT,qp,h];rfl)) rfl ?_;clear H;rintro v7 G7 L7 a w ⟨-,v,Lo,rfl,hrw⟩ Ao H;rw [kT,uP] at hrw;dsimp only [List.nil_append] at H;refine K3 _ _ ?_;clear K3;refine kP H (SR fun _ K4=>Ro LC 0 rfl (ak K4 rfl ?_));clear H K4;intro a H;refine lr H results11 rfl ?_;obtain ⟨Gr,hmr,hrep,H⟩:=St.uh (Li:=[_]) H hrw (rows:=(dB 0 0 l).map bX.dat) (by simp) (Mt _ _);exact H.rt hrep
theorem JE:zG prog 134 [0,1]:=⟨by kernel_rfl,by kernel_rfl,by kernel_rfl,by kernel_rfl,by kernel_rfl⟩
def Bc:bX:=⟨0,0,⟨#[]⟩,0,0⟩
theorem PG {acc:List ((Int × Int) × aj)} {l:List bX} (h:uL acc l) (p:Int × Int):(mV p acc).getD Bc.val=((mQ l p.1 p.2).getD Bc).val:=by
 rw [h p];cases mQ l p.1 p.2 <;> rfl
theorem Gg {G:GH} {A:List bX} {v:Option Addr} {n c k:Nat} (h:av G (.sl 5 (A.map bX.dat)) (.slice v n c)) (hk:k < A.length):∃ b o,v=some ⟨b,o,none⟩∧∀ j u,A[k].cells[j]?=some u→aL G b (o+k*5+j)=some u:=by
 obtain ⟨b,o,cs,rfl,hcl,hrow,hr⟩:=h.at_ k A[k].dat (by simp [hk]);obtain rfl:=Sq hr;exact ⟨b,o,rfl,hrow⟩
set_option maxHeartbeats 1000000 in
theorem aeP (G:GH) (w0:World) (hG:Hold G w0) (A:List bX) (v:aj) (hv:av G (.sl 5 (A.map bX.dat)) v) (hl:A.length≤4294967296) :
  Calls prog 51 #[v] w0 (bF w0 G fun u G'=>∃ b acc,u=.map (some b)∧G' b=some (BP acc)∧uL acc A):=by
 obtain ⟨vA,n,c,rfl⟩:=hv.form;have hn:=hv.len;rw [bU] at hn;subst hn;have hml:maxLen=9223372036854775807:=rfl;refine eN [(0,_)] func51 rfl ntmps51 rfl rfl hG ?_;intro a H;refine kP H (SR fun _ K1=>ak K1 rfl (SR fun _ K2=>?_));clear H K1;intro a H;refine D8 H wn rfl ?_;clear H;intro b9 a w yS H;refine kH H (ak K2 rfl (SQ fun _ K3=>SR fun _ K4=>Rm rfl (Rl mX rfl (Rm rfl (Kz K4 (SB ?_))))));clear H K2 K4;intro a H;skip;refine eU (ι:=Nat × List ((Int × Int) × aj)) (Tc:=[(3,_),(10,_),(11,_)]) (Lc:=[]) (fun (gh:Nat × List ((Int × Int) × aj))=>[(12,vi gh.1)]) (fun (gh:Nat × List ((Int × Int) × aj))=>[(b9,BP gh.2)]) (fun (gh:Nat × List ((Int × Int) × aj))=>G) (fun (gh:Nat × List ((Int × Int) × aj))=>gh.1≤A.length∧uL gh.2 (A.take gh.1)) (fun (gh:Nat × List ((Int × Int) × aj))=>A.length - gh.1) ((0,[])) (by exact (H).sub ⟨rfl,rfl,rfl,rfl,aD⟩) ?_ ?_
 ·exact ⟨ig _,uL.nil⟩
 clear H;intro gh a w hI H;obtain ⟨k,acc⟩:=gh;dsimp only at hI H;obtain ⟨hk,hfm⟩:=hI;dsimp only [lca,bD] at H;refine kP H (SR fun _ K5=>Rc rfl (Kz K5 (SQ fun _ K6=>Cd rfl ?_ ?_))) <;> clear H K5
 ·intro gu a H
  try have qF:=dT gu
  have hk2:k < A.length:=by omega
  obtain ⟨b,o,rfl,hrow⟩:=Gg hv hk2;refine kP H (Kc K6 (SQ fun _ K7=>SB (SR fun _ K8=>Ri mX jP rfl rfl ?_)));clear H K6;intro a H;refine bK jP (cs:=A[k].cells) H wn rfl rfl (fun j v hj=>H.hp.aL (hrow j v hj)) rfl ?_;clear H;intro a H;refine eZ jP H wn rfl ?_;clear H;intro b5 a w hb5 H;refine bM jP 0 (vs:=[_,_,_,_,_]) _ H wn rfl rfl rfl rfl rfl rfl rfl rfl ?_;clear H;intro w H;dsimp only [List.set,setRow] at H;refine K8 _ _ ?_;clear K8;refine kP H (SR fun _ K9=>aW GU aH 0 rfl rfl (aW Bp aH 0 rfl rfl ?_));clear H;intro a H;refine ku Qu [_,_] H wn rfl rfl rfl rfl ?_;clear H;intro a H;refine eZ Ls H wn rfl ?_;clear H;intro b6 a w hb6 H;refine bM Ls 0 (vs:=[_,_]) _ H wn rfl rfl rfl rfl rfl rfl rfl rfl ?_;clear H;intro w H;dsimp only [List.set,setRow] at H;refine K9 _ _ ?_;clear K9;refine kP H (SR fun _ aT=>Rm rfl ?_);clear H;intro a H;refine bK Ls (cs:=[_,_]) H wn rfl rfl (H.hp.eF 0 rfl rfl) rfl ?_;clear H;intro a H;refine XR (ky:=(A[k].code,A[k].id)) (zv:=Bc.val) (l:=acc) LG JE (by kernel_rfl) H wn rfl rfl (H.hp.own (b9,BP acc) (by simp)) rfl ?_;clear H;intro a H;rw [PG hfm] at H;refine kH H (Rm rfl ?_);clear H;intro a H;(iterate 2 refine jN H wn rfl rfl rfl ?_;clear H;intro a H);refine eZ jP H wn rfl ?_;clear H;intro b7 a w Dn H;refine bM jP 0 (vs:=[_,_,_,_,_]) _ H wn rfl rfl rfl rfl rfl rfl rfl rfl ?_;clear H;intro w H;dsimp only [List.set,setRow] at H;refine kH H (ak aT rfl (SR fun _ bC=>Rm rfl (Rn rfl (Kz bC (Cd rfl ?_ ?_))))) <;> clear H aT bC
  ·intro fE a H
   try have p28:=dT fE
   have hnone:mV (A[k].code,A[k].id) acc=none:=by simpa using fE
   refine kP H (SC (Rm rfl ?_));clear H;intro a H;refine bK Ls (cs:=[_,_]) H wn rfl rfl (H.hp.eF 1 rfl rfl) rfl ?_;clear H;intro a H;refine bK jP (cs:=[_,_,_,_,_]) H wn rfl rfl (H.hp.eF 2 rfl rfl) rfl ?_;clear H;intro a H;refine ajJ (i:=3) (l:=acc) (ky:=(A[k].code,A[k].id)) (v:=A[k].val) LG JE H wn rfl rfl rfl rfl hnone ?_;clear H;intro w H;dsimp only [List.set] at H;refine kH H (Kn K7 (SC (Rd rfl (Rm rfl ?_))));clear H K7;intro a H;refine aI ?_;refine cK ((k+1,acc++[((A[k].code,A[k].id),A[k].val)])) (by exact (H.dV (Pl:=[_,_,_,_]) (dz:=[_]) [3] (by decide) rfl).sub ⟨rfl,rfl,rfl,rfl,aD⟩) ?_ ?_
   ·(try dsimp only);exact ⟨by omega,hfm.new hk2 hnone⟩
   first|omega|(dsimp only;omega)
  intro fE a H
  try have p28:=dF fE
  refine kP H (Kc K7 (SC (Rd rfl (Rm rfl ?_))));clear H K7;intro a H;refine aI ?_;refine cK ((k+1,acc)) (by exact (H.dV (Pl:=[_,_,_,_]) (dz:=[_]) [3] (by decide) rfl).sub ⟨rfl,rfl,rfl,rfl,aD⟩) ?_ ?_
  ·(try dsimp only);exact ⟨by omega,hfm.old hk2 (by simpa using fE)⟩
  first|omega|(dsimp only;omega)
 intro gu a H
 try have qF:=dF gu
 obtain rfl:k=A.length:=by omega
 rw [uP] at hfm;refine dQ ?_;refine K3 _ _ ?_;clear K3;refine kP H (SR fun _ bJ=>Rm rfl (ak bJ rfl ?_));clear H bJ;intro a H;refine lr H results51 rfl ?_;obtain ⟨Gr,hmr,hbr,H⟩:=H.dS;exact H.rt ⟨_,acc,rfl,hbr,hfm⟩
end
section
open Go.RowKit
def jG (xs:Array aj) (o:Nat × Nat):Option (Int × Int × List UInt8):=match o.2 with
 | 0=>(jR xs o.1).map fun n=>(n,0,[])
 | 1=>match xs[o.1]? with|some (.string s)=>some (0,0,s.toList)|_=>none
 | _=>match jR xs o.1,jR xs (o.1+1) with|some a,some b=>some (a,b,[])|_,_=>none
def Xn (P:Program) (t:TypeId):Bool:=!P.stoodInHeld t && decide ((P.fieldsOf t).toList.map (·.offset)=[0,1]) && ((P.fieldsOf t).toList.all fun f=>decide (f.name ≠ "_") && P.plainKey f.type && Ib (P.underlying f.type)) && decide (P.cellsOf t=2) && (P.info? t).isSome
def xQ (P:Program) (t:TypeId):Nat:=match P.underlying t with|some (.int .i64)=>0|some .string=>1|some (.struct _)=>2|_=>3
def PX (P:Program) (t:TypeId):Bool:=match xQ P t with|0=>P.plainKey t|1=>P.plainKey t|2=>Xn P t|_=>false
structure IZ (P:Program) (t:TypeId) (gJ:List (Nat × Nat)):Prop where
 und:P.underlying t=some (.struct (P.fieldsOf t))
 held:P.stoodInHeld t=false
 guard:P.eqGuardType P.depth t=false
 ug:(P.fieldsOf t).toList.map (fun f=>(f.offset,xQ P f.type))=gJ
 ok:(P.fieldsOf t).toList.all (fun f=>decide (f.name ≠ "_") && PX P f.type)=true
theorem akL {P:Program} {t:TypeId} {fs:Array Field} (h:P.underlying t=some (.struct fs)):P.underlying t=some (.struct (P.fieldsOf t)):=by
 rw [h]
 simp [Program.fieldsOf,h]
theorem XL {P:Program} (w:World) {t:TypeId} {fs:Array Field} (hu:P.underlying t=some (.struct fs)) {i:TypeInfo} (hi:P.info? t=some i) (hc:P.cellsOf t=2) (xs:Array aj) (off:Nat):(part t xs off).run P w=.ok (.agg (xs.extract off (off+2))) w:=by
 unfold part
 simp [isAgg,cO,run_underlying hu,run_sizeOf w hi,hc]
theorem JO {xs:Array aj} {o:Nat} {n:Int} (h:jR xs o=some n):xs[o]?=some (.int .i64 n):=by
 unfold jR at h
 split at h
 ·rename_i hx;cases h;exact hx
 ·cases h
theorem U2 {xs:Array aj} {off:Nat} {a b:Int} (h1:jR xs off=some a) (h2:jR xs (off+1)=some b):jR (xs.extract off (off+2)) 0=some a∧jR (xs.extract off (off+2)) 1=some b:=by
 have e1:=JO h1
 have e2:=JO h2
 have hl:off+1 < xs.size:=(Array.getElem?_eq_some_iff.1 e2).1
 constructor
 ·unfold jR
  rw [Array.getElem?_extract,au (by omega),tN,e1]
 ·unfold jR
  rw [Array.getElem?_extract,au (by omega),e2]
theorem Qg {P:Program} {w:World} {d:Nat} {xs ys:Array aj}:∀ fs:List Field,fs.all (fun f=>decide (f.name ≠ "_") && PX P f.type)=true →
  (fs.map (fun f=>(f.offset,xQ P f.type))).all (fun o=>(jG xs o).isSome && (jG ys o).isSome)=true→(Op.eqFields (d+2) xs ys fs).run P w=.ok ((fs.map (fun f=>(f.offset,xQ P f.type))).all fun o=>jG xs o == jG ys o) w
 | [],_,_=>by simp [Op.eqFields]
 | f :: fs,h1,h2=>by
  simp only [List.all_cons,lD,pG,eT] at h1 h2
  obtain ⟨⟨hn,hk⟩,h1⟩:=h1
  obtain ⟨⟨hx,hy⟩,h2⟩:=h2
  have ih:=Qg (w:=w) (d:=d) fs (by simpa using h1) h2
  have fin:∀ (x y:aj) (r:Bool),(part f.type xs f.offset).run P w=.ok x w→(part f.type ys f.offset).run P w=.ok y w→(Op.equalIn (d+2) f.type x y).run P w=.ok r w→(jG xs (f.offset,xQ P f.type) == jG ys (f.offset,xQ P f.type))=r →
    (Op.eqFields (d+2) xs ys (f :: fs)).run P w=.ok (((f :: fs).map (fun f=>(f.offset,xQ P f.type))).all fun o=>jG xs o == jG ys o) w:=by
   intro x y r p1 p2 p3 p4
   simp only [Op.eqFields,hn,ne_eq,not_false_eq_true,if_true,cO,p1,p2,jW,p3,eT,List.all_cons,p4]
   cases r with
   | true=>simp [ih,List.all_map]
   | false=>simp
  unfold PX at hk
  rcases hkd:xQ P f.type with _|_|_|n
  ·rw [hkd] at hk hx hy
   have hu:P.underlying f.type=some (.int .i64):=by unfold xQ at hkd;split at hkd <;> first|assumption|cases hkd
   obtain ⟨m,hm⟩:∃ m,jR xs f.offset=some m:=by cases h:jR xs f.offset with|some m=>exact ⟨m,rfl⟩|none=>simp [jG,h] at hx
   obtain ⟨m2,hm2⟩:∃ m,jR ys f.offset=some m:=by cases h:jR ys f.offset with|some m=>exact ⟨m,rfl⟩|none=>simp [jG,h] at hy
   refine fin _ _ _ (run_part_plain w hk (JO hm)) (run_part_plain w hk (JO hm2)) (run_equalIn_int w (d+1) f.type .i64 .i64 m m2 hu) ?_
   rw [hkd,nX]
   simp [jG,hm,hm2]
  ·rw [hkd] at hk hx hy
   have hu:P.underlying f.type=some .string:=by unfold xQ at hkd;split at hkd <;> first|assumption|cases hkd
   obtain ⟨m,hm⟩:∃ m,xs[f.offset]?=some (.string m):=by
    simp only [jG] at hx
    split at hx
    ·rename_i s hs;exact ⟨s,hs⟩
    ·cases hx
   obtain ⟨m2,hm2⟩:∃ m,ys[f.offset]?=some (.string m):=by
    simp only [jG] at hy
    split at hy
    ·rename_i s hs;exact ⟨s,hs⟩
    ·cases hy
   refine fin _ _ _ (run_part_plain w hk hm) (run_part_plain w hk hm2) (run_equalIn_string w (d+1) f.type m m2 hu) ?_
   rw [hkd,nX]
   simp [jG,hm,hm2]
  ·rw [hkd] at hk hx hy
   obtain ⟨gs,hu⟩:∃ gs,P.underlying f.type=some (.struct gs):=by
    unfold xQ at hkd
    split at hkd
    ·cases hkd
    ·cases hkd
    ·rename_i gs hg;exact ⟨gs,hg⟩
    ·cases hkd
   simp only [Xn,lD,sN,pG] at hk
   obtain ⟨⟨⟨⟨k1,k2⟩,k3⟩,k4⟩,k5⟩:=hk
   obtain ⟨inf,Vn⟩:=Option.isSome_iff_exists.1 k5
   obtain ⟨a,b,ha,hb⟩:∃ a b,jR xs f.offset=some a∧jR xs (f.offset+1)=some b:=by
    simp only [jG] at hx
    split at hx
    ·rename_i a b h1 h2;exact ⟨a,b,h1,h2⟩
    ·cases hx
   obtain ⟨a',b',ha',hb'⟩:∃ a b,jR ys f.offset=some a∧jR ys (f.offset+1)=some b:=by
    simp only [jG] at hy
    split at hy
    ·rename_i a b h1 h2;exact ⟨a,b,h1,h2⟩
    ·cases hy
   obtain ⟨e1,e2⟩:=U2 ha hb
   obtain ⟨e3,e4⟩:=U2 ha' hb'
   have hq:=Qf (P:=P) (w:=w) (d:=d) (xs:=xs.extract f.offset (f.offset+2)) (ys:=ys.extract f.offset (f.offset+2)) _ (by simpa only [lC,lD,pG] using k3) (by rw [k2];simp [e1,e2,e3,e4])
   rw [k2] at hq
   refine fin _ _ _ (XL w hu Vn k4 xs f.offset) (XL w hu Vn k4 ys f.offset) ((run_equalIn_struct w (d+1) f.type _ _ (akL hu) k1).trans hq) ?_
   rw [hkd,nX]
   simp [jG,ha,hb,ha',hb',e1,e2,e3,e4]
  ·rw [hkd] at hk;cases hk
section
variable {N:Nat} {D:List Deferred} {w0:World} {F:Nat→Prop} {G0 G:GH} {L:List (Nat × Obj)} {T:List (Nat × aj)}
variable {r:Option Nat} {P:Program} {ops:Array Oper} {Q:Exit→Act→World→Prop} {rest:List Oper} {a:Act} {w:World}
variable {d:Nat} {ty:TypeId} {pos:String} {aP:Array Edge} {g:Option (Nat × Bool)}
theorem ajD {t yt:TypeId} {gJ:List (Nat × Nat)} (he:IZ P t gJ) {x y:Operand} {xs ys:Array aj} (H:St N D w0 F G0 G L T a w) (hw:Region.wanted ⟨some d,.binOp .eql t x y yt,ty,pos,aP,g⟩ (yielded ops a.tmps)=true) (hx:ev T x=some (.agg xs)) (hy:ev T y=some (.agg ys))
  (hi:gJ.all (fun o=>(jG xs o).isSome && (jG ys o).isSome)=true) (hd:Nat.blt d N=true)
  (k:∀ a',St N D w0 F G0 G L ((d,.bool (gJ.all fun o=>jG xs o == jG ys o)) :: T) a' w→WL r P ops Q rest a' w):WL r P ops Q (⟨some d,.binOp .eql t x y yt,ty,pos,aP,g⟩ :: rest) a w:=by
 have h1:=Qg (P:=P) (w:=w) (d:=9997) (xs:=xs) (ys:=ys) _ he.ok (by rw [he.ug];exact hi)
 rw [he.ug] at h1
 refine fO (v:=.bool (gJ.all fun o=>jG xs o == jG ys o)) (w':=w) hw rfl ?_ (k _ (H.put hd _ H.hp))
 simp only [execOp,H.ev hx,H.ev hy,cO,run_eqGuard_agg w .eql t x y xs ys he.guard,jW,run_eql_struct,run_equalIn_struct w 9999 t xs ys he.und he.held,h1]
 rfl
theorem ajH {t yt:TypeId} {gJ:List (Nat × Nat)} (he:IZ P t gJ) {x y:Operand} {xs ys:Array aj} (H:St N D w0 F G0 G L T a w) (hw:Region.wanted ⟨some d,.binOp .neq t x y yt,ty,pos,aP,g⟩ (yielded ops a.tmps)=true) (hx:ev T x=some (.agg xs)) (hy:ev T y=some (.agg ys))
  (hi:gJ.all (fun o=>(jG xs o).isSome && (jG ys o).isSome)=true) (hd:Nat.blt d N=true)
  (k:∀ a',St N D w0 F G0 G L ((d,.bool (!(gJ.all fun o=>jG xs o == jG ys o))) :: T) a' w→WL r P ops Q rest a' w):WL r P ops Q (⟨some d,.binOp .neq t x y yt,ty,pos,aP,g⟩ :: rest) a w:=by
 have h1:=Qg (P:=P) (w:=w) (d:=9997) (xs:=xs) (ys:=ys) _ he.ok (by rw [he.ug];exact hi)
 rw [he.ug] at h1
 refine fO (v:=.bool (!(gJ.all fun o=>jG xs o == jG ys o))) (w':=w) hw rfl ?_ (k _ (H.put hd _ H.hp))
 simp only [execOp,H.ev hx,H.ev hy,cO,run_eqGuard_agg w .neq t x y xs ys he.guard,jW,run_neq_struct,run_equalIn_struct w 9999 t xs ys he.und he.held,h1]
 rfl
end
end
section
open Go.RowKit
theorem nQ:prog.underlying 49=some (.slice 55):=by kernel_rfl
theorem jr:Ty prog 55 6 56 [.int .i64 0,.string ⟨#[]⟩,.int .i64 0,.int .i64 0,.int .i64 0,.int .i64 0] true:=⟨by kernel_rfl,by kernel_rfl⟩
theorem acz:∀ args w,(callFunc 11 args).run prog w=.ok (.enter 11 args) w:=enters func11 rfl (by kernel_rfl)
theorem adw:∀ args w,(callFunc 51 args).run prog w=.ok (.enter 51 args) w:=enters func51 rfl (by kernel_rfl)
theorem UD:bY prog 47 2 2:=⟨by kernel_rfl⟩
theorem wu:bY prog 47 3 3:=⟨by kernel_rfl⟩
theorem wK:Ty prog 45 2 16 [.int .i64 0,.int .i64 0] true:=⟨by kernel_rfl,by kernel_rfl⟩
theorem Ld:qm prog 55 [(0,1),(1,1),(2,2),(4,2)] [.int .i64 0,.string ⟨#[]⟩,.int .i64 0,.int .i64 0,.int .i64 0,.int .i64 0]:=⟨by kernel_rfl,by kernel_rfl⟩
theorem pQ:bY prog 55 2 2:=⟨by kernel_rfl⟩
theorem jK:bY prog 45 1 1:=⟨by kernel_rfl⟩
theorem Aa:bY prog 55 3 4:=⟨by kernel_rfl⟩
theorem pO:bY prog 45 0 0:=⟨by kernel_rfl⟩
mutual
theorem aah (g:Int) (t:Nat):∀ (x:ay) (a:bX),a∈zN g t x→0≤a.at_∧a.at_≤(t+dw x.dat:Nat)
 | .mk k c i tx h fl r,a,ha=>by
  have h4:=nU (.mk k c i tx h fl r);dsimp only [ay.text,ay.head,ay.flow,ay.rows] at h4;rw [zN] at ha
  rcases kR.1 ha with ha|ha
  ·split at ha
   ·rw [sM.1 ha];dsimp only;omega
   cases ha
  rcases kR.1 ha with ha|ha
  ·split at ha
   ·have:=Ew i 0 fl a ha;omega
   cases ha
  split at ha
  ·have:=Sk r a ha;omega
  cases ha
theorem Ew (g:Int):∀ (t:Nat) (l:List ay) (a:bX),a∈dB g t l→0≤a.at_∧a.at_≤(t+bq l:Nat)
 | _,[],a,ha=>by rw [dB] at ha;cases ha
 | t,x :: l,a,ha=>by
  have h1:=PO x;rw [dB] at ha
  have hz:dw x.dat+bq l≤bq (x :: l):=by simp only [bq,eT,eX];omega
  rcases kR.1 ha with ha|ha
  ·have:=aah g t x a ha;omega
  have:=Ew g (t+n1 x) l a ha;omega
theorem Sk:∀ (l:List bP) (a:bX),a∈mM l→0≤a.at_∧a.at_≤(gZ l:Nat)
 | [],a,ha=>by rw [mM] at ha;cases ha
 | x :: l,a,ha=>by
  rw [mM] at ha
  have hz:dw x.dat+gZ l≤gZ (x :: l):=by simp only [gZ,eT,eX];omega
  rcases kR.1 ha with ha|ha
  ·have:=aai x a ha;omega
  have:=Sk l a ha;omega
theorem aai:∀ (x:bP) (a:bX),a∈zO x→0≤a.at_∧a.at_≤(dw x.dat:Nat)
 | .mk h cs,a,ha=>by
  have h4:=Bf (.mk h cs);dsimp only [bP.head,bP.cells] at h4;rw [zO] at ha;have:=Sj cs a ha
  omega
theorem Sj:∀ (l:List bO) (a:bX),a∈pF l→0≤a.at_∧a.at_≤(jA l:Nat)
 | [],a,ha=>by rw [pF] at ha;cases ha
 | x :: l,a,ha=>by
  rw [pF] at ha
  have hz:dw x.dat+jA l≤jA (x :: l):=by simp only [jA,eT,eX];omega
  rcases kR.1 ha with ha|ha
  ·have:=aag x a ha;omega
  have:=Sj l a ha;omega
theorem aag:∀ (x:bO) (a:bX),a∈zM x→0≤a.at_∧a.at_≤(dw x.dat:Nat)
 | .mk i h fl,a,ha=>by
  have h4:=Bd (.mk i h fl);dsimp only [bO.head,bO.flow] at h4;rw [zM] at ha;have:=Ew i 0 fl a ha
  omega
end
theorem adV:IZ prog 47 [(0,0),(1,0),(2,1),(3,2)]:=⟨by kernel_rfl,by kernel_rfl,by kernel_rfl,by kernel_rfl,by kernel_rfl⟩
theorem SL {a b:ByteArray} (h:a.toList=b.toList):a=b:=by
 rw [ByteArray.toList_eq,ByteArray.toList_eq] at h
 cases a;cases b
 simpa using h
theorem aaq (x y:bX):([(0,0),(1,0),(2,1),(3,2)].all fun o=>jG (#[vi x.code,vi x.id,.string x.name,vi x.flow,vi x.at_]:Array aj) o == jG (#[vi y.code,vi y.id,.string y.name,vi y.flow,vi y.at_]:Array aj) o)=decide (x=y):=by
 rw [nX,decide_eq_true_iff,← bX.eq_iff]
 simp [jG,jR]
 intro _ _ _ _;exact ⟨SL,fun h=>by rw [h]⟩
theorem aar {acc:List ((Int × Int) × aj)} {A:List bX} {c:Int} {x:bX} (_h:uL acc A) (hc:¬ ¬ x.code=c) (hm:x∈A):(!decide ((mQ A c x.id).getD Bc=x))=!oM A c x:=by
 have hc:=jJ.1 hc
 have hs:(mQ A c x.id).isSome=true:=by
  unfold mQ
  rw [List.find?_isSome];exact ⟨x,hm,by simp [hc]⟩
 obtain ⟨y,hy⟩:=Option.isSome_iff_exists.1 hs
 unfold oM
 rw [hy]
 simp [hc]
theorem EJ {A:List bX} {c:Int} {x:bX} (h:match mQ A (c+1) x.id with|some e=>¬ (e.flow=x.flow∧x.at_ < e.at_)|none=>True):zW A c x=(x.flow,x.at_+1):=by
 unfold zW
 cases hf:mQ A (c+1) x.id with
 | none=>rfl
 | some e=>rw [hf] at h;dsimp only;rw [ah h]
theorem Ui {A:List bX} {c:Int} {x e:bX} (h:mQ A (c+1) x.id=some e∧e.flow=x.flow∧x.at_ < e.at_):zW A c x=(e.flow,e.at_):=by
 unfold zW
 rw [h.1];dsimp only;rw [au h.2]
def D9 (l:List fP):List aj:=(l.map fP.cells).flatten
theorem Ye (l:List fP) (x:fP):D9 (l++[x])=D9 l++x.cells:=by
 unfold D9
 rw [lG,List.flatten_append]
 simp
theorem Qt (G:GH):∀ l:List fP,fD G 6 (l.map fP.dat) (D9 l)
 | []=>fD.nil
 | x :: l=>by
  have h1:fD G 6 [x.dat] x.cells:=by
   have:=(fD.nil (G:=G) (sz:=6)).snoc (q:=x.dat) (cs:=x.cells) (Yi G x) rfl
   simpa using this
  rw [eT,← List.singleton_append];exact h1.append (Qt G l)
def ru (A:List bX) (c:Int) (k:Nat):List fP:=((A.take k).filter (oM A c)).map (xY A c)
theorem Lb {A:List bX} {c:Int} {k:Nat} (hk:k < A.length) (h:oM A c A[k]=false):ru A c (k+1)=ru A c k:=by
 unfold ru;rw [Yg hk,ah (by rw [h];decide),oF]
theorem Yf {A:List bX} {c:Int} {k:Nat} (hk:k < A.length) (h:oM A c A[k]=true):ru A c (k+1)=ru A c k++[xY A c A[k]]:=by
 unfold ru;rw [Yg hk,au h]
theorem Qs (A:List bX) (c:Int) (k:Nat) (hk:k≤A.length):(ru A c k).length≤k:=by
 unfold ru
 rw [bU];exact Nat.le_trans (List.length_filter_le ..) (by rw [List.length_take];omega)
theorem aaM {P:Program} {f:FuncId} {args:Array aj} {w0:World} {G:GH} {e sz n:Nat} {xs:List aj} {rows:List (List Dat)} (hG:Hold G w0) (h:Calls P f args w0 (gH w0 G [] fun u _ L'=>dJ e sz u n xs L')) (hl:rows.length=n) (hc:∀ G',fD G' sz rows xs) :
  Calls P f args w0 (bF w0 G fun u G'=>av G' (.sl sz rows) u):=by
 intro cs;obtain ⟨e1,w',fr,⟨v,G',L',rfl,hch,hrow⟩,h2,h3,h4⟩:=h cs;have hp0:Hp w0 (fun k=>k < w0.heap.size) G G ([]++[]) w0:=⟨rfl,rfl,rfl,bV _,fun _ h=>h,fun _ _=>rfl,hG,fun _ _ h=>h,fun _ _ h=>.inl h,fun _ h=>(by cases h),fun _ h=>(by cases h),fun _ h=>(by cases h),List.Pairwise.nil⟩;have hp1:=hp0.change hch;rw [jX] at hp1;refine ⟨_,w',fr,?_,h2,h3,h4⟩
 rcases hrow.2 with ⟨rfl,h5,rfl⟩|⟨b,cap,cur,rfl,rfl,h5,h6,h7,h8⟩
 ·refine hp1.ret ?_;have:rows=[]:=List.eq_nil_of_length_eq_zero (by omega);subst this
  simp only [av]
  exact ⟨none,0,by simp,by simp,by simp [maxLen],fun h=>absurd rfl h⟩
 exact (hp1.giveUp 0 rfl).ret (av.eO (GH.Jl G' b _) hl h5 h6 h8 (hc _))
set_option maxHeartbeats 4000000 in
theorem akn (G:GH) (w0:World) (hO:gX G [] w0) (D:nE) (l:List ay) (hv:av G (.sl 11 (l.map ay.dat)) (fI D.f)) (hok:dX l) (hz:bq l≤1073741824) (code:Int) (hc:0≤code∧code≤100) :
  Calls prog 37 #[D.val,vi code] w0 (gH w0 G [] fun u _ L'=>dJ 55 6 u (jq (dB 0 0 l) code).length (D9 (jq (dB 0 0 l) code)) L'):=by
 have hn:=yE 0 0 l;have Dl:=Ew 0 0 l;have hml:maxLen=9223372036854775807:=rfl;obtain ⟨A,hA⟩:∃ A,A=dB 0 0 l:=⟨_,rfl⟩;rw [← hA] at hn Dl ⊢;refine kg (N:=96) (T:=[(0,_),(1,_)]) func37 rfl ntmps37 rfl rfl hO ?_;intro a H;refine dH (fun _ K1=>?_);refine fq (cs:=[_,_,_,_,_,_,_,_,_,_,_]) H wn rfl rfl rfl ?_;clear H;intro b2 a w hb2 H;refine kH H (ak K1 rfl (SQ fun _ K2=>?_));clear H K1;intro a H;obtain ⟨Ga,hma,hb',H⟩:=H.dS;have hga:=fun j v hj=>wY hb' 0 D.cells rfl j v hj;replace hv:=hv.mono hma;refine nY ?_;refine bK rz (cs:=D.cells) H wn rfl rfl (fun j v hj=>H.hp.aL (hga j v hj)) rfl ?_;clear H;intro a H;refine s_call acz H wn rfl (ahZ _ _ H.ro D l hv hok (by omega)) rfl ?_;clear H;rintro v14 FX a w hr OH H;rw [← hA] at hr;obtain ⟨vA,n14,c14,rfl⟩:=hr.form;have Vz:=hr.len;rw [bU] at Vz;subst Vz;refine kH H (aV K2 rfl (SR fun _ K3=>Rm rfl ?_));clear H K2;intro a H;refine s_call adw H wn rfl (aeP _ _ H.ro A _ hr (by omega)) rfl ?_;clear H;rintro v16 oW a w ⟨bm,acc,rfl,J3,hfm⟩ kV H;replace hr:=hr.mono kV;refine kH H (ak K3 rfl (SR fun _ K4=>ak K4 rfl (SQ fun _ K5=>SR fun _ K6=>Rm rfl (Rl mX rfl (Rm rfl (Kz K6 (SB ?_)))))));clear H K3 K4 K6;intro a H;skip;refine eU (ι:=Nat × aj × OL × GH) (Tc:=[(1,_),(6,_),(17,_),(18,_)]) (Lc:=[]) (fun gh=>[(7,gh.2.1),(19,vi gh.1)]) (fun gh=>[]++gh.2.2.1) (fun gh=>gh.2.2.2) (fun gh=>gh.1≤A.length∧dJ 55 6 gh.2.1 (ru A code gh.1).length (D9 (ru A code gh.1)) gh.2.2.1∧(∀ b o,oW b=some o→gh.2.2.2 b=some o)) (fun gh=>A.length - gh.1) ((0,.slice none 0 0,[],oW)) (by exact (H).sub ⟨rfl,rfl,rfl,rfl,rfl,rfl,aD⟩) ?_ ?_
 ·exact ⟨ig _,dJ.nil,fun _ _ h=>h⟩
 clear H;intro gh a w hI H;obtain ⟨k,v7,Lo,g⟩:=gh;dsimp only at hI H;obtain ⟨hk,hrw,hgm⟩:=hI;have hsl:=Qs A code k hk;obtain ⟨v7A,v7c,rfl,-,-⟩:=hrw.shape;dsimp only [lca,bD] at H;refine kP H (SR fun _ K7=>Rc rfl (Kz K7 (SQ fun _ K8=>Cd rfl ?_ ?_))) <;> clear H K7
 ·intro h20 a H
  try have BR:=dT h20
  have hk2:k < A.length:=by omega
  obtain ⟨b,o,rfl,hrow⟩:=Gg (hr.mono hgm) hk2;obtain ⟨ha0,ha1⟩:=Dl A[k] (iM hk2);have hbg:=hgm _ _ J3;refine kP H (Kc K8 (SQ fun _ K9=>SB (SR fun _ aT=>Ri mX jP rfl rfl ?_)));clear H K8;intro a H;refine bK jP (cs:=A[k].cells) H wn rfl rfl (fun j v hj=>H.hp.aL (hrow j v hj)) rfl ?_;clear H;intro a H;refine eZ jP H wn rfl ?_;clear H;intro b9 a w yS H;refine bM jP 0 (vs:=[_,_,_,_,_]) _ H wn rfl rfl rfl rfl rfl rfl rfl rfl ?_;clear H;intro w H;dsimp only [List.set,setRow] at H;refine aT _ _ ?_;clear aT;refine bG (fun _ bC=>?_);refine bG (fun _ bJ=>?_)
  by_cases c0:¬ A[k].code=code
  ·skip;refine dI hmx [[],[0],[],[0,1,2],(ra 0 4),(ra 0 5),(ra 0 5),(ra 0 5),[0,1,2,3,4,7],[0,1,2,3,4,6,7,8],(ra 0 10),(ra 0 5),(ra 0 12),(ra 0 13)] [] (by kernel_rfl) [_,vi A[k].code,_,_,_,undef,undef,undef,undef,undef,undef,undef,undef,_] H (aG (Z0 rfl (Rf GU rfl)) (Z1 0 23 rfl (Ro aH 0 rfl)) (Z0 rfl (Rm rfl)) (Z2 1 24 2 25 rfl (Rc rfl)) (aG (Z1 3 26 rfl (Rm rfl)) (aN (j:=4) (by kernel_rfl) (fun _ _ _ _ _ h=>h) rfl rfl rfl rfl rfl (fun _ _ h=>aO h (aB (aC c0))) rfl (fun _=>rfl)) (aN (j:=4) (by kernel_rfl) (fun _ _ _ _ _ h=>h) rfl rfl rfl rfl rfl (fun _ _ h=>aO h (aB (aC c0))) rfl (fun _=>rfl)) (aN (j:=4) (by kernel_rfl) (fun _ _ _ _ _ h=>h) rfl rfl rfl rfl rfl (fun _ _ h=>aO h (aB (aC c0))) rfl (fun _=>rfl)) (aG (aN (j:=4) (by kernel_rfl) (fun _ _ _ _ _ h=>h) rfl rfl rfl rfl rfl (fun _ _ h=>aO h (aB (aC c0))) rfl (fun _=>rfl)) (aN (j:=4) (by kernel_rfl) (fun _ _ _ _ _ h=>h) rfl rfl rfl rfl rfl (fun _ _ h=>aO h (aB (aC c0))) rfl (fun _=>rfl)) (aN (j:=4) (by kernel_rfl) (fun _ _ _ _ _ h=>h) rfl rfl rfl rfl rfl (fun _ _ h=>aO h (aB (aC c0))) rfl (fun _=>rfl)) (aN (j:=4) (by kernel_rfl) (fun _ _ _ _ _ h=>h) rfl rfl rfl rfl rfl (fun _ _ h=>aO h (aB (aC c0))) rfl (fun _=>rfl)) (aU (aN (j:=4) (by kernel_rfl) (fun _ _ _ _ _ h=>h) rfl rfl rfl rfl rfl (fun _ _ h=>aO h (aB (aC c0))) rfl (fun _=>rfl)) (aU (Z2 4 27 12 35 rfl (Pt (aC c0) rfl)) bZ))))) ?_
   clear H;intro a w G xB H hv;have H:=H.aQ (hv 13 36 rfl rfl) rfl;clear hv;refine aI ⟨rfl,?_⟩;refine bJ _ _ ?_;clear bJ;refine qL H rfl rfl ?_;refine dQ ?_;refine K9 _ _ ?_;clear K9;refine kP H (SC (Rd rfl (Rm rfl ?_)));clear H;intro a H;refine aI ?_;refine cK ((k+1,_,Lo,_)) (by exact (H.dV (Pl:=[_]) (dz:=[]) [] (by decide) rfl).sub ⟨rfl,rfl,rfl,rfl,rfl,rfl,aD⟩) ?_ ?_
   ·(try dsimp only);exact ⟨by omega,by rw [Lb hk2 (by first|(simp [oM,c0];done)|(simpa using uZ))];exact hrw,fun b o h=>xB b o (hgm b o h)⟩
   first|omega|(dsimp only;omega)
  skip;refine dI hmx [[],[0],[],[0,1,2],(ra 0 4),(ra 0 5),(ra 0 5),(ra 0 5),[0,1,2,3,4,7],[0,1,2,3,4,6,7,8],(ra 0 10),(ra 0 5),(ra 0 12),(ra 0 13)] [] (by kernel_rfl) [_,vi A[k].code,_,_,_,_,_,_,vi A[k].id,.agg #[vi code,vi A[k].id],((mQ A code A[k].id).getD Bc).val,A[k].val,.bool (!oM A code A[k]),_] H (aG (Z0 rfl (Rf GU rfl)) (Z1 0 23 rfl (Ro aH 0 rfl)) (Z0 rfl (Rm rfl)) (Z2 1 24 2 25 rfl (Rc rfl)) (aG (Z1 3 26 rfl (Rm rfl)) (Z1 4 27 rfl (YM (aK c0) rfl)) (Z1 4 27 rfl (YM (aK c0) rfl)) (Z1 4 27 rfl (YF Bp (aK c0) rfl)) (aG (Z2 7 30 4 27 rfl (YO aH 0 (aK c0) rfl)) ?_ ?_ ?_ (aU ?_ (aU (Z2 4 27 12 35 rfl (Pf (aK c0) rfl)) bZ))))) ?_
  ·refine pE 6 29 8 31 4 27 rfl rfl fun _ a w G1 hG HT H fin=>?_;refine ku Qu [_,_] H (wg H rfl rfl (aK c0)) rfl rfl rfl rfl ?_;clear H;intro a H;exact fin H iJ rfl
  ·refine pE 5 28 9 32 4 27 rfl rfl fun _ a w G1 hG HT H fin=>?_;refine ajF (ky:=(code,A[k].id)) (zv:=Bc.val) (l:=acc) LG JE (by kernel_rfl) H (wg H rfl rfl (aK c0)) rfl rfl (H.ro _ _ (hG _ _ hbg)) rfl ?_;clear H;intro a H;rw [PG hfm] at H;exact fin H iJ rfl
  ·refine dO 4 27 rfl rfl fun _ a w G1 hG HT H fin=>?_;refine bK jP (cs:=[_,_,_,_,_]) H (wg H rfl rfl (aK c0)) rfl rfl (H.hp.eF 0 rfl rfl) rfl ?_;clear H;intro a H;exact fin H iJ rfl
  ·refine pE 10 33 11 34 4 27 rfl rfl fun _ a w G1 hG HT H fin=>?_;refine ajH adV H (wg H rfl rfl (aK c0)) rfl rfl rfl rfl ?_;clear H;intro a H;rw [aaq] at H;exact fin H iJ (by show _=_;first|rfl|exact aB (aar hfm c0 (iM hk2)))
  clear H;intro a w G xB H hv;have H:=H.aQ (hv 13 36 rfl rfl) rfl;clear hv;refine aI ⟨rfl,?_⟩;refine bJ _ _ ?_;clear bJ;refine lW H rfl ?_ ?_
  ·intro uZ
   try have p36:=dT uZ
   refine dQ ?_;refine K9 _ _ ?_;clear K9;refine kP H (SC (Rd rfl (Rm rfl ?_)));clear H;intro a H;refine aI ?_;refine cK ((k+1,_,Lo,_)) (by exact (H.dV (Pl:=[_]) (dz:=[]) [] (by decide) rfl).sub ⟨rfl,rfl,rfl,rfl,rfl,rfl,aD⟩) ?_ ?_
   ·(try dsimp only);exact ⟨by omega,by rw [Lb hk2 (by first|(simp [oM,c0];done)|(simpa using uZ))];exact hrw,fun b o h=>xB b o (hgm b o h)⟩
   first|omega|(dsimp only;omega)
  intro uZ
  try have p36:=dF uZ
  have hst:oM A code A[k]=true:=by simpa using uZ
  refine kP H (Kc bC (SR fun _ bT=>aW Bp aH 0 rfl rfl (aW UD gG 0 rfl rfl (Rf wu rfl ?_))));clear H bC;intro a H;refine bK wK (cs:=[_,_]) H wn rfl rfl (H.hp.eF 0 rfl rfl) rfl ?_;clear H;intro a H;refine kH H (Rf wu rfl ?_);clear H;intro a H;refine bK wK (cs:=[_,_]) H wn rfl rfl (H.hp.eF 0 rfl rfl) rfl ?_;clear H;intro a H;refine ku Ld [_,_,_,_,_,_] H wn rfl rfl rfl rfl ?_;clear H;intro a H;refine eZ jr H wn rfl ?_;clear H;intro b10 a w Ot H;refine bM jr 0 (vs:=[_,_,_,_,_,_]) _ H wn rfl rfl rfl rfl rfl rfl rfl rfl ?_;clear H;intro w H;dsimp only [List.set,setRow] at H;refine bT _ _ ?_;clear bT;refine kP H (SR fun _ bS=>Rf pQ rfl (aW jK aH 0 rfl rfl (Rd rfl (Rf pQ rfl (Rf jK rfl ?_)))));clear H;intro a H;refine bM aH 0 (vs:=[_]) _ H wn rfl rfl rfl rfl rfl rfl rfl rfl ?_;clear H;intro w H;dsimp only [List.set,setRow] at H;refine bS _ _ ?_;clear bS;refine kP H (SR fun _ dD=>Rf Aa rfl (aW jK aH 0 rfl rfl (Rd rfl (Rf Aa rfl (Rf jK rfl ?_)))));clear H;intro a H;refine bM aH 0 (vs:=[_]) _ H wn rfl rfl rfl rfl rfl rfl rfl rfl ?_;clear H;intro w H;dsimp only [List.set,setRow] at H;refine dD _ _ ?_;clear dD;refine qy (ι:=Int × Int) (Tc:=[(1,_),(6,_),(7,_),(10,_),(17,_),(18,_),(19,_)]) (Lc:=[(_,_)]) (fun gh=>[]) (fun gh=>[(b10,.cells #[vi A[k].id,.string A[k].name,vi A[k].flow,vi (A[k].at_+1),vi gh.1,vi gh.2] 55 (0,0))]++Lo) (fun gh=>G) (fun gh=>(gh.1,gh.2)=zW A code A[k]) (by exact (H.dV (Pl:=[_,_]) (dz:=[_,_]) [1,0] (by decide) rfl).sub ⟨rfl,rfl,rfl,rfl,rfl,rfl,rfl,aD⟩) ?_ ?_
  ·skip;refine kP H (SR fun _ dM=>Rm rfl (Rm rfl (Rd rfl (aW Bp aH 1 rfl rfl ?_))));clear H;intro a H;refine ku Qu [_,_] H wn rfl rfl rfl rfl ?_;clear H;intro a H;refine XR (ky:=(code+1,A[k].id)) (zv:=Bc.val) (l:=acc) LG JE (by kernel_rfl) H wn rfl rfl (H.ro _ _ (xB _ _ hbg)) rfl ?_;clear H;intro a H;rw [PG hfm,show (mV (code+1,A[k].id) acc).isSome=(mQ A (code+1) A[k].id).isSome by rw [hfm,Option.isSome_map]] at H;obtain ⟨E,hE⟩:∃ E,E=mQ A (code+1) A[k].id:=⟨_,rfl⟩;dsimp only at H;rw [← hE] at H;obtain ⟨q,hq⟩:∃ q,q=E.getD Bc:=⟨_,rfl⟩;rw [← hq] at H;refine kH H (Rm rfl ?_);clear H;intro a H;(iterate 2 refine jN H wn rfl rfl rfl ?_;clear H;intro a H);refine eZ jP H wn rfl ?_;clear H;intro b11 a w JY H;refine bM jP 0 (vs:=[_,_,_,_,_]) _ H wn rfl rfl rfl rfl rfl rfl rfl rfl ?_;clear H;intro w H;dsimp only [List.set,setRow] at H;refine kH H (ak dM rfl (SR fun _ cZ=>Rm rfl (Rm rfl (Sp 69 rfl ?_ ?_)))) <;> clear H dM
   ·intro jd a H
    try have p69:=dT jd
    refine kH H (YF wu jd rfl (YF pO jd rfl (YO aH 0 jd rfl (YF wu jd rfl (YF pO jd rfl (YO aH 2 jd rfl (YC jd rfl (Pt jd rfl (Rm rfl (Sp 78 rfl ?_ ?_)))))))))) <;> clear H
    ·intro mR a H
     try have P7:=dT mR
     refine kH H (YF wu mR rfl (YF jK mR rfl (YO aH 0 mR rfl (YF wu mR rfl (YF jK mR rfl (YO aH 2 mR rfl (YC mR rfl (Pt mR rfl (Kz cZ (Cd rfl ?_ ?_)))))))))) <;> clear H cZ
     ·intro Df a H
      refine kP H (SC (Rf wu rfl ?_));clear H;intro a H;refine bK wK (cs:=[_,_]) H wn rfl rfl (H.hp.eF 0 rfl rfl) rfl ?_;clear H;intro a H;refine kH H (Rf Aa rfl ?_);clear H;intro a H;refine bM wK 1 (vs:=[_,_]) _ H wn rfl rfl rfl rfl rfl rfl rfl rfl ?_;clear H;intro w H;dsimp only [List.set,setRow] at H;refine aI ?_;refine ⟨(q.flow,q.at_),by exact (H.dV (Pl:=[_,_,_]) (dz:=[_,_]) [2,1] (by decide) rfl).sub ⟨rfl,rfl,rfl,rfl,rfl,rfl,rfl,aD⟩,?_⟩;(try dsimp only);obtain ⟨e,he⟩:=Option.isSome_iff_exists.1 jd
      have hqe:q=e:=by rw [hq,he];rfl
      rw [hqe] at mR Df ⊢;exact (Ui ⟨by rw [← hE,he],rF mR,rF Df⟩).symm
     intro Df a H
     try have p86:=dF Df
     refine fT ?_;refine ⟨(A[k].flow,A[k].at_+1),by exact (H.dV (Pl:=[_,_,_]) (dz:=[_,_]) [2,1] (by decide) rfl).sub ⟨rfl,rfl,rfl,rfl,rfl,rfl,rfl,aD⟩,?_⟩;(try dsimp only);refine (EJ ?_).symm;rw [← hE]
     cases hE2:E with
     | none=>trivial
     | some e =>
      have hqe:q=e:=by rw [hq,hE2];rfl
      dsimp only;rw [← hqe];rintro ⟨f1,f2⟩
      first|exact absurd f2 (of_decide_eq_false Df)|exact absurd f1 (of_decide_eq_false mR)|(rw [hE2] at jd;cases jd)
    intro mR a H
    try have P7:=dF mR
    refine kH H (aY mR rfl (aS mR rfl (aS mR rfl (Pf mR rfl (Kz cZ (Cf rfl rfl ?_))))));clear H cZ;intro a H;refine fT ?_;refine ⟨(A[k].flow,A[k].at_+1),by exact (H.dV (Pl:=[_,_,_]) (dz:=[_,_]) [2,1] (by decide) rfl).sub ⟨rfl,rfl,rfl,rfl,rfl,rfl,rfl,aD⟩,?_⟩;(try dsimp only);refine (EJ ?_).symm;rw [← hE]
    cases hE2:E with
    | none=>trivial
    | some e =>
     have hqe:q=e:=by rw [hq,hE2];rfl
     dsimp only;rw [← hqe];rintro ⟨f1,f2⟩
     first|exact absurd f2 (of_decide_eq_false Df)|exact absurd f1 (of_decide_eq_false mR)|(rw [hE2] at jd;cases jd)
   intro jd a H
   try have p69:=dF jd
   refine kH H (aY jd rfl (aS jd rfl (aS jd rfl (Pf jd rfl (Rm rfl (aY rfl rfl (aS rfl rfl (aS rfl rfl (Pf rfl rfl (Kz cZ (Cf rfl rfl ?_)))))))))));clear H cZ;intro a H;refine fT ?_;refine ⟨(A[k].flow,A[k].at_+1),by exact (H.dV (Pl:=[_,_,_]) (dz:=[_,_]) [2,1] (by decide) rfl).sub ⟨rfl,rfl,rfl,rfl,rfl,rfl,rfl,aD⟩,?_⟩;(try dsimp only);refine (EJ ?_).symm;rw [← hE]
   cases hE2:E with
   | none=>trivial
   | some e =>
    have hqe:q=e:=by rw [hq,hE2];rfl
    dsimp only;rw [← hqe];rintro ⟨f1,f2⟩
    first|exact absurd f2 (of_decide_eq_false Df)|exact absurd f1 (of_decide_eq_false mR)|(rw [hE2] at jd;cases jd)
  clear H;intro gh a w hI H;obtain ⟨tf,ta⟩:=gh;dsimp only at hI H;have hend:=hI;dsimp only [lca,bD] at H;refine kP H (SC (Rm rfl ?_));clear H;intro a H;refine bK jr (cs:=[_,_,_,_,_,_]) H wn rfl rfl (H.hp.eF 1 rfl rfl) rfl ?_;clear H;intro a H;refine gU nQ jr [_,_,_,_,_,_] [_,_,_,_,_,_] H wn rfl rfl rfl rfl rfl (by intro i q h;match i,h with|0,h=>exact h|n+1,h=>simp at h) rfl rfl ?_;clear H;intro b92 a w alP H;refine oN (Li:=[_,_,_]) (Lo:=Lo) (news:=[vi A[k].id,.string A[k].name,vi A[k].flow,vi (A[k].at_+1),vi tf,vi ta]) nQ jr rfl rfl H wn rfl rfl hrw rfl (H.hp.eF 0 rfl rfl) rfl (by omega) (by omega) rfl ?_;clear H;intro v93 Z4 a w VW H;rw [show [vi A[k].id,Value.string A[k].name,vi A[k].flow,vi (A[k].at_+1),vi tf,vi ta]=(xY A code A[k]).cells by simp only [xY,fP.cells,← hend]] at VW;refine kH H (aV K9 rfl (SC (Rd rfl (Rm rfl ?_))));clear H K9;intro a H;refine aI ?_;refine cK ((k+1,v93,Z4,_)) (by exact (H.dV (Pl:=[_,_,_]) (dz:=[]) [] (by decide) rfl).sub ⟨rfl,rfl,rfl,rfl,rfl,rfl,aD⟩) ?_ ?_
  ·(try dsimp only);exact ⟨by omega,by rw [Yf hk2 hst,lF,Ye];exact VW,fun b o h=>xB b o (hgm b o h)⟩
  first|omega|(dsimp only;omega)
 intro h20 a H
 try have BR:=dF h20
 obtain rfl:k=A.length:=by omega
 have hall:ru A code A.length=jq A code:=by unfold ru jq;rw [uP]
 rw [hall] at hrw;refine dQ ?_;refine K5 _ _ ?_;clear K5;exact kP H (SR fun _ dW=>Rm rfl (ak dW rfl (LR results37 rfl fun H=>H.hp.eP (by rw [hall];exact hrw))))
theorem aiK {G:GH} {w:World} (h:Hold G w):gX G [] w:=⟨h,fun _ h=>(by cases h),fun _ h=>(by cases h),List.Pairwise.nil⟩
theorem Yj (G:GH) (w0:World) (hG:Hold G w0) (D:nE) (l:List ay) (hv:av G (.sl 11 (l.map ay.dat)) (fI D.f)) (hok:dX l) (hz:bq l≤1073741824) (code:Int) (hc:0≤code∧code≤100) :
  Calls prog 37 #[D.val,vi code] w0 (bF w0 G fun u G'=>av G' (.sl 6 ((jq (dB 0 0 l) code).map fP.dat)) u) :=
 aaM hG (akn G w0 (aiK hG) D l hv hok hz code hc) (by simp) fun _=>Qt _ _
end
end Go.Proofs.YteopmoocmoigcaaGreat
