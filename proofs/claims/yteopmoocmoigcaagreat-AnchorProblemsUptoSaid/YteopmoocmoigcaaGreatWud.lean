/-
  What the claim stands on, part 4: Nck Cid Mt Ehd Hdr Hea Frm Itc Vis Okd Ubf Av16 Mz Vn15 Sp16 Cl Avi16 Gco Lst16 En Spn16.
-/
import Derived.Test.YteopmoocmoigcaaGreatWuc
namespace Go.Proofs.YteopmoocmoigcaaGreat
open Go.Proofs.Tryz
section
open Go.RowKit
theorem zM:prog.underlying 145=some (.map 3 4):=by kernel_rfl
theorem Em:Ty prog 176 3 32 [.int .i64 0,.string ⟨#[]⟩,.int .i64 0] true:=⟨by kernel_rfl,by kernel_rfl⟩
theorem ajI:pq prog 147 [(0,1),(1,1),(2,1),(3,1),(4,1),(5,1)] [.map none,.map none,.map none,.map none,.map none,.int .i64 0]:=⟨by kernel_rfl,by kernel_rfl⟩
theorem xk:bW prog 38 3 7:=⟨by kernel_rfl⟩
theorem GK:bW prog 147 0 0:=⟨by kernel_rfl⟩
theorem Iw:Ty prog 114 1 8 [.map none] false:=⟨by kernel_rfl,by kernel_rfl⟩
theorem Uh:bW prog 147 1 1:=⟨by kernel_rfl⟩
theorem zI:Ty prog 145 1 8 [.map none] false:=⟨by kernel_rfl,by kernel_rfl⟩
theorem Nz:bW prog 38 2 6:=⟨by kernel_rfl⟩
theorem CB:Ty prog 30 1 24 [.slice none 0 0] false:=⟨by kernel_rfl,by kernel_rfl⟩
theorem CG:prog.underlying 30=some (.slice 176):=by kernel_rfl
theorem GL:bW prog 147 2 2:=⟨by kernel_rfl⟩
theorem Uj:bW prog 176 0 0:=⟨by kernel_rfl⟩
structure fH where
 id:Int
 author:ByteArray
 time:Int
def fH.dat (x:fH):List Dat:=[li x.id,.lf (.string x.author),li x.time]
abbrev fH.cells (x:fH):List aj:=[vi x.id,.string x.author,vi x.time]
theorem aiO {G:GH} {x:fH} {cs:List aj} (h:aZ G x.dat cs):cs=x.cells:=by
 simp only [fH.dat,aZ,av] at h
 obtain ⟨_,_,rfl,⟨rfl,_⟩,_,_,rfl,⟨rfl,_⟩,_,_,rfl,⟨rfl,_⟩,rfl⟩:=h
 rfl
theorem Qj {G:GH} {l:List fH} {A:Option Addr} {n c k:Nat} (hv:av G (.sl 3 (l.map fH.dat)) (.slice A n c)) (hk:k < l.length):∃ b o,A=some ⟨b,o,none⟩∧(∀ j u,l[k].cells[j]?=some u→aI G b (o+k*3+j)=some u):=by
 obtain ⟨A',c',he,_,_,hg⟩:=hv.slice
 injection he with e1 e2 e3
 subst e1;obtain ⟨b,o,cs,h1,h2,h3,h4⟩:=hg k l[k].dat (by simp [hk]);have:=aiO h4;subst this;exact ⟨b,o,h1,h3⟩
abbrev fO (b ms ml mr mb mu:Nat) (n:Int):Nat × Obj:=(b,.cells #[.map (some ms),.map (some ml),.map (some mr),.map (some mb),.map (some mu),vi n] 147 (0,0))
def zq (l:List bL):List (Int × aj):=l.map fun s=>(s.id,vi s.kind)
def fP (l:List Int):List (Int × aj):=l.map fun k=>(k,.bool true)
structure tJ (G:GH) (st:List bL) (li:List fU) (rv:List fH) (ms ml mr mu:Nat):Prop where
 sty:G ms=some (fK (zq st))
 xX:G ml=some (fK (fP (li.map fU.id)))
 rev:G mr=some (fK (fP (rv.map fH.id)))
 use:G mu=some (fK [])
theorem tJ.mono {G G':GH} {st:List bL} {li:List fU} {rv:List fH} {ms ml mr mu:Nat} (h:tJ G st li rv ms ml mr mu) (hm:∀ b o,G b=some o→G' b=some o):tJ G' st li rv ms ml mr mu:=⟨hm _ _ h.sty,hm _ _ h.xX,hm _ _ h.rev,hm _ _ h.use⟩
def zP (l:List Int):Prop:=∀ (k:Nat) (h:k < l.length),l[k]∉l.take k
theorem ahu {l:List bL} {k:Nat} (h:k < l.length):zq (l.take (k+1))=zq (l.take k)++[(l[k].id,vi l[k].kind)]:=by rw [zq,jq h,mZ];rfl
theorem Wq {l:List Int} {k:Nat} (h:k < l.length):fP (l.take (k+1))=fP (l.take k)++[(l[k],.bool true)]:=by rw [fP,jq h,mZ];rfl
theorem aht {l:List bL} {k:Nat} (f:zP (l.map bL.id)) (h:k < l.length):qW l[k].id (zq (l.take k))=none:=by
 refine Kv ?_;have:=f k (by simpa using h)
 simpa [zq,List.map_take,List.map_map,Function.comp_def] using this
theorem Wp {l:List Int} {k:Nat} (f:zP l) (h:k < l.length):qW l[k] (fP (l.take k))=none:=by
 refine Kv ?_;have:=f k h
 simpa [fP,List.map_map,Function.comp_def] using this
theorem ahK (G:GH) (w0:World) (hO:gX G [] w0) (D:mI) (st:List bL) (li:List fU) (rv:List fH) (hst:av G (.sl 6 (st.map bL.dat)) (eD D.s1)) (Hu:av G (.sl 2 (li.map fU.dat)) (eD D.s2)) (xQ:av G (.sl 3 (rv.map fH.dat)) (eD D.r))
  (f1:zP (st.map bL.id)) (f2:zP (li.map fU.id)) (f3:zP (rv.map fH.id)) (z1:st.length≤4294967296) (z2:li.length≤4294967296) (z3:rv.length≤4294967296) :
  Calls prog 57 #[D.val] w0 (gH w0 G [] fun u G' L'=>∃ b ms ml mr mb mu,u=(aJ b 0)∧L'=[fO b ms ml mr mb mu 0,(mb,fK [])]∧tJ G' st li rv ms ml mr mu):=by
 obtain ⟨df,dp,dd,dy,⟨rA,rn,rc⟩,⟨sA,sn,sc⟩,⟨lA,ln,lc⟩,d3,d4,ins,mv⟩:=D;dsimp only at hst Hu xQ
 obtain rfl:sn=st.length:=by have:=hst.len;simpa using this
 obtain rfl:ln=li.length:=by have:=Hu.len;simpa using this
 obtain rfl:rn=rv.length:=by have:=xQ.len;simpa using this
 have hml:maxLen=9223372036854775807:=rfl;refine jO (N:=64) (T:=[(0,_)]) func57 rfl ntmps57 rfl rfl hO ?_;intro a H;refine dB (fun _ K1=>?_);refine eU (cs:=[_,_,_,_,_,_,_,_,_,_,_]) H wn rfl rfl rfl ?_;clear H;intro b1 a w hb1 H;refine kH H (ak K1 rfl (SQ fun _ K2=>?_));clear H K1;intro a H;obtain ⟨Ga,hma,hb1',H⟩:=H.dP
 have hc7:aI Ga b1 7=some (.slice sA st.length sc):=by unfold aI;rw [hb1'];rfl
 have hc8:aI Ga b1 8=some (.slice lA li.length lc):=by unfold aI;rw [hb1'];rfl
 have hc6:aI Ga b1 6=some (.slice rA rv.length rc):=by unfold aI;rw [hb1'];rfl
 replace hst:=hst.mono hma;replace Hu:=Hu.mono hma;replace xQ:=xQ.mono hma;refine pE ?_;refine Cx H wn rfl ?_;clear H;intro b10 a w Hl H;refine Cx H wn rfl ?_;clear H;intro b11 a w Dx H;refine Cx H wn rfl ?_;clear H;intro b12 a w Aw H;refine Cx H wn rfl ?_;clear H;intro b13 a w Ot H;refine Cx H wn rfl ?_;clear H;intro b14 a w Ou H;refine iT ajI [_,_,_,_,_,_] H wn rfl rfl rfl rfl ?_;clear H;intro a H;refine eU (cs:=[_,_,_,_,_,_]) H wn rfl rfl rfl ?_;clear H;intro b16 a w akO H;refine kH H (aU K2 rfl (SQ fun _ K3=>SR fun _ K4=>Rf xk rfl (Rf Nw rfl (Rg sD rfl (by assumption) ?_))));clear H K2;intro a H;refine kH H (Rl nE rfl (Rm rfl (Kz K4 (SB ?_))));clear H K4;intro a H;skip;refine eT (ι:=Nat × GH) (Tc:=[(1,_),(3,_),(19,_),(20,_)]) (Lc:=[(_,_),(_,_),(_,_),(_,_),(_,_)]) (fun gh=>[(21,vi gh.1)]) (fun gh=>[(b10,fK (zq (st.take gh.1)))]) (fun gh=>gh.2) (fun gh=>gh.1≤st.length∧(∀ b o,Ga b=some o→gh.2 b=some o)) (fun gh=>st.length - gh.1) ((0,Ga)) (by exact (H).sub ⟨rfl,rfl,rfl,rfl,rfl,aD⟩) ?_ ?_
 ·exact ⟨iy _,fun _ _ h=>h⟩
 clear H;intro gh a w hI H;obtain ⟨k,g1⟩:=gh;dsimp only at hI H;obtain ⟨hk,Fe⟩:=hI;dsimp only [lca,bg] at H;refine kP H (SR fun _ K5=>Rc rfl (Kz K5 (SQ fun _ K6=>Cd rfl ?_ ?_))) <;> clear H K5
 ·intro h22 a H
  try have iw:=dT h22
  have hk2:k < st.length:=by omega
  obtain ⟨xb,xo,pA,pc,rfl,hrow,-,-⟩:=Bp (hst.mono Fe) hk2;have hnew:=aht f1 hk2;refine kP H (Kc K6 (SQ fun _ K7=>SB (SR fun _ K8=>Ri nE jY rfl rfl ?_)));clear H K6;intro a H;refine bD jY (cs:=_) H wn rfl rfl (fun j v hj=>H.hp.aI (hrow j v hj)) rfl ?_;clear H;intro a H;refine eB jY H wn rfl ?_;clear H;intro b5 a w hb5 H;refine bH jY 0 (vs:=[_,_,_,_,_,_]) _ H wn rfl rfl rfl rfl rfl rfl rfl rfl ?_;clear H;intro w H;dsimp only [List.set,setRow] at H;refine K8 _ _ ?_;clear K8;refine dI hmx [[],[0],[0,1],[0,1,2],[],[4],[],[6],(ra 0 8)] [8] (by kernel_rfl) [_,_,_,.map (some b10),_,vi st[k].id,_,vi st[k].kind] H (aF (Z0 rfl (Rm rfl)) (Z1 0 25 rfl (Rk rfl)) (Z1 1 26 rfl (Rf GK rfl)) (Z1 2 27 rfl (Ro Iw 1 rfl)) (aF (Z0 rfl (Rf uf rfl)) (Z1 4 29 rfl (Ro aC 0 rfl)) (Z0 rfl (Rf vS rfl)) (Z1 6 31 rfl (Ro aC 0 rfl)) (aS (bK rfl) bX))) ?_
  clear H;intro a w G Cb H hv;have H:=H.aR (hv 3 28 rfl rfl) rfl;have H:=H.aR (hv 5 30 rfl rfl) rfl;have H:=H.aR (hv 7 32 rfl rfl) rfl;clear hv;refine Le (i:=6) Ep nG H wn rfl rfl rfl rfl hnew ?_;clear H;intro w H;dsimp only [List.set,List.append,lca,bg] at H;rw [← ahu hk2] at H;refine aH ⟨rfl,?_⟩;refine K7 _ _ ?_;clear K7;refine kP H (SC (Rd rfl (Rm rfl ?_)));clear H;intro a H;refine aH ?_;refine cu ((k+1,G)) (by exact (H.dK (Pl:=[_,_,_,_,_,_,_]) (cB:=[_,_,_,_,_,_]) [1,2,3,4,5,6] (by decide) rfl).sub ⟨rfl,rfl,rfl,rfl,rfl,aD⟩) ?_ ?_
  ·(try dsimp only);exact ⟨by omega,fun b o h=>Cb b o (Fe b o h)⟩
  first|omega|(dsimp only;omega)
 intro h22 a H
 try have iw:=dF h22
 obtain rfl:k=st.length:=by omega
 rw [wT] at H;have ale:=aK Fe hc8;refine dU ?_;refine K3 _ _ ?_;clear K3;refine kP H (SQ fun _ K9=>SR fun _ aT=>Rf xk rfl (Rf Ny rfl (Rg Eo rfl (by assumption) ?_)));clear H;intro a H;refine kH H (Rl Er rfl (Rm rfl (Kz aT (SB ?_))));clear H aT;intro a H;skip;refine eT (ι:=Nat × GH) (Tc:=[(1,_),(3,_),(36,_),(37,_)]) (Lc:=[(_,_),(_,_),(_,_),(_,_),(_,_)]) (fun gh=>[(38,vi gh.1)]) (fun gh=>[(b11,fK (fP ((li.map fU.id).take gh.1)))]) (fun gh=>gh.2) (fun gh=>gh.1≤li.length∧(∀ b o,g1 b=some o→gh.2 b=some o)) (fun gh=>li.length - gh.1) ((0,g1)) (by exact (H.dK (Pl:=[_,_,_,_,_,_]) (cB:=[_,_,_,_,_,_]) [0,1,2,3,5,4] (by decide) rfl).sub ⟨rfl,rfl,rfl,rfl,rfl,aD⟩) ?_ ?_
 ·exact ⟨iy _,fun _ _ h=>h⟩
 clear H;intro gh a w hI H;obtain ⟨k,g2⟩:=gh;dsimp only at hI H;obtain ⟨hk,J9⟩:=hI;dsimp only [lca,bg] at H;refine kP H (SR fun _ bq=>Rc rfl (Kz bq (SQ fun _ bF=>Cd rfl ?_ ?_))) <;> clear H bq
 ·intro kU a H
  try have p39:=dT kU
  have hk2:k < li.length:=by omega
  obtain ⟨xb,xo,B,d,rfl,hrow,-⟩:=Pz ((Hu.mono Fe).mono J9) hk2
  have hk3:k < (li.map fU.id).length:=by simpa using hk2
  have hnew:=Wp f2 hk3
  have Hr:(li.map fU.id)[k]=li[k].id:=by simp
  rw [Hr] at hnew;refine kP H (Kc bF (SQ fun _ bJ=>SB (SR fun _ bN=>Ri Er FJ rfl rfl ?_)));clear H bF;intro a H;refine bD FJ (cs:=_) H wn rfl rfl (fun j v hj=>H.hp.aI (hrow j v hj)) rfl ?_;clear H;intro a H;refine eB FJ H wn rfl ?_;clear H;intro b7 a w Ce H;refine bH FJ 0 (vs:=[_,_]) _ H wn rfl rfl rfl rfl rfl rfl rfl rfl ?_;clear H;intro w H;dsimp only [List.set,setRow] at H;refine bN _ _ ?_;clear bN;refine dI hmx [[],[0],[0,1],[0,1,2],[],[4],(ra 0 6)] [6] (by kernel_rfl) [_,_,_,.map (some b11),_,vi li[k].id] H (aF (Z0 rfl (Rm rfl)) (Z1 0 42 rfl (Rk rfl)) (Z1 1 43 rfl (Rf Uh rfl)) (Z1 2 44 rfl (Ro zI 1 rfl)) (aS (Z0 rfl (Rf Ul rfl)) (aS (Z1 4 46 rfl (Ro aC 0 rfl)) (aS (bK rfl) bX)))) ?_
  clear H;intro a w G oJ H hv;have H:=H.aR (hv 3 45 rfl rfl) rfl;have H:=H.aR (hv 5 47 rfl rfl) rfl;clear hv;refine Le (i:=6) zM nG H wn rfl rfl rfl rfl hnew ?_;clear H;intro w H;dsimp only [List.set,List.append,lca,bg] at H;rw [← Hr,← Wq hk3] at H;refine aH ⟨rfl,?_⟩;refine bJ _ _ ?_;clear bJ;refine kP H (SC (Rd rfl (Rm rfl ?_)));clear H;intro a H;refine aH ?_;refine cu ((k+1,G)) (by exact (H.dK (Pl:=[_,_,_,_,_,_,_]) (cB:=[_,_,_,_,_,_]) [1,2,3,4,5,6] (by decide) rfl).sub ⟨rfl,rfl,rfl,rfl,rfl,aD⟩) ?_ ?_
  ·(try dsimp only);exact ⟨by omega,fun b o h=>oJ b o (J9 b o h)⟩
  first|omega|(dsimp only;omega)
 intro kU a H
 try have p39:=dF kU
 obtain rfl:k=li.length:=by omega
 rw [jH (by simp)] at H;have ald:=aK J9 (aK Fe hc6);refine dU ?_;refine K9 _ _ ?_;clear K9;refine kP H (SQ fun _ cK=>SR fun _ dw=>Rf Nz rfl (Rg CB rfl (by assumption) ?_));clear H;intro a H;refine kH H (Rl CG rfl (Rm rfl (Kz dw (SB ?_))));clear H dw;intro a H;skip;refine eT (ι:=Nat × GH) (Tc:=[(3,_),(50,_),(51,_)]) (Lc:=[(_,_),(_,_),(_,_),(_,_),(_,_)]) (fun gh=>[(52,vi gh.1)]) (fun gh=>[(b12,fK (fP ((rv.map fH.id).take gh.1)))]) (fun gh=>gh.2) (fun gh=>gh.1≤rv.length∧(∀ b o,g2 b=some o→gh.2 b=some o)) (fun gh=>rv.length - gh.1) ((0,g2)) (by exact (H.dK (Pl:=[_,_,_,_,_,_]) (cB:=[_,_,_,_,_,_]) [0,1,2,4,5,3] (by decide) rfl).sub ⟨rfl,rfl,rfl,rfl,aD⟩) ?_ ?_
 ·exact ⟨iy _,fun _ _ h=>h⟩
 clear H;intro gh a w hI H;obtain ⟨k,g3⟩:=gh;dsimp only at hI H;obtain ⟨hk,Vj⟩:=hI;dsimp only [lca,bg] at H;refine kP H (SR fun _ bY=>Rc rfl (Kz bY (SQ fun _ dz=>Cd rfl ?_ ?_))) <;> clear H bY
 ·intro NP a H
  try have p53:=dT NP
  have hk2:k < rv.length:=by omega
  obtain ⟨xb,xo,rfl,hrow⟩:=Qj (((xQ.mono Fe).mono J9).mono Vj) hk2
  have hk3:k < (rv.map fH.id).length:=by simpa using hk2
  have hnew:=Wp f3 hk3
  have Hr:(rv.map fH.id)[k]=rv[k].id:=by simp
  rw [Hr] at hnew;refine kP H (Kc dz (SQ fun _ fC=>SB (SR fun _ dN=>Ri CG Em rfl rfl ?_)));clear H dz;intro a H;refine bD Em (cs:=_) H wn rfl rfl (fun j v hj=>H.hp.aI (hrow j v hj)) rfl ?_;clear H;intro a H;refine eB Em H wn rfl ?_;clear H;intro b9 a w ze H;refine bH Em 0 (vs:=[_,_,_]) _ H wn rfl rfl rfl rfl rfl rfl rfl rfl ?_;clear H;intro w H;dsimp only [List.set,setRow] at H;refine dN _ _ ?_;clear dN;refine dI hmx [[],[0],[0,1],[0,1,2],[],[4],(ra 0 6)] [6] (by kernel_rfl) [_,_,_,.map (some b12),_,vi rv[k].id] H (aF (Z0 rfl (Rm rfl)) (Z1 0 56 rfl (Rk rfl)) (Z1 1 57 rfl (Rf GL rfl)) (Z1 2 58 rfl (Ro zI 1 rfl)) (aS (Z0 rfl (Rf Uj rfl)) (aS (Z1 4 60 rfl (Ro aC 0 rfl)) (aS (bK rfl) bX)))) ?_
  clear H;intro a w G Ao H hv;have H:=H.aR (hv 3 59 rfl rfl) rfl;have H:=H.aR (hv 5 61 rfl rfl) rfl;clear hv;refine Le (i:=6) zM nG H wn rfl rfl rfl rfl hnew ?_;clear H;intro w H;dsimp only [List.set,List.append,lca,bg] at H;rw [← Hr,← Wq hk3] at H;refine aH ⟨rfl,?_⟩;refine fC _ _ ?_;clear fC;refine kP H (SC (Rd rfl (Rm rfl ?_)));clear H;intro a H;refine aH ?_;refine cu ((k+1,G)) (by exact (H.dK (Pl:=[_,_,_,_,_,_,_]) (cB:=[_,_,_,_,_,_]) [1,2,3,4,5,6] (by decide) rfl).sub ⟨rfl,rfl,rfl,rfl,aD⟩) ?_ ?_
  ·(try dsimp only);exact ⟨by omega,fun b o h=>Ao b o (Vj b o h)⟩
  first|omega|(dsimp only;omega)
 intro NP a H
 try have p53:=dF NP
 obtain rfl:k=rv.length:=by omega
 rw [jH (by simp)] at H;refine dU ?_;refine cK _ _ ?_;clear cK;refine kP H (SR fun _ fQ=>Rm rfl (ak fQ rfl ?_));clear H fQ;intro a H;refine cZ ?_;have H:=H.dK (Pl:=[_,_,_,_,_,_]) (cB:=[_,_,_,_,_,_]) [3,4,5,1,0,2] (by decide) rfl;obtain ⟨Gs,hms,hs,H⟩:=H.dP;obtain ⟨Gl,OP,hl,H⟩:=H.dP;obtain ⟨Gr,hmr,hr,H⟩:=H.dP;obtain ⟨Gu,hmu,hu,H⟩:=H.dP;refine lv H results57 rfl ?_;exact H.hp.eP ⟨b16,b10,b11,b12,b13,b14,rfl,rfl,⟨hmu _ _ (hmr _ _ (OP _ _ hs)),hmu _ _ (hmr _ _ hl),hmu _ _ hr,hu⟩⟩
end
section
open Go.RowKit
theorem adX:bW prog 147 4 4:=⟨by kernel_rfl⟩
theorem Ui:bW prog 147 3 3:=⟨by kernel_rfl⟩
theorem D9 (x:Int):∀ l:List Int,(qW x (fP l)).getD (.bool false)=.bool (decide (x∈l))
 | []=>rfl
 | k :: r=>by
  have ih:=D9 x r;rw [fP,eZ,qW]
  by_cases e:k=x
  ·subst e;simp
  rw [ah e,show (r.map fun k=>(k,Value.bool true))=fP r from rfl,ih]
  simp [show x≠k from fun h=>e h.symm]
def Lj (st:List bL) (v:Int):Int:=((st.find? fun s=>decide (s.id=v)).map bL.kind).getD 0
theorem Ie (x:Int):∀ l:List bL,(qW x (zq l)).getD (vi 0)=vi (Lj l x)
 | []=>rfl
 | s :: r=>by
  have ih:=Ie x r;rw [zq,eZ,qW]
  by_cases e:s.id=x
  ·subst e;simp [Lj]
  rw [ah e,show (r.map fun s=>(s.id,vi s.kind))=zq r from rfl,ih]
  simp [Lj,e]
def pQ (bG:List Int) (x:Int):Int:=if ¬ (1≤x∧x≤1073741824) then 18 else if x∈bG then 7 else 0
def jQ (bG:List Int) (x:Int):List Int:=if pQ bG x=0 then bG++[x] else bG
theorem ahs (l:List Int) (x:Int):fP (l++[x])=fP l++[(x,.bool true)]:=by simp [fP]
theorem MR (G:GH) (L:OL) (w0:World) (st:List bL) (li:List fU) (rv:List fH) (b ms ml mr mb mu:Nat) (n:Int) (bG:List Int) (x:Int) (hck:tJ G st li rv ms ml mr mu) (hO:gX G (fO b ms ml mr mb mu n :: (mb,fK (fP bG)) :: L) w0) :
  Calls prog 128 #[(aJ b 0),vi x] w0 (gH w0 G (fO b ms ml mr mb mu n :: (mb,fK (fP bG)) :: L) fun u G' L'=>u=vi (pQ bG x)∧L'=fO b ms ml mr mb mu n :: (mb,fK (fP (jQ bG x))) :: L∧G=G'):=by
 refine jO (N:=29) (T:=[(0,_),(1,_)]) func128 rfl ntmps128 rfl rfl hO ?_;intro a H;refine kP H (SR fun _ K1=>ak K1 rfl (SQ fun _ K2=>SB (SR fun _ K3=>Rm rfl ?_)));clear H K1;intro a H;refine s_call uU H wn rfl (vv _ _ H.ro x 1 1073741824) rfl ?_;clear H;rintro v7 _ a w ⟨rfl,rfl⟩ - H;refine kH H (Rn rfl (Rm rfl (Sp 9 rfl ?_ ?_))) <;> clear H
 ·intro h9 a H
  try have p9:=dT h9
  refine kH H (aX h9 rfl (aX h9 rfl (Pt h9 rfl (ak K3 rfl (Ct rfl rfl (SQ fun _ K4=>?_))))));clear H K3;intro a H
  have e:pQ bG x=18:=by rw [pQ,au (by first|(simp_all;done)|(simp_all;omega))]
  refine kP H (SC (aU K4 rfl ?_));clear H K4;intro a H;refine lr H results128 rfl ?_
  first
   | exact H.hp.eP ⟨by rw [e],by rw [jQ,au e],rfl⟩
   | exact H.hp.eP ⟨by rw [e],by rw [jQ,ah (by rw [e];decide)],rfl⟩
 intro h9 a H
 try have p9:=dF h9
 refine kH H (YM h9 rfl ?_);clear H;intro a H;refine rW H (wg H rfl rfl h9) rfl rfl ?_;clear H;intro a H;refine kH H (YF adX h9 rfl (YO zI 0 h9 rfl (YM h9 rfl ?_)));clear H;intro a H;refine yh (zv:=.bool false) zM nG (by kernel_rfl) H (wg H rfl rfl h9) rfl rfl (H.ro _ _ hck.use) rfl ?_;clear H;intro a H;rw [show (qW x []).getD (Value.bool false)=.bool false from rfl] at H;refine kH H (Pf h9 rfl (ak K3 rfl (Cd rfl ?_ ?_))) <;> clear H K3
 ·intro h5 a H
  try have p5:=dT h5
  refine bA (fun _ K5=>?_)
  have e:pQ bG x=18:=by rw [pQ,au (by first|(simp_all;done)|(simp_all;omega))]
  refine kP H (SC (aU K5 rfl ?_));clear H K5;intro a H;refine lr H results128 rfl ?_
  first
   | exact H.hp.eP ⟨by rw [e],by rw [jQ,au e],rfl⟩
   | exact H.hp.eP ⟨by rw [e],by rw [jQ,ah (by rw [e];decide)],rfl⟩
 intro h5 a H
 try have p5:=dF h5
 have hin:decide (1≤x∧x≤1073741824)=true:=by simp_all
 refine kP H (SR fun _ K6=>Rm rfl (Rk rfl (aP Ui zI 0 rfl rfl (Rm rfl ?_))));clear H;intro a H;refine yh (zv:=.bool false) zM nG (by kernel_rfl) H wn rfl rfl (H.hp.own _ (jN _ gD)) rfl ?_;clear H;intro a H;rw [D9] at H;refine kH H (ak K6 rfl (Cd rfl ?_ ?_)) <;> clear H K6
 ·intro dV a H
  refine bA (fun _ K7=>?_)
  have e:pQ bG x=7:=by rw [pQ,ah (by simpa using hin),au (om dV)]
  refine kP H (SC (aU K7 rfl ?_));clear H K7;intro a H;refine lr H results128 rfl ?_
  first
   | exact H.hp.eP ⟨by rw [e],by rw [jQ,au e],rfl⟩
   | exact H.hp.eP ⟨by rw [e],by rw [jQ,ah (by rw [e];decide)],rfl⟩
 intro dV a H
 have hx:x∉bG:=of_decide_eq_false dV;have hnew:qW x (fP bG)=none:=Kv (by simpa [fP,List.map_map,Function.comp_def] using hx)
 have e:pQ bG x=0:=by rw [pQ,ah (by simpa using hin),ah hx]
 refine kP H (Kc K2 (SR fun _ K8=>Rm rfl (Rk rfl (aP Ui zI 0 rfl rfl (Rm rfl ?_)))));clear H K2;intro a H;refine Le (i:=1) zM nG H wn rfl rfl rfl rfl hnew ?_;clear H;intro w H;dsimp only [List.set] at H;rw [← ahs] at H;refine K8 _ _ ?_;clear K8;refine kP H (SR fun _ K9=>ak K9 rfl ?_);clear H K9;intro a H;refine lr H results128 rfl ?_
 first
  | exact H.hp.eP ⟨by rw [e],by rw [jQ,au e],rfl⟩
  | exact H.hp.eP ⟨by rw [e],by rw [jQ,ah (by rw [e];decide)],rfl⟩
def nT (st:List bL) (xX:List Int) (key v:Int):Int :=
 if key=20∨key=1 then bV (decide (v≠0∧Lj st v≠(if key=1 then 2 else 1))) 25 else if key=33 then bV (decide (v≠0∧v∉xX)) 26 else 0
theorem MS (G:GH) (w0:World) (hG:Hold G w0) (st:List bL) (li:List fU) (rv:List fH) (b ms ml mr mb mu:Nat) (n:Int) (key v:Int) (hck:tJ G st li rv ms ml mr mu) (hb:G b=some (fO b ms ml mr mb mu n).2) :
  Calls prog 91 #[(aJ b 0),vi key,vi v] w0 (bE w0 G fun u G'=>u=vi (nT st (li.map fU.id) key v)∧G=G'):=by
 have hc0:aI G b 0=some (.map (some ms)):=by unfold aI;rw [hb];rfl
 have hc1:aI G b 1=some (.map (some ml)):=by unfold aI;rw [hb];rfl
 refine eN [(0,_),(1,_),(2,_)] func91 rfl ntmps91 rfl rfl hG ?_;intro a H;refine kP H (SR fun _ K1=>ak K1 rfl (SQ fun _ K2=>SR fun _ K3=>Rm rfl (Kz K3 (SB (SQ fun _ K4=>SR fun _ K5=>Rc rfl (ak K5 rfl (Cd rfl ?_ ?_))))))) <;> clear H K1 K3 K5
 ·intro h9 a H
  try have p9:=dT h9
  refine kP H (Kc K4 (Ct rfl h9 (SR fun _ K6=>ak K6 rfl (SQ fun _ K7=>SR fun _ K8=>Rm rfl (Rc rfl (Kz K8 (Cd rfl ?_ ?_))))))) <;> clear H K4 K6 K8
  ·intro gy a H
   try have qC:=dT gy
   refine kP H (SC (aU K7 rfl (SR fun _ K9=>Rm rfl (Rc rfl (Rm rfl (Sp 16 rfl ?_ ?_)))))) <;> clear H K7
   ·intro h16 a H
    try have p16:=dT h16
    refine kH H (YM h16 rfl ?_);clear H;intro a H;refine rW H (wg H rfl rfl h16) rfl rfl ?_;clear H;intro a H;refine kH H (YF GK h16 rfl (YR Iw h16 rfl (by assumption) ?_));clear H;intro a H;refine kH H (YM h16 rfl ?_);clear H;intro a H;refine yh (zv:=vi 0) Ep nG (by kernel_rfl) H (wg H rfl rfl h16) rfl rfl (H.ro _ _ hck.sty) rfl ?_;clear H;intro a H;rw [Ie] at H;refine kH H (YM h16 rfl (YC h16 rfl (Pt h16 rfl ?_)));clear H;intro a H;refine s_call iW H wn rfl (iZ _ _ H.ro _ 25) rfl ?_;clear H;rintro v26 _ a w ⟨rfl,rfl⟩ - H;refine kH H (ak K9 rfl ?_);clear H K9;intro a H;refine lr H results91 rfl ?_
    exact H.rt ⟨ay vi (by unfold nT;(repeat' split) <;> first|rfl|(simp_all;done)|(exfalso;simp_all;done)|(congr 1;rw [ng];simp only [sI,rJ,pz];exact ⟨fun h=>⟨p31,h⟩,fun h=>h.2⟩)),rfl⟩
   intro h16 a H
   try have p16:=dF h16
   refine kH H (aX h16 rfl (aX h16 rfl (aQ h16 rfl (Pf h16 rfl ?_))));clear H;intro a H;refine s_call iW H wn rfl (iZ _ _ H.ro _ 25) rfl ?_;clear H;rintro v26 _ a w ⟨rfl,rfl⟩ - H;refine kH H (ak K9 rfl ?_);clear H K9;intro a H;refine lr H results91 rfl ?_
   exact H.rt ⟨ay vi (by unfold nT;(repeat' split) <;> first|rfl|(simp_all;done)|(exfalso;simp_all;done)|(congr 1;rw [ng];simp only [sI,rJ,pz];exact ⟨fun h=>⟨p31,h⟩,fun h=>h.2⟩)),rfl⟩
  intro gy a H
  try have qC:=dF gy
  refine kP H (Kc K7 (SR fun _ aT=>Rm rfl (Rc rfl (Rm rfl (Sp 16 rfl ?_ ?_))))) <;> clear H K7
  ·intro h16 a H
   try have p16:=dT h16
   refine kH H (YM h16 rfl ?_);clear H;intro a H;refine rW H (wg H rfl rfl h16) rfl rfl ?_;clear H;intro a H;refine kH H (YF GK h16 rfl (YR Iw h16 rfl (by assumption) ?_));clear H;intro a H;refine kH H (YM h16 rfl ?_);clear H;intro a H;refine yh (zv:=vi 0) Ep nG (by kernel_rfl) H (wg H rfl rfl h16) rfl rfl (H.ro _ _ hck.sty) rfl ?_;clear H;intro a H;rw [Ie] at H;refine kH H (YM h16 rfl (YC h16 rfl (Pt h16 rfl ?_)));clear H;intro a H;refine s_call iW H wn rfl (iZ _ _ H.ro _ 25) rfl ?_;clear H;rintro v26 _ a w ⟨rfl,rfl⟩ - H;refine kH H (ak aT rfl ?_);clear H aT;intro a H;refine lr H results91 rfl ?_
   exact H.rt ⟨ay vi (by unfold nT;(repeat' split) <;> first|rfl|(simp_all;done)|(exfalso;simp_all;done)|(congr 1;rw [ng];simp only [sI,rJ,pz];exact ⟨fun h=>⟨p31,h⟩,fun h=>h.2⟩)),rfl⟩
  intro h16 a H
  try have p16:=dF h16
  refine kH H (aX h16 rfl (aX h16 rfl (aQ h16 rfl (Pf h16 rfl ?_))));clear H;intro a H;refine s_call iW H wn rfl (iZ _ _ H.ro _ 25) rfl ?_;clear H;rintro v26 _ a w ⟨rfl,rfl⟩ - H;refine kH H (ak aT rfl ?_);clear H aT;intro a H;refine lr H results91 rfl ?_
  exact H.rt ⟨ay vi (by unfold nT;(repeat' split) <;> first|rfl|(simp_all;done)|(exfalso;simp_all;done)|(congr 1;rw [ng];simp only [sI,rJ,pz];exact ⟨fun h=>⟨p31,h⟩,fun h=>h.2⟩)),rfl⟩
 intro h9 a H
 try have p9:=dF h9
 refine kP H (SC (Rc rfl (aU K4 rfl (Cd rfl ?_ ?_)))) <;> clear H K4
 ·intro h9 a H
  try have p9:=dT h9
  refine kP H (SR fun _ bq=>ak bq rfl (SQ fun _ bF=>SR fun _ bJ=>Rm rfl (Rc rfl (Kz bJ (Cd rfl ?_ ?_))))) <;> clear H bq bJ
  ·intro gy a H
   try have qC:=dT gy
   refine kP H (SC (aU bF rfl (SR fun _ bN=>Rm rfl (Rc rfl (Rm rfl (Sp 16 rfl ?_ ?_)))))) <;> clear H bF
   ·intro h16 a H
    try have p16:=dT h16
    refine kH H (YM h16 rfl ?_);clear H;intro a H;refine rW H (wg H rfl rfl h16) rfl rfl ?_;clear H;intro a H;refine kH H (YF GK h16 rfl (YR Iw h16 rfl (by assumption) ?_));clear H;intro a H;refine kH H (YM h16 rfl ?_);clear H;intro a H;refine yh (zv:=vi 0) Ep nG (by kernel_rfl) H (wg H rfl rfl h16) rfl rfl (H.ro _ _ hck.sty) rfl ?_;clear H;intro a H;rw [Ie] at H;refine kH H (YM h16 rfl (YC h16 rfl (Pt h16 rfl ?_)));clear H;intro a H;refine s_call iW H wn rfl (iZ _ _ H.ro _ 25) rfl ?_;clear H;rintro v26 _ a w ⟨rfl,rfl⟩ - H;refine kH H (ak bN rfl ?_);clear H bN;intro a H;refine lr H results91 rfl ?_
    exact H.rt ⟨ay vi (by unfold nT;(repeat' split) <;> first|rfl|(simp_all;done)|(exfalso;simp_all;done)|(congr 1;rw [ng];simp only [sI,rJ,pz];exact ⟨fun h=>⟨p31,h⟩,fun h=>h.2⟩)),rfl⟩
   intro h16 a H
   try have p16:=dF h16
   refine kH H (aX h16 rfl (aX h16 rfl (aQ h16 rfl (Pf h16 rfl ?_))));clear H;intro a H;refine s_call iW H wn rfl (iZ _ _ H.ro _ 25) rfl ?_;clear H;rintro v26 _ a w ⟨rfl,rfl⟩ - H;refine kH H (ak bN rfl ?_);clear H bN;intro a H;refine lr H results91 rfl ?_
   exact H.rt ⟨ay vi (by unfold nT;(repeat' split) <;> first|rfl|(simp_all;done)|(exfalso;simp_all;done)|(congr 1;rw [ng];simp only [sI,rJ,pz];exact ⟨fun h=>⟨p31,h⟩,fun h=>h.2⟩)),rfl⟩
  intro gy a H
  try have qC:=dF gy
  refine kP H (Kc bF (SR fun _ cK=>Rm rfl (Rc rfl (Rm rfl (Sp 16 rfl ?_ ?_))))) <;> clear H bF
  ·intro h16 a H
   try have p16:=dT h16
   refine kH H (YM h16 rfl ?_);clear H;intro a H;refine rW H (wg H rfl rfl h16) rfl rfl ?_;clear H;intro a H;refine kH H (YF GK h16 rfl (YR Iw h16 rfl (by assumption) ?_));clear H;intro a H;refine kH H (YM h16 rfl ?_);clear H;intro a H;refine yh (zv:=vi 0) Ep nG (by kernel_rfl) H (wg H rfl rfl h16) rfl rfl (H.ro _ _ hck.sty) rfl ?_;clear H;intro a H;rw [Ie] at H;refine kH H (YM h16 rfl (YC h16 rfl (Pt h16 rfl ?_)));clear H;intro a H;refine s_call iW H wn rfl (iZ _ _ H.ro _ 25) rfl ?_;clear H;rintro v26 _ a w ⟨rfl,rfl⟩ - H;refine kH H (ak cK rfl ?_);clear H cK;intro a H;refine lr H results91 rfl ?_
   exact H.rt ⟨ay vi (by unfold nT;(repeat' split) <;> first|rfl|(simp_all;done)|(exfalso;simp_all;done)|(congr 1;rw [ng];simp only [sI,rJ,pz];exact ⟨fun h=>⟨p31,h⟩,fun h=>h.2⟩)),rfl⟩
  intro h16 a H
  try have p16:=dF h16
  refine kH H (aX h16 rfl (aX h16 rfl (aQ h16 rfl (Pf h16 rfl ?_))));clear H;intro a H;refine s_call iW H wn rfl (iZ _ _ H.ro _ 25) rfl ?_;clear H;rintro v26 _ a w ⟨rfl,rfl⟩ - H;refine kH H (ak cK rfl ?_);clear H cK;intro a H;refine lr H results91 rfl ?_
  exact H.rt ⟨ay vi (by unfold nT;(repeat' split) <;> first|rfl|(simp_all;done)|(exfalso;simp_all;done)|(congr 1;rw [ng];simp only [sI,rJ,pz];exact ⟨fun h=>⟨p31,h⟩,fun h=>h.2⟩)),rfl⟩
 intro h9 a H
 try have p9:=dF h9
 refine kP H (SR fun _ dw=>Rc rfl (ak dw rfl (Cd rfl ?_ ?_))) <;> clear H dw
 ·intro h27 a H
  try have p27:=dT h27
  refine kP H (SR fun _ bY=>Rm rfl (Rc rfl (Rm rfl (Sp 31 rfl ?_ ?_)))) <;> clear H
  ·intro h31 a H
   try have p31:=dT h31
   refine kH H (YM h31 rfl ?_);clear H;intro a H;refine rW H (wg H rfl rfl h31) rfl rfl ?_;clear H;intro a H;refine kH H (YF Uh h31 rfl (YR zI h31 rfl (by assumption) ?_));clear H;intro a H;refine kH H (YM h31 rfl ?_);clear H;intro a H;refine yh (zv:=.bool false) zM nG (by kernel_rfl) H (wg H rfl rfl h31) rfl rfl (H.ro _ _ hck.xX) rfl ?_;clear H;intro a H;rw [D9] at H;refine kH H (YN h31 rfl (Pt h31 rfl ?_));clear H;intro a H;refine s_call iW H wn rfl (iZ _ _ H.ro _ 26) rfl ?_;clear H;rintro v40 _ a w ⟨rfl,rfl⟩ - H;refine kH H (ak bY rfl ?_);clear H bY;intro a H;refine lr H results91 rfl ?_
   exact H.rt ⟨ay vi (by unfold nT;(repeat' split) <;> first|rfl|(simp_all;done)|(exfalso;simp_all;done)|(congr 1;rw [ng];simp only [sI,rJ,pz];exact ⟨fun h=>⟨p31,h⟩,fun h=>h.2⟩)),rfl⟩
  intro h31 a H
  try have p31:=dF h31
  refine kH H (aX h31 rfl (aQ h31 rfl (aQ h31 rfl (Pf h31 rfl ?_))));clear H;intro a H;refine s_call iW H wn rfl (iZ _ _ H.ro _ 26) rfl ?_;clear H;rintro v40 _ a w ⟨rfl,rfl⟩ - H;refine kH H (ak bY rfl ?_);clear H bY;intro a H;refine lr H results91 rfl ?_
  exact H.rt ⟨ay vi (by unfold nT;(repeat' split) <;> first|rfl|(simp_all;done)|(exfalso;simp_all;done)|(congr 1;rw [ng];simp only [sI,rJ,pz];exact ⟨fun h=>⟨p31,h⟩,fun h=>h.2⟩)),rfl⟩
 intro h27 a H
 try have p27:=dF h27
 refine kP H (Kc K2 (SR fun _ dz=>ak dz rfl ?_));clear H K2 dz;intro a H;refine lr H results91 rfl ?_
 exact H.rt ⟨ay vi (by unfold nT;(repeat' split) <;> first|rfl|(simp_all;done)|(exfalso;simp_all;done)|(congr 1;rw [ng];simp only [sI,rJ,pz];exact ⟨fun h=>⟨p31,h⟩,fun h=>h.2⟩)),rfl⟩
end
section
open Go.RowKit
section
variable {N:Nat} {D:List Deferred} {w0:World} {F:Nat→Prop} {G0 G G':GH} {L L':OL} {T:List (Nat × aj)}
variable {r:Option Nat} {P:Program} {ops:Array Oper} {Q:Exit→Act→World→Prop} {rest:List Oper} {a:Act} {w w':World}
theorem Bv {ι:Type} {Tc:List (Nat × aj)} {l:List Oper} (k:Nat) (Tv:ι→List (Nat × aj)) (Pr:ι→Prop) (_:St N D w0 F G0 G L Tc a w)
  (h1:(∀ i a w,Pr i→St N D w0 F G0 G L (Tv i++Tc) a w→WL r P ops Q (l.drop k) a w)→WL r P ops Q l a w)
  (h2:∀ i a w,Pr i→St N D w0 F G0 G L (Tv i++Tc) a w→WL r P ops Q (l.drop k) a w):WL r P ops Q l a w:=h1 h2
theorem Change.back (h:Change w w' G G' L L'):Change w w' G G L L' :=
 ⟨h.os,h.tape,h.output,h.size,h.fr,fun _ _ h=>h,fun _ _ h=>.inl h,⟨fun k o hk=>h.owns.ro k o (h.gm k o hk),h.owns.own,fun p hp=>(by
  have hs:=h.owns.sep p hp
  cases hg:G p.1 with
  | none=>rfl
  | some o=>have:=h.gm _ _ hg;rw [hs] at this;cases this),h.owns.nd⟩,h.lx⟩
theorem gH.back {R:aj→GH→OL→Prop} {R':aj→OL→Prop} (hR:∀ v G' L',R v G' L'→R' v L') {e:Ending} (h:gH w G L R e w'):gH w G L (fun v G' L'=>G=G'∧R' v L') e w':=by
 obtain ⟨v,G',L',rfl,hc,hr⟩:=h
 exact ⟨v,G,L',rfl,hc.back,rfl,hR _ _ _ hr⟩
theorem Calls.aaj {f:FuncId} {args:Array aj} {R:aj→GH→OL→Prop} {R':aj→OL→Prop} (h:Calls P f args w (gH w G L R)) (hR:∀ v G' L',R v G' L'→R' v L'):Calls P f args w (gH w G L fun v G' L'=>G=G'∧R' v L') :=
 h.mono fun _ _=>gH.back hR
theorem bE.back {R:aj→GH→Prop} {e:Ending} (h:bE w G R e w'):bE w G (fun v G'=>(∃ g,R v g)∧G=G') e w':=by
 obtain ⟨v,G',rfl,hb,hX,hr⟩:=h
 exact ⟨v,G,rfl,hb,⟨fun _ _ h=>h,fun _ _ h=>.inl h,fun k o hk=>hX.2.2 k o (hX.1 k o hk)⟩,⟨G',hr⟩,rfl⟩
theorem SA {f:FuncId} {args:Array aj} {R:aj→GH→Prop} (h:Calls P f args w (bE w G R)):Calls P f args w (bE w G fun v G'=>(∃ g,R v g)∧G=G'):=h.mono fun _ _=>bE.back
theorem gX.add {b:Nat} {o:Obj} (h:gX G ((b,o) :: L) w):Hold (G.add b o) w:=fun k o' hk=>by
 unfold GH.add at hk
 split at hk
 ·next e=>cases hk;subst e;exact h.own _ gD
 ·exact h.ro k o' hk
theorem aiF {b:Nat} {o:Obj} {R:aj→GH→Prop} {R':aj→Prop} (hO:gX G ((b,o) :: L) w) (hR:∀ v G',R v G'→R' v) {e:Ending} (h:bE w (G.add b o) R e w'):gH w G ((b,o) :: L) (fun v G' L'=>G=G'∧L'=(b,o) :: L∧R' v) e w':=by
 obtain ⟨v,G',rfl,hb,hX,hr⟩:=h
 exact ⟨v,G,_,rfl,(hO.hp.below hb).Yb,rfl,rfl,hR _ _ hr⟩
end
end
section
open Go.RowKit
theorem adL:IY prog 187 [(0,false),(1,false)]:=⟨by kernel_rfl,by kernel_rfl,by kernel_rfl,by kernel_rfl,by kernel_rfl⟩
theorem adM:IY prog 190 [(0,false),(1,false)]:=⟨by kernel_rfl,by kernel_rfl,by kernel_rfl,by kernel_rfl,by kernel_rfl⟩
theorem adN:IY prog 199 [(0,false),(1,false),(2,false),(3,true)]:=⟨by kernel_rfl,by kernel_rfl,by kernel_rfl,by kernel_rfl,by kernel_rfl⟩
theorem abM:∀ args w,(callFunc 106 args).run prog w=.ok (.enter 106 args) w:=enters func106 rfl (by kernel_rfl)
theorem vT:bW prog 27 0 0:=⟨by kernel_rfl⟩
theorem BN:bW prog 27 1 1:=⟨by kernel_rfl⟩
theorem abN:∀ args w,(callFunc 107 args).run prog w=.ok (.enter 107 args) w:=enters func107 rfl (by kernel_rfl)
theorem abO:∀ args w,(callFunc 108 args).run prog w=.ok (.enter 108 args) w:=enters func108 rfl (by kernel_rfl)
abbrev jy.cells (x:jy):List aj:=[vi x.rev,vi x.move]
abbrev jd.cells (x:jd):List aj:=[vi x.rev,vi x.key,vi x.before,.bool x.had]
theorem M5 {G:GH} {x:jy} {cs:List aj} (h:aZ G x.dat cs):cs=x.cells:=by
 simp only [jy.dat,aZ,av] at h
 obtain ⟨_,_,rfl,⟨rfl,_⟩,_,_,rfl,⟨rfl,_⟩,rfl⟩:=h
 rfl
theorem Pw {G:GH} {x:jd} {cs:List aj} (h:aZ G x.dat cs):cs=x.cells:=by
 simp only [jd.dat,aZ,av] at h
 obtain ⟨_,_,rfl,⟨rfl,_⟩,_,_,rfl,⟨rfl,_⟩,_,_,rfl,⟨rfl,_⟩,_,_,rfl,⟨rfl,_⟩,rfl⟩:=h
 rfl
theorem iF.eq_iff (a b:iF):(a.key=b.key∧a.value=b.value)↔a=b:=by cases a;cases b;simp
theorem jy.eq_iff (a b:jy):(a.rev=b.rev∧a.move=b.move)↔a=b:=by cases a;cases b;simp
theorem jd.eq_iff (a b:jd):(a.rev=b.rev∧a.key=b.key∧a.before=b.before∧a.had=b.had)↔a=b:=by cases a;cases b;simp
instance:DecidableEq iF:=fun a b=>decidable_of_iff _ (iF.eq_iff a b)
instance:DecidableEq jy:=fun a b=>decidable_of_iff _ (jy.eq_iff a b)
instance:DecidableEq jd:=fun a b=>decidable_of_iff _ (jd.eq_iff a b)
theorem ahJ (a b:iF):(!([(0,false),(1,false)].all fun o=>jV #[vi a.key,vi a.value] o == jV #[vi b.key,vi b.value] o))=!decide (a=b):=by
 have h:=iF.eq_iff a b;rw [ng]
 simp only [sI,rJ]
 rw [← h]
 simp [jV]
theorem ahH (a b:jy):(!([(0,false),(1,false)].all fun o=>jV #[vi a.rev,vi a.move] o == jV #[vi b.rev,vi b.move] o))=!decide (a=b):=by
 have h:=jy.eq_iff a b;rw [ng]
 simp only [sI,rJ]
 rw [← h]
 simp [jV]
theorem ahI (a b:jd):(!([(0,false),(1,false),(2,false),(3,true)].all fun o=>jV #[vi a.rev,vi a.key,vi a.before,.bool a.had] o == jV #[vi b.rev,vi b.key,vi b.before,.bool b.had] o))=!decide (a=b):=by
 have h:=jd.eq_iff a b;rw [ng]
 simp only [sI,rJ]
 rw [← h]
 simp [jV]
theorem adJ (G:GH) (w0:World) (hG:Hold G w0) (A B:List iF) (v u:aj) (hv:av G (.sl 2 (A.map iF.dat)) v) (hu:av G (.sl 2 (B.map iF.dat)) u) :
  Calls prog 106 #[v,u] w0 (bE w0 G fun r G'=>r=.bool (decide (A=B))):=by
 obtain ⟨vA,vc,rfl,hc1,hc2,hg⟩:=hv.slice;obtain ⟨uA,uc,rfl,hd1,hd2,hh⟩:=hu.slice;have hml:maxLen=9223372036854775807:=rfl;(iterate 2 rw [bQ] at *);refine eN [(0,_),(1,_)] func106 rfl ntmps106 rfl rfl hG ?_;intro a H;refine kP H (SR fun _ K1=>ak K1 rfl (SQ fun _ K2=>SR fun _ K3=>Rm rfl (Rl oQ rfl (Rm rfl (Rl oQ rfl (Rc rfl (Kz K3 (Cd rfl ?_ ?_)))))))) <;> clear H K1 K3
 ·intro h10 a H
  try have mD:=dT h10
  exact kP H (SR fun _ K4=>ak K4 rfl (LR results106 rfl fun H=>H.rt (aG (gL fun e=>absurd (ay List.length e) (by omega)).symm)))
 intro h10 a H
 try have mD:=dF h10
 refine kP H (Kc K2 (SQ fun _ K5=>SR fun _ K6=>Rm rfl (Rl oQ rfl (Rm rfl (Kz K6 (SB ?_))))));clear H K2 K6;intro a H;skip;refine eT (ι:=Nat × GH) (Tc:=[(0,_),(1,_),(12,_)]) (Lc:=[]) (fun gh=>[(13,vi gh.1)]) (fun gh=>[]) (fun gh=>gh.2) (fun gh=>gh.1≤A.length∧A.take gh.1=B.take gh.1∧(∀ b o,G b=some o→gh.2 b=some o)) (fun gh=>A.length - gh.1) ((0,G)) (by exact (H).sub ⟨rfl,rfl,rfl,rfl,aD⟩) ?_ ?_
 ·exact ⟨by omega,rfl,fun _ _ h=>h⟩
 clear H;intro gh a w hI H;obtain ⟨k,g⟩:=gh;dsimp only at hI H;obtain ⟨hk,hsame,hgm⟩:=hI;dsimp only [lca,bg] at H;refine kP H (SR fun _ K7=>Rc rfl (Kz K7 (SQ fun _ K8=>Cd rfl ?_ ?_))) <;> clear H K7
 ·intro dW a H
  try have mQ:=dT dW
  have hk2:k < A.length:=by omega
  have hk3:k < B.length:=by omega
  obtain ⟨b1,o1,cs1,rfl,U3,H7,hr1⟩:=hg k A[k].dat (by simp [hk2]);obtain rfl:=P9 hr1;obtain ⟨b2,o2,cs2,rfl,U4,hrow2,hr2⟩:=hh k B[k].dat (by simp [hk3]);obtain rfl:=P9 hr2;refine kP H (Kc K8 (SQ fun _ K9=>SB (SR fun _ aT=>Rm rfl (ak aT rfl (SQ fun _ bq=>?_)))));clear H K8 aT;intro a H;refine dI hmx [[],[],[0,1],[0,1,2],[],[],[4,5],[4,5,6],(ra 0 8)] [] (by kernel_rfl) [_,_,_,.agg A[k].cells.toArray,_,_,_,.agg B[k].cells.toArray,.bool (!decide (A[k]=B[k]))] H (aF (Z0 rfl (Rm rfl)) (Z0 rfl (Rm rfl)) (Z2 0 16 1 17 rfl (Ri oQ nD rfl rfl)) ?_ (aF (Z0 rfl (Rm rfl)) (Z0 rfl (Rm rfl)) (Z2 4 20 5 21 rfl (Ri oQ nD rfl rfl)) ?_ (aS ?_ bX))) ?_
  ·refine dR 2 18 rfl rfl fun _ a w G1 hG HT H fin=>?_;refine bD nD (cs:=A[k].cells) H wn rfl rfl (fun j v hj=>H.hp.aI (aK hG (aK hgm (H7 j v hj)))) rfl ?_;clear H;intro a H;exact fin H iJ rfl
  ·refine dR 6 22 rfl rfl fun _ a w G1 hG HT H fin=>?_;refine bD nD (cs:=B[k].cells) H wn rfl rfl (fun j v hj=>H.hp.aI (aK hG (aK hgm (hrow2 j v hj)))) rfl ?_;clear H;intro a H;exact fin H iJ rfl
  ·refine dG 3 19 7 23 rfl rfl fun _ a w G1 hG HT H fin=>?_;refine Qn (.inr rfl) adL H wn rfl rfl rfl rfl ?_;clear H;intro a H;exact fin H iJ (aG (ahJ A[k] B[k]))
  clear H;intro a w G gJ H hv;have H:=H.aR (hv 8 24 rfl rfl) rfl;clear hv;refine aH ⟨rfl,?_⟩;refine bq _ _ ?_;clear bq;refine kr H rfl ?_ ?_
  ·intro dD
   exact kP H (SR fun _ bF=>ak bF rfl (LR results106 rfl fun H=>H.rt (aG (gL fun e=>absurd dD (by subst e;simp)).symm)))
  intro dD
  try have jS:=dF dD
  have hsm:A[k]=B[k]:=by simpa using dD
  refine kP H (Kc K9 (SC (Rd rfl (Rm rfl ?_))));clear H K9;intro a H;refine aH ?_;refine cu ((k+1,G)) (by exact (H).sub ⟨rfl,rfl,rfl,rfl,aD⟩) ?_ ?_
  ·(try dsimp only);exact ⟨by omega,by rw [jq hk2,jq hk3,hsame,hsm],fun b o h=>gJ b o (hgm b o h)⟩
  first|omega|(dsimp only;omega)
 intro dW a H
 try have mQ:=dF dW
 refine dU ?_;refine K5 _ _ ?_;clear K5;exact kP H (SR fun _ bJ=>ak bJ rfl (LR results106 rfl fun H=>H.rt (aG (iQ (by rw [jH (by omega),jH (by omega)] at hsame;exact hsame)).symm)))
theorem adG (G:GH) (w0:World) (hG:Hold G w0) (A B:List jy) (v u:aj) (hv:av G (.sl 2 (A.map jy.dat)) v) (hu:av G (.sl 2 (B.map jy.dat)) u) :
  Calls prog 107 #[v,u] w0 (bE w0 G fun r G'=>r=.bool (decide (A=B))):=by
 obtain ⟨vA,vc,rfl,hc1,hc2,hg⟩:=hv.slice;obtain ⟨uA,uc,rfl,hd1,hd2,hh⟩:=hu.slice;have hml:maxLen=9223372036854775807:=rfl;(iterate 2 rw [bQ] at *);refine eN [(0,_),(1,_)] func107 rfl ntmps107 rfl rfl hG ?_;intro a H;refine kP H (SR fun _ K1=>ak K1 rfl (SQ fun _ K2=>SR fun _ K3=>Rm rfl (Rl qG rfl (Rm rfl (Rl qG rfl (Rc rfl (Kz K3 (Cd rfl ?_ ?_)))))))) <;> clear H K1 K3
 ·intro h10 a H
  try have mD:=dT h10
  exact kP H (SR fun _ K4=>ak K4 rfl (LR results107 rfl fun H=>H.rt (aG (gL fun e=>absurd (ay List.length e) (by omega)).symm)))
 intro h10 a H
 try have mD:=dF h10
 refine kP H (Kc K2 (SQ fun _ K5=>SR fun _ K6=>Rm rfl (Rl qG rfl (Rm rfl (Kz K6 (SB ?_))))));clear H K2 K6;intro a H;skip;refine eT (ι:=Nat × GH) (Tc:=[(0,_),(1,_),(12,_)]) (Lc:=[]) (fun gh=>[(13,vi gh.1)]) (fun gh=>[]) (fun gh=>gh.2) (fun gh=>gh.1≤A.length∧A.take gh.1=B.take gh.1∧(∀ b o,G b=some o→gh.2 b=some o)) (fun gh=>A.length - gh.1) ((0,G)) (by exact (H).sub ⟨rfl,rfl,rfl,rfl,aD⟩) ?_ ?_
 ·exact ⟨by omega,rfl,fun _ _ h=>h⟩
 clear H;intro gh a w hI H;obtain ⟨k,g⟩:=gh;dsimp only at hI H;obtain ⟨hk,hsame,hgm⟩:=hI;dsimp only [lca,bg] at H;refine kP H (SR fun _ K7=>Rc rfl (Kz K7 (SQ fun _ K8=>Cd rfl ?_ ?_))) <;> clear H K7
 ·intro dW a H
  try have mQ:=dT dW
  have hk2:k < A.length:=by omega
  have hk3:k < B.length:=by omega
  obtain ⟨b1,o1,cs1,rfl,U3,H7,hr1⟩:=hg k A[k].dat (by simp [hk2]);obtain rfl:=M5 hr1;obtain ⟨b2,o2,cs2,rfl,U4,hrow2,hr2⟩:=hh k B[k].dat (by simp [hk3]);obtain rfl:=M5 hr2;refine kP H (Kc K8 (SQ fun _ K9=>SB (SR fun _ aT=>Rm rfl (ak aT rfl (SQ fun _ bq=>?_)))));clear H K8 aT;intro a H;refine dI hmx [[],[],[0,1],[0,1,2],[],[],[4,5],[4,5,6],(ra 0 8)] [] (by kernel_rfl) [_,_,_,.agg A[k].cells.toArray,_,_,_,.agg B[k].cells.toArray,.bool (!decide (A[k]=B[k]))] H (aF (Z0 rfl (Rm rfl)) (Z0 rfl (Rm rfl)) (Z2 0 16 1 17 rfl (Ri qG vG rfl rfl)) ?_ (aF (Z0 rfl (Rm rfl)) (Z0 rfl (Rm rfl)) (Z2 4 20 5 21 rfl (Ri qG vG rfl rfl)) ?_ (aS ?_ bX))) ?_
  ·refine dR 2 18 rfl rfl fun _ a w G1 hG HT H fin=>?_;refine bD vG (cs:=A[k].cells) H wn rfl rfl (fun j v hj=>H.hp.aI (aK hG (aK hgm (H7 j v hj)))) rfl ?_;clear H;intro a H;exact fin H iJ rfl
  ·refine dR 6 22 rfl rfl fun _ a w G1 hG HT H fin=>?_;refine bD vG (cs:=B[k].cells) H wn rfl rfl (fun j v hj=>H.hp.aI (aK hG (aK hgm (hrow2 j v hj)))) rfl ?_;clear H;intro a H;exact fin H iJ rfl
  ·refine dG 3 19 7 23 rfl rfl fun _ a w G1 hG HT H fin=>?_;refine Qn (.inr rfl) adM H wn rfl rfl rfl rfl ?_;clear H;intro a H;exact fin H iJ (aG (ahH A[k] B[k]))
  clear H;intro a w G gJ H hv;have H:=H.aR (hv 8 24 rfl rfl) rfl;clear hv;refine aH ⟨rfl,?_⟩;refine bq _ _ ?_;clear bq;refine kr H rfl ?_ ?_
  ·intro dD
   exact kP H (SR fun _ bF=>ak bF rfl (LR results107 rfl fun H=>H.rt (aG (gL fun e=>absurd dD (by subst e;simp)).symm)))
  intro dD
  try have jS:=dF dD
  have hsm:A[k]=B[k]:=by simpa using dD
  refine kP H (Kc K9 (SC (Rd rfl (Rm rfl ?_))));clear H K9;intro a H;refine aH ?_;refine cu ((k+1,G)) (by exact (H).sub ⟨rfl,rfl,rfl,rfl,aD⟩) ?_ ?_
  ·(try dsimp only);exact ⟨by omega,by rw [jq hk2,jq hk3,hsame,hsm],fun b o h=>gJ b o (hgm b o h)⟩
  first|omega|(dsimp only;omega)
 intro dW a H
 try have mQ:=dF dW
 refine dU ?_;refine K5 _ _ ?_;clear K5;exact kP H (SR fun _ bJ=>ak bJ rfl (LR results107 rfl fun H=>H.rt (aG (iQ (by rw [jH (by omega),jH (by omega)] at hsame;exact hsame)).symm)))
theorem adH (G:GH) (w0:World) (hG:Hold G w0) (A B:List jd) (v u:aj) (hv:av G (.sl 4 (A.map jd.dat)) v) (hu:av G (.sl 4 (B.map jd.dat)) u) :
  Calls prog 108 #[v,u] w0 (bE w0 G fun r G'=>r=.bool (decide (A=B))):=by
 obtain ⟨vA,vc,rfl,hc1,hc2,hg⟩:=hv.slice;obtain ⟨uA,uc,rfl,hd1,hd2,hh⟩:=hu.slice;have hml:maxLen=9223372036854775807:=rfl;(iterate 2 rw [bQ] at *);refine eN [(0,_),(1,_)] func108 rfl ntmps108 rfl rfl hG ?_;intro a H;refine kP H (SR fun _ K1=>ak K1 rfl (SQ fun _ K2=>SR fun _ K3=>Rm rfl (Rl uJ rfl (Rm rfl (Rl uJ rfl (Rc rfl (Kz K3 (Cd rfl ?_ ?_)))))))) <;> clear H K1 K3
 ·intro h10 a H
  try have mD:=dT h10
  exact kP H (SR fun _ K4=>ak K4 rfl (LR results108 rfl fun H=>H.rt (aG (gL fun e=>absurd (ay List.length e) (by omega)).symm)))
 intro h10 a H
 try have mD:=dF h10
 refine kP H (Kc K2 (SQ fun _ K5=>SR fun _ K6=>Rm rfl (Rl uJ rfl (Rm rfl (Kz K6 (SB ?_))))));clear H K2 K6;intro a H;skip;refine eT (ι:=Nat × GH) (Tc:=[(0,_),(1,_),(12,_)]) (Lc:=[]) (fun gh=>[(13,vi gh.1)]) (fun gh=>[]) (fun gh=>gh.2) (fun gh=>gh.1≤A.length∧A.take gh.1=B.take gh.1∧(∀ b o,G b=some o→gh.2 b=some o)) (fun gh=>A.length - gh.1) ((0,G)) (by exact (H).sub ⟨rfl,rfl,rfl,rfl,aD⟩) ?_ ?_
 ·exact ⟨by omega,rfl,fun _ _ h=>h⟩
 clear H;intro gh a w hI H;obtain ⟨k,g⟩:=gh;dsimp only at hI H;obtain ⟨hk,hsame,hgm⟩:=hI;dsimp only [lca,bg] at H;refine kP H (SR fun _ K7=>Rc rfl (Kz K7 (SQ fun _ K8=>Cd rfl ?_ ?_))) <;> clear H K7
 ·intro dW a H
  try have mQ:=dT dW
  have hk2:k < A.length:=by omega
  have hk3:k < B.length:=by omega
  obtain ⟨b1,o1,cs1,rfl,U3,H7,hr1⟩:=hg k A[k].dat (by simp [hk2]);obtain rfl:=Pw hr1;obtain ⟨b2,o2,cs2,rfl,U4,hrow2,hr2⟩:=hh k B[k].dat (by simp [hk3]);obtain rfl:=Pw hr2;refine kP H (Kc K8 (SQ fun _ K9=>SB (SR fun _ aT=>Rm rfl (ak aT rfl (SQ fun _ bq=>?_)))));clear H K8 aT;intro a H;refine dI hmx [[],[],[0,1],[0,1,2],[],[],[4,5],[4,5,6],(ra 0 8)] [] (by kernel_rfl) [_,_,_,.agg A[k].cells.toArray,_,_,_,.agg B[k].cells.toArray,.bool (!decide (A[k]=B[k]))] H (aF (Z0 rfl (Rm rfl)) (Z0 rfl (Rm rfl)) (Z2 0 16 1 17 rfl (Ri uJ vH rfl rfl)) ?_ (aF (Z0 rfl (Rm rfl)) (Z0 rfl (Rm rfl)) (Z2 4 20 5 21 rfl (Ri uJ vH rfl rfl)) ?_ (aS ?_ bX))) ?_
  ·refine dR 2 18 rfl rfl fun _ a w G1 hG HT H fin=>?_;refine bD vH (cs:=A[k].cells) H wn rfl rfl (fun j v hj=>H.hp.aI (aK hG (aK hgm (H7 j v hj)))) rfl ?_;clear H;intro a H;exact fin H iJ rfl
  ·refine dR 6 22 rfl rfl fun _ a w G1 hG HT H fin=>?_;refine bD vH (cs:=B[k].cells) H wn rfl rfl (fun j v hj=>H.hp.aI (aK hG (aK hgm (hrow2 j v hj)))) rfl ?_;clear H;intro a H;exact fin H iJ rfl
  ·refine dG 3 19 7 23 rfl rfl fun _ a w G1 hG HT H fin=>?_;refine Qn (.inr rfl) adN H wn rfl rfl rfl rfl ?_;clear H;intro a H;exact fin H iJ (aG (ahI A[k] B[k]))
  clear H;intro a w G gJ H hv;have H:=H.aR (hv 8 24 rfl rfl) rfl;clear hv;refine aH ⟨rfl,?_⟩;refine bq _ _ ?_;clear bq;refine kr H rfl ?_ ?_
  ·intro dD
   exact kP H (SR fun _ bF=>ak bF rfl (LR results108 rfl fun H=>H.rt (aG (gL fun e=>absurd dD (by subst e;simp)).symm)))
  intro dD
  try have jS:=dF dD
  have hsm:A[k]=B[k]:=by simpa using dD
  refine kP H (Kc K9 (SC (Rd rfl (Rm rfl ?_))));clear H K9;intro a H;refine aH ?_;refine cu ((k+1,G)) (by exact (H).sub ⟨rfl,rfl,rfl,rfl,aD⟩) ?_ ?_
  ·(try dsimp only);exact ⟨by omega,by rw [jq hk2,jq hk3,hsame,hsm],fun b o h=>gJ b o (hgm b o h)⟩
  first|omega|(dsimp only;omega)
 intro dW a H
 try have mQ:=dF dW
 refine dU ?_;refine K5 _ _ ?_;clear K5;exact kP H (SR fun _ bJ=>ak bJ rfl (LR results108 rfl fun H=>H.rt (aG (iQ (by rw [jH (by omega),jH (by omega)] at hsame;exact hsame)).symm)))
theorem iE.eq_iff (a b:iE):(((a.props=b.props∧a.marks.ins=b.marks.ins)∧a.marks.move=b.marks.move)∧a.marks.cO=b.marks.cO)∧a.marks.layers=b.marks.layers↔a=b:=by
 obtain ⟨p,i,m,d,l⟩:=a;obtain ⟨p2,i2,m2,d2,l2⟩:=b
 simp [and_assoc]
instance:DecidableEq iE:=fun a b=>decidable_of_iff _ (iE.eq_iff a b)
abbrev zi (h:iE) (p d l:aj):aj:=.agg #[p,vi h.marks.ins,vi h.marks.move,d,l]
theorem adO (G:GH) (w0:World) (hG:Hold G w0) (x y:iE) (p d l p2 d2 l2:aj) (hx:jF G x p d l) (hy:jF G y p2 d2 l2) :
  Calls prog 73 #[zi x p d l,zi y p2 d2 l2] w0 (bE w0 G fun r G'=>r=.bool (decide (x=y))):=by
 obtain ⟨pA,pc,rfl,-,-,-⟩:=hx.props.slice;obtain ⟨dA,dc,rfl,-,-,-⟩:=hx.cO.slice;obtain ⟨lA,lc,rfl,-,-,-⟩:=hx.layers.slice;obtain ⟨pA2,pc2,rfl,-,-,-⟩:=hy.props.slice;obtain ⟨dA2,dc2,rfl,-,-,-⟩:=hy.cO.slice;obtain ⟨lA2,lc2,rfl,-,-,-⟩:=hy.layers.slice;have he:=iE.eq_iff x y;refine eN [(0,_),(1,_)] func73 rfl ntmps73 rfl rfl hG ?_;intro a H;refine dB (fun _ K1=>?_);refine eU (cs:=[_,_,_,_,_]) H wn rfl rfl rfl ?_;clear H;intro b2 a w hb2 H;refine eU (cs:=[_,_,_,_,_]) H wn rfl rfl rfl ?_;clear H;intro b3 a w hb3 H;refine kH H (ak K1 rfl (SR fun _ K2=>aP Dn Bt 1 rfl rfl (aP Dn Bt 0 rfl rfl ?_)));clear H K1;intro a H;refine s_call abM H wn rfl (adJ _ _ H.ro x.props y.props _ _ hx.props hy.props) rfl ?_;clear H;rintro v9 G9 a w rfl xK H;refine kH H (Rm rfl (Sp 10 rfl ?_ ?_)) <;> clear H
 ·intro h10 a H
  try have mD:=dT h10
  refine kH H (YF ug h10 rfl (YF vT h10 rfl (YO aC 1 h10 rfl (YF ug h10 rfl (YF vT h10 rfl (YO aC 0 h10 rfl (YC h10 rfl (Pt h10 rfl (Rm rfl (Sp 19 rfl ?_ ?_)))))))))) <;> clear H
  ·intro h19 a H
   try have vD:=dT h19
   refine kH H (YF ug h19 rfl (YF BN h19 rfl (YO aC 1 h19 rfl (YF ug h19 rfl (YF BN h19 rfl (YO aC 0 h19 rfl (YC h19 rfl (Pt h19 rfl (Rm rfl (Sp 28 rfl ?_ ?_)))))))))) <;> clear H
   ·intro fF a H
    try have p28:=dT fF
    refine kH H (YF ug fF rfl (YF vU fF rfl (YO wF 1 fF rfl (YF ug fF rfl (YF vU fF rfl (YO wF 0 fF rfl ?_))))));clear H;intro a H;refine s_call abN H (wg H rfl rfl fF) rfl (adG _ _ H.ro x.marks.cO y.marks.cO _ _ (hx.cO.mono xK) (hy.cO.mono xK)) rfl ?_;clear H;rintro v35 Q6 a w rfl Vf H;refine kH H (Pt fF rfl (Rm rfl (Sp 37 rfl ?_ ?_))) <;> clear H
    ·intro h37 a H
     try have p37:=dT h37
     refine kH H (YF ug h37 rfl (YF Dm h37 rfl (YO En 1 h37 rfl (YF ug h37 rfl (YF Dm h37 rfl (YO En 0 h37 rfl ?_))))));clear H;intro a H;refine s_call abO H (wg H rfl rfl h37) rfl (adH _ _ H.ro x.marks.layers y.marks.layers _ _ ((hx.layers.mono xK).mono Vf) ((hy.layers.mono xK).mono Vf)) rfl ?_;clear H;rintro v44 G44 a w rfl alp H;exact kH H (Pt h37 rfl (ak K2 rfl (LR results73 rfl fun H=>H.rt (aG (by simp_all)))))
    intro h37 a H
    try have p37:=dF h37
    exact kH H (aX h37 rfl (aQ h37 rfl (aQ h37 rfl (Pf h37 rfl (ak K2 rfl (LR results73 rfl fun H=>H.rt (aG (by simp_all))))))))
   intro fF a H
   try have p28:=dF fF
   exact kH H (aX fF rfl (aQ fF rfl (aQ fF rfl (Pf fF rfl (Rm rfl (aX rfl rfl (aQ rfl rfl (aQ rfl rfl (Pf rfl rfl (ak K2 rfl (LR results73 rfl fun H=>H.rt (aG (by simp_all)))))))))))))
  intro h19 a H
  try have vD:=dF h19
  exact kH H (aX h19 rfl (aQ h19 rfl (aQ h19 rfl (Pf h19 rfl (Rm rfl (aX rfl rfl (aQ rfl rfl (aQ rfl rfl (Pf rfl rfl (Rm rfl (aX rfl rfl (aQ rfl rfl (aQ rfl rfl (Pf rfl rfl (ak K2 rfl (LR results73 rfl fun H=>H.rt (aG (by simp_all))))))))))))))))))
 intro h10 a H
 try have mD:=dF h10
 exact kH H (aX h10 rfl (aQ h10 rfl (aQ h10 rfl (Pf h10 rfl (Rm rfl (aX rfl rfl (aQ rfl rfl (aQ rfl rfl (Pf rfl rfl (Rm rfl (aX rfl rfl (aQ rfl rfl (aQ rfl rfl (Pf rfl rfl (Rm rfl (aX rfl rfl (aQ rfl rfl (aQ rfl rfl (Pf rfl rfl (ak K2 rfl (LR results73 rfl fun H=>H.rt (aG (by simp_all)))))))))))))))))))))))
end
section
open Go.RowKit
theorem aeb:bW prog 199 0 0:=⟨by kernel_rfl⟩
theorem Ac:bW prog 199 1 1:=⟨by kernel_rfl⟩
theorem Uo:bW prog 199 3 3:=⟨by kernel_rfl⟩
theorem ER:bW prog 199 2 2:=⟨by kernel_rfl⟩
theorem Nr:∀ args w,(callFunc 91 args).run prog w=.ok (.enter 91 args) w:=enters func91 rfl (by kernel_rfl)
structure gW where
 st:List bL
 xX:List Int
 FB:List Int
abbrev aV (st:List bL) (li:List fU) (rv:List fH):gW:=⟨st,li.map fU.id,rv.map fH.id⟩
theorem V7 {G:GH} {l:List jd} {A:Option Addr} {n c k:Nat} (hv:av G (.sl 4 (l.map jd.dat)) (.slice A n c)) (hk:k < l.length):∃ b o,A=some ⟨b,o,none⟩∧(∀ j u,l[k].cells[j]?=some u→aI G b (o+k*4+j)=some u):=by
 obtain ⟨A',c',he,_,_,hg⟩:=hv.slice
 injection he with e1 e2 e3
 subst e1;obtain ⟨b,o,cs,h1,h2,h3,h4⟩:=hg k l[k].dat (by simp [hk]);have:=Pw h4;subst this;exact ⟨b,o,h1,h3⟩
theorem Tq {G:GH} {l:List jy} {A:Option Addr} {n c k:Nat} (hv:av G (.sl 2 (l.map jy.dat)) (.slice A n c)) (hk:k < l.length):∃ b o,A=some ⟨b,o,none⟩∧(∀ j u,l[k].cells[j]?=some u→aI G b (o+k*2+j)=some u):=by
 obtain ⟨A',c',he,_,_,hg⟩:=hv.slice
 injection he with e1 e2 e3
 subst e1;obtain ⟨b,o,cs,h1,h2,h3,h4⟩:=hg k l[k].dat (by simp [hk]);have:=M5 h4;subst this;exact ⟨b,o,h1,h3⟩
def AY (C:gW) (e:Int) (k:Nat) (x:jd) (pk:Int):Int :=
 if x.rev∉C.FB then 22 else if yX e x.key=false then 4 else if 0 < k∧x.key < pk then 6 else if x.had=false then bV (decide (x.before≠0)) 21 else dH [tY x.key x.before,nT C.st C.xX x.key x.before]
def D5 (C:gW) (e:Int) (l:List jd) (k:Nat):Int:=match l[k]? with|some x=>AY C e k x ((l[k - 1]?.map jd.key).getD 0)|none=>0
theorem ahd (G:GH) (w0:World) (hG:Hold G w0) (st:List bL) (li:List fU) (rv:List fH) (b ms ml mr mb mu:Nat) (n:Int) (hck:tJ G st li rv ms ml mr mu) (hb:G b=some (fO b ms ml mr mb mu n).2)
  (e:Int) (l:List jd) (v:aj) (hv:av G (.sl 4 (l.map jd.dat)) v) (k:Nat) (hk:k < l.length) :
  Calls prog 93 #[(aJ b 0),vi e,v,vi k] w0 (bE w0 G fun u G'=>u=vi (D5 (aV st li rv) e l k)):=by
 have hc2:aI G b 2=some (.map (some mr)):=by unfold aI;rw [hb];rfl
 obtain ⟨A,c,rfl,hl1,hl2,-⟩:=hv.slice;have hml:maxLen=9223372036854775807:=rfl;rw [bQ] at *;obtain ⟨xb,xo,rfl,hrow⟩:=V7 hv hk
 have hk1:k - 1 < l.length:=by omega
 obtain ⟨b',o',he',hrow'⟩:=V7 hv hk1
 injection he' with he'
 injection he' with e1 e2
 subst e1;subst e2
 have he:D5 (aV st li rv) e l k=AY (aV st li rv) e k l[k] l[k - 1].key:=by unfold D5;rw [gY hk,gY hk1];rfl
 obtain ⟨x,hx⟩:∃ x,x=l[k]:=⟨_,rfl⟩;obtain ⟨y,hy⟩:∃ y,y=l[k - 1]:=⟨_,rfl⟩;rw [← hx] at hrow he;rw [← hy] at hrow' he;have hq:=hrow' 1 _ rfl;refine eN [(0,_),(1,_),(2,_),(3,_)] func93 rfl ntmps93 rfl rfl hG ?_;intro a H;refine kP H (SR fun _ K1=>ak K1 rfl (SR fun _ K2=>Rm rfl (Rm rfl (Ri uJ vH rfl rfl ?_))));clear H K1;intro a H;refine bD vH (cs:=x.cells) H wn rfl rfl (fun j v hj=>H.hp.aI (hrow j v hj)) rfl ?_;clear H;intro a H;refine eB vH H wn rfl ?_;clear H;intro b9 a w ze H;refine bH vH 0 (vs:=[_,_,_,_]) _ H wn rfl rfl rfl rfl rfl rfl rfl rfl ?_;clear H;intro w H;dsimp only [List.set,setRow] at H;refine K2 _ _ ?_;clear K2;refine kP H (SQ fun _ K3=>SB (SQ fun _ K4=>?_));clear H;intro a H;refine dI hmx [[],[0],[0,1],[0,1,2],[],[4],(ra 0 6),(ra 0 7),(ra 0 8)] [8] (by kernel_rfl) [_,_,_,_,_,vi x.rev,.bool (decide (x.rev∈rv.map fH.id)),_] H (aF (Z0 rfl (Rm rfl)) (Z1 0 15 rfl (Rk rfl)) (Z1 1 16 rfl (Rf GL rfl)) (X1 2 17 rfl fun hG=>Rg zI rfl (aK hG hc2)) (aF (Z0 rfl (Rf aeb rfl)) (Z1 4 19 rfl (Ro aC 0 rfl)) ?_ (Z1 6 21 rfl (Rn rfl)) (aS (bK rfl) bX))) ?_
 ·refine dG 3 18 5 20 rfl rfl fun _ a w G1 hG HT H fin=>?_;refine yh (zv:=.bool false) zM nG (by kernel_rfl) H wn rfl rfl (H.ro _ _ (hG _ _ hck.rev)) rfl ?_;clear H;intro a H;rw [D9] at H;exact fin H iJ rfl
 clear H;intro a w G Ap H hv;have H:=H.aR (hv 7 22 rfl rfl) rfl;clear hv;refine kH H (Ra rfl ?_);clear H;intro a H;refine aH ⟨rfl,?_⟩;refine K4 _ _ ?_;clear K4;refine kr H rfl ?_ ?_
 ·intro dW
  try have mQ:=dT dW
  refine kP H (SR fun _ K5=>ak K5 rfl ?_);clear H K5;intro a H;refine lr H results93 rfl ?_
  exact H.rt (by rw [he];refine ay vi ?_;clear he hrow hrow' hq hx hy;unfold AY;(repeat' split) <;> first|rfl|(simp_all;done)|(exfalso;simp_all;done))
 intro dW
 try have mQ:=dF dW
 refine kP H (SR fun _ K6=>Rm rfl (aP Ac aC 0 rfl rfl ?_));clear H;intro a H;refine s_call TF H wn rfl (SA (UA _ _ H.ro e x.key)) rfl ?_;clear H;rintro v27 _ a w ⟨⟨_,rfl⟩,rfl⟩ - H;refine kH H (Rn rfl (ak K6 rfl (Cd rfl ?_ ?_))) <;> clear H K6
 ·intro h23 a H
  try have rU:=dT h23
  refine kP H (SR fun _ K7=>ak K7 rfl ?_);clear H K7;intro a H;refine lr H results93 rfl ?_
  exact H.rt (by rw [he];refine ay vi ?_;clear he hrow hrow' hq hx hy;unfold AY;(repeat' split) <;> first|rfl|(simp_all;done)|(exfalso;simp_all;done))
 intro h23 a H
 try have rU:=dF h23
 refine bA (fun _ K8=>?_);replace hq:=aK Ap hq
 by_cases c0:0 < (k:Int)
 ·skip
  by_cases c1:x.key < y.key
  ·skip;refine dI hmx [[],[0],[0,1],[0,1,2],(ra 0 4),[0,1,2],[0,1,2],[0,1,2,6],[0,1,2,5,6,7],[0,1,2,5,6,7,8],[0,1,2,5,6,7,8,9],(ra 0 11),(ra 0 12),(ra 0 13)] [13] (by kernel_rfl) [_,_,_,_,vi x.key,_,_,vi ((k - 1:Nat):Int),_,_,_,_,_] H (aF (Z0 rfl (Rm rfl)) (Z1 0 30 rfl (Rc rfl)) (Z1 1 31 rfl (Rm rfl)) (Z1 2 32 rfl (YF Ac (aB c0) rfl)) (aF (Z2 3 33 2 32 rfl (YO aC 0 (aB c0) rfl)) (Z1 2 32 rfl (YM (aB c0) rfl)) (Z1 2 32 rfl (YM (aB c0) rfl)) ?_ (aF (Z3 5 35 7 37 2 32 rfl (YI uJ vH (aB c0) rfl rfl)) (Z2 8 38 2 32 rfl (YF Ac (aB c0) rfl)) (X2 9 39 2 32 rfl fun hG=>YR aC (aB c0) rfl (aK hG hq)) (Z3 4 34 10 40 2 32 rfl (YC (aB c0) rfl)) (aS (Z2 2 32 11 41 rfl (Pt (aB c0) rfl)) (aS (bK rfl) bX))))) ?_
   ·refine dG 6 36 2 32 rfl rfl fun _ a w G1 hG HT H fin=>?_;refine mR _ H (wg H rfl rfl (aB c0)) rfl rfl rfl (by omega) (by omega) rfl ?_;clear H;intro a H;exact fin H iJ (by show _=_;first|rfl|exact ay vi (by omega))
   clear H;intro a w G gJ H hv;have H:=H.aR (hv 12 42 rfl rfl) rfl;clear hv;refine kH H (Ra rfl ?_);clear H;intro a H;refine aH ⟨rfl,?_⟩;refine K8 _ _ ?_;clear K8;refine uQ H rfl (aB c1) ?_;refine bA (fun _ K9=>?_);have hz:0 < k∧x.key < y.key:=⟨by omega,c1⟩;refine kP H (SC (aU K9 rfl ?_));clear H K9;intro a H;refine lr H results93 rfl ?_
   exact H.rt (by rw [he];refine ay vi ?_;clear he hrow hrow' hq hx hy;unfold AY;(repeat' split) <;> first|rfl|(simp_all;done)|(exfalso;simp_all;done))
  skip;refine dI hmx [[],[0],[0,1],[0,1,2],(ra 0 4),[0,1,2],[0,1,2],[0,1,2,6],[0,1,2,5,6,7],[0,1,2,5,6,7,8],[0,1,2,5,6,7,8,9],(ra 0 11),(ra 0 12),(ra 0 13)] [13] (by kernel_rfl) [_,_,_,_,vi x.key,_,_,vi ((k - 1:Nat):Int),_,_,_,_,_] H (aF (Z0 rfl (Rm rfl)) (Z1 0 30 rfl (Rc rfl)) (Z1 1 31 rfl (Rm rfl)) (Z1 2 32 rfl (YF Ac (aB c0) rfl)) (aF (Z2 3 33 2 32 rfl (YO aC 0 (aB c0) rfl)) (Z1 2 32 rfl (YM (aB c0) rfl)) (Z1 2 32 rfl (YM (aB c0) rfl)) ?_ (aF (Z3 5 35 7 37 2 32 rfl (YI uJ vH (aB c0) rfl rfl)) (Z2 8 38 2 32 rfl (YF Ac (aB c0) rfl)) (X2 9 39 2 32 rfl fun hG=>YR aC (aB c0) rfl (aK hG hq)) (Z3 4 34 10 40 2 32 rfl (YC (aB c0) rfl)) (aS (Z2 2 32 11 41 rfl (Pt (aB c0) rfl)) (aS (bK rfl) bX))))) ?_
  ·refine dG 6 36 2 32 rfl rfl fun _ a w G1 hG HT H fin=>?_;refine mR _ H (wg H rfl rfl (aB c0)) rfl rfl rfl (by omega) (by omega) rfl ?_;clear H;intro a H;exact fin H iJ (by show _=_;first|rfl|exact ay vi (by omega))
  clear H;intro a w G gJ H hv;have H:=H.aR (hv 12 42 rfl rfl) rfl;clear hv;refine kH H (Ra rfl ?_);clear H;intro a H;refine aH ⟨rfl,?_⟩;refine K8 _ _ ?_;clear K8;refine kS H rfl (aO c1) ?_;refine bA (fun _ aT=>?_)
  have hz:¬ (0 < k∧x.key < y.key):=by first|exact fun h=>c1 h.2|exact fun h=>c0 (by omega)
  refine kP H (SC (aP Uo yu 0 rfl rfl (Rn rfl (aU aT rfl (Cd rfl ?_ ?_))))) <;> clear H aT
  ·intro h43 a H
   try have p43:=dT h43
   refine kP H (SR fun _ bq=>aP ER aC 0 rfl rfl (Rc rfl ?_));clear H;intro a H;refine s_call iW H wn rfl (iZ _ _ H.ro _ 21) rfl ?_;clear H;rintro v50 _ a w ⟨rfl,rfl⟩ - H;refine kH H (ak bq rfl ?_);clear H bq;intro a H;refine lr H results93 rfl ?_
   exact H.rt (by rw [he];refine ay vi ?_;clear he hrow hrow' hq hx hy;unfold AY;(repeat' split) <;> first|rfl|(simp_all;done)|(exfalso;simp_all;done))
  intro h43 a H
  try have p43:=dF h43
  refine gI ?_;refine K3 _ _ ?_;clear K3;refine bA (fun _ bF=>?_);replace hck:=(hck.mono Ap).mono gJ;replace hb:=gJ _ _ (Ap _ _ hb);refine dI hmx [[],[0],[],[2],(ra 0 4),[],[],[6],[],[8],(ra 0 10),(ra 0 11),(ra 0 12),(ra 0 13)] [11,12,13] (by kernel_rfl) [_,vi x.key,_,vi x.before,vi (tY x.key x.before),_,_,vi x.key,_,vi x.before,vi (nT st (li.map fU.id) x.key x.before)] H (aF (Z0 rfl (Rf Ac rfl)) (Z1 0 51 rfl (Ro aC 0 rfl)) (Z0 rfl (Rf ER rfl)) (Z1 2 53 rfl (Ro aC 0 rfl)) (aF ?_ (Z0 rfl (Rm rfl)) (Z0 rfl (Rf Ac rfl)) (Z1 6 57 rfl (Ro aC 0 rfl)) (aF (Z0 rfl (Rf ER rfl)) (Z1 8 59 rfl (Ro aC 0 rfl)) ?_ (bK rfl) (aS (bK rfl) (aS (bK rfl) bX))))) ?_
  ·refine dG 1 52 3 54 rfl rfl fun _ a w G1 hG HT H fin=>?_;refine s_call Nc H wn rfl (MQ _ _ H.ro x.key x.before) rfl ?_;clear H;rintro v55 I7 a w rfl Od H;exact fin H Od (rfl)
  ·refine qg 5 56 7 58 9 60 rfl rfl fun _ a w G1 hG HT H fin=>?_;refine s_call Nr H wn rfl (MS _ _ H.ro st li rv b ms ml mr mb mu n x.key x.before (hck.mono hG) (hG _ _ hb)) rfl ?_;clear H;rintro v61 Zj a w ⟨rfl,-⟩ Oe H;exact fin H Oe (rfl)
  clear H;intro a w G oJ H hv;have H:=H.aR (hv 4 55 rfl rfl) rfl;have H:=H.aR (hv 10 61 rfl rfl) rfl;clear hv;refine gQ oF gK [_,_] [_,_] H wn rfl rfl rfl rfl rfl (by intro i q h;match i,h with|0,h=>exact h|1,h=>exact h|n+2,h=>simp at h) rfl rfl ?_;clear H;intro b62 a w afv H;obtain ⟨Zk,afT,Ox,H⟩:=H.dP;refine s_call pI H wn rfl (pJ _ _ H.ro _ _ (wE Ox)) rfl ?_;clear H;rintro v63 _ a w ⟨rfl,rfl⟩ - H;refine kH H (Ra rfl ?_);clear H;intro a H;refine aH ⟨rfl,?_⟩;refine bF _ _ ?_;clear bF;refine lr H results93 rfl ?_
  exact H.rt (by rw [he];refine ay vi ?_;clear he hrow hrow' hq hx hy;unfold AY;(repeat' split) <;> first|rfl|(simp_all;done)|(exfalso;simp_all;done))
 skip;refine dI hmx [[],[0],[0,1],[0,1,2],(ra 0 4),[0,1,2],[0,1,2],[0,1,2,6],[0,1,2,5,6,7],[0,1,2,5,6,7,8],[0,1,2,5,6,7,8,9],(ra 0 11),(ra 0 12),(ra 0 13)] [13] (by kernel_rfl) [_,_,_,undef,undef,undef,undef,undef,undef,undef,undef,undef,_] H (aF (Z0 rfl (Rm rfl)) (Z1 0 30 rfl (Rc rfl)) (Z1 1 31 rfl (Rm rfl)) (aL (j:=2) (by kernel_rfl) (fun _ _ _ _ _ h=>h) rfl rfl rfl rfl rfl (fun _ _ h=>aM h (aG (aO c0))) rfl (fun _=>rfl)) (aF (aL (j:=2) (by kernel_rfl) (fun _ _ _ _ _ h=>h) rfl rfl rfl rfl rfl (fun _ _ h=>aM h (aG (aO c0))) rfl (fun _=>rfl)) (aL (j:=2) (by kernel_rfl) (fun _ _ _ _ _ h=>h) rfl rfl rfl rfl rfl (fun _ _ h=>aM h (aG (aO c0))) rfl (fun _=>rfl)) (aL (j:=2) (by kernel_rfl) (fun _ _ _ _ _ h=>h) rfl rfl rfl rfl rfl (fun _ _ h=>aM h (aG (aO c0))) rfl (fun _=>rfl)) (aL (j:=2) (by kernel_rfl) (fun _ _ _ _ _ h=>h) rfl rfl rfl rfl rfl (fun _ _ h=>aM h (aG (aO c0))) rfl (fun _=>rfl)) (aF (aL (j:=2) (by kernel_rfl) (fun _ _ _ _ _ h=>h) rfl rfl rfl rfl rfl (fun _ _ h=>aM h (aG (aO c0))) rfl (fun _=>rfl)) (aL (j:=2) (by kernel_rfl) (fun _ _ _ _ _ h=>h) rfl rfl rfl rfl rfl (fun _ _ h=>aM h (aG (aO c0))) rfl (fun _=>rfl)) (aL (j:=2) (by kernel_rfl) (fun _ _ _ _ _ h=>h) rfl rfl rfl rfl rfl (fun _ _ h=>aM h (aG (aO c0))) rfl (fun _=>rfl)) (aL (j:=2) (by kernel_rfl) (fun _ _ _ _ _ h=>h) rfl rfl rfl rfl rfl (fun _ _ h=>aM h (aG (aO c0))) rfl (fun _=>rfl)) (aS (Z2 2 32 11 41 rfl (Pf (aO c0) rfl)) (aS (bK rfl) bX))))) ?_
 clear H;intro a w G gJ H hv;have H:=H.aR (hv 12 42 rfl rfl) rfl;clear hv;refine kH H (Ra rfl ?_);clear H;intro a H;refine aH ⟨rfl,?_⟩;refine K8 _ _ ?_;clear K8;refine kS H rfl rfl ?_;refine bA (fun _ bJ=>?_)
 have hz:¬ (0 < k∧x.key < y.key):=by first|exact fun h=>c1 h.2|exact fun h=>c0 (by omega)
 refine kP H (SC (aP Uo yu 0 rfl rfl (Rn rfl (aU bJ rfl (Cd rfl ?_ ?_))))) <;> clear H bJ
 ·intro h43 a H
  try have p43:=dT h43
  refine kP H (SR fun _ bN=>aP ER aC 0 rfl rfl (Rc rfl ?_));clear H;intro a H;refine s_call iW H wn rfl (iZ _ _ H.ro _ 21) rfl ?_;clear H;rintro v50 _ a w ⟨rfl,rfl⟩ - H;refine kH H (ak bN rfl ?_);clear H bN;intro a H;refine lr H results93 rfl ?_
  exact H.rt (by rw [he];refine ay vi ?_;clear he hrow hrow' hq hx hy;unfold AY;(repeat' split) <;> first|rfl|(simp_all;done)|(exfalso;simp_all;done))
 intro h43 a H
 try have p43:=dF h43
 refine gI ?_;refine K3 _ _ ?_;clear K3;refine bA (fun _ cK=>?_);replace hck:=(hck.mono Ap).mono gJ;replace hb:=gJ _ _ (Ap _ _ hb);refine dI hmx [[],[0],[],[2],(ra 0 4),[],[],[6],[],[8],(ra 0 10),(ra 0 11),(ra 0 12),(ra 0 13)] [11,12,13] (by kernel_rfl) [_,vi x.key,_,vi x.before,vi (tY x.key x.before),_,_,vi x.key,_,vi x.before,vi (nT st (li.map fU.id) x.key x.before)] H (aF (Z0 rfl (Rf Ac rfl)) (Z1 0 51 rfl (Ro aC 0 rfl)) (Z0 rfl (Rf ER rfl)) (Z1 2 53 rfl (Ro aC 0 rfl)) (aF ?_ (Z0 rfl (Rm rfl)) (Z0 rfl (Rf Ac rfl)) (Z1 6 57 rfl (Ro aC 0 rfl)) (aF (Z0 rfl (Rf ER rfl)) (Z1 8 59 rfl (Ro aC 0 rfl)) ?_ (bK rfl) (aS (bK rfl) (aS (bK rfl) bX))))) ?_
 ·refine dG 1 52 3 54 rfl rfl fun _ a w G1 hG HT H fin=>?_;refine s_call Nc H wn rfl (MQ _ _ H.ro x.key x.before) rfl ?_;clear H;rintro v55 I7 a w rfl Od H;exact fin H Od (rfl)
 ·refine qg 5 56 7 58 9 60 rfl rfl fun _ a w G1 hG HT H fin=>?_;refine s_call Nr H wn rfl (MS _ _ H.ro st li rv b ms ml mr mb mu n x.key x.before (hck.mono hG) (hG _ _ hb)) rfl ?_;clear H;rintro v61 Zj a w ⟨rfl,-⟩ Oe H;exact fin H Oe (rfl)
 clear H;intro a w G oJ H hv;have H:=H.aR (hv 4 55 rfl rfl) rfl;have H:=H.aR (hv 10 61 rfl rfl) rfl;clear hv;refine gQ oF gK [_,_] [_,_] H wn rfl rfl rfl rfl rfl (by intro i q h;match i,h with|0,h=>exact h|1,h=>exact h|n+2,h=>simp at h) rfl rfl ?_;clear H;intro b62 a w afv H;obtain ⟨Zk,afT,Ox,H⟩:=H.dP;refine s_call pI H wn rfl (pJ _ _ H.ro _ _ (wE Ox)) rfl ?_;clear H;rintro v63 _ a w ⟨rfl,rfl⟩ - H;refine kH H (Ra rfl ?_);clear H;intro a H;refine aH ⟨rfl,?_⟩;refine cK _ _ ?_;clear cK;refine lr H results93 rfl ?_
 exact H.rt (by rw [he];refine ay vi ?_;clear he hrow hrow' hq hx hy;unfold AY;(repeat' split) <;> first|rfl|(simp_all;done)|(exfalso;simp_all;done))
end
section
open Go.RowKit
theorem FI:Ty prog 140 1 8 [.pointer none] false:=⟨by kernel_rfl,by kernel_rfl⟩
theorem adz:∀ args w,(callFunc 93 args).run prog w=.ok (.enter 93 args) w:=enters func93 rfl (by kernel_rfl)
theorem FL:Ty prog 27 4 64 [.int .i64 0,.int .i64 0,.slice none 0 0,.slice none 0 0] true:=⟨by kernel_rfl,by kernel_rfl⟩
theorem GN:bW prog 190 0 0:=⟨by kernel_rfl⟩
theorem Un:bW prog 190 1 1:=⟨by kernel_rfl⟩
theorem ady:∀ args w,(callFunc 92 args).run prog w=.ok (.enter 92 args) w:=enters func92 rfl (by kernel_rfl)
theorem ahc {G:GH} {st:List bL} {li:List fU} {rv:List fH} {b ms ml mr mb mu:Nat} {n:Int} (hck:tJ G st li rv ms ml mr mu) (hb:G b=some (fO b ms ml mr mb mu n).2)
  {x3 x4 QS:Nat} {e:Int} {l:List jd} {v:aj} (h3:aI G x3 0=some (aJ b 0)) (h4:aI G x4 0=some (vi e)) (h11:aI G QS 3=some v) (hv:av G (.sl 4 (l.map jd.dat)) v) :
  rG (.func (.func 92) #[] #[(aJ x3 0),(aJ x4 0),(aJ QS 0)]) G l.length (D5 (aV st li rv) e l):=by
 intro k hk G1 w0 hm hG;refine lX (caps:=[(aJ x3 0),(aJ x4 0),(aJ QS 0)]) ady ?_;replace h3:=aK hm h3;replace h4:=aK hm h4;replace h11:=aK hm h11;replace hv:=hv.mono hm;obtain ⟨vA,vn,vc,rfl⟩:=hv.form;refine eN [(0,_),(1,_),(2,_),(3,_)] func92 rfl ntmps92 rfl rfl hG ?_;intro a H;refine kP H (SR fun _ K1=>ak K1 rfl (SR fun _ K2=>Rg FI rfl (by assumption) ?_));clear H K1;intro a H;refine kH H (Rg aC rfl (by assumption) ?_);clear H;intro a H;refine kH H (Rf Dm rfl (Rg En rfl (by assumption) ?_));clear H;intro a H;refine kH H (Rm rfl ?_);clear H;intro a H;refine s_call adz H wn rfl (ahd _ _ H.ro st li rv b ms ml mr mb mu n (hck.mono hm) (hm _ _ hb) e l _ hv k hk) rfl ?_;clear H;rintro v11 tL a w rfl AB H;exact kH H (ak K2 rfl (LR results92 rfl fun H=>H.rt rfl))
def yg (C:gW) (l:List iF):Int:=dH (l.map fun p=>nT C.st C.xX p.key p.value)
def jK (C:gW) (m:vM):Int:=if m.ins≠0∧m.ins∉C.FB then 22 else if ¬ (0≤m.move∧m.move≤1073741824)∨(m.move≠0∧m.ins=0) then 21 else if 16 < (m.cO.length:Int) then 9 else 0
def wZ (C:gW) (k:Nat) (x:jy) (pr:Int):Int:=if x.rev∉C.FB then 22 else if 0 < k∧x.rev≤pr then 6 else if ¬ (0≤x.move∧x.move≤1073741824) then 21 else 0
def wY (C:gW) (l:List jy) (k:Nat):Int:=match l[k]? with|some x=>wZ C k x ((l[k - 1]?.map jy.rev).getD 0)|none=>0
def iG (C:gW) (e:Int) (h:iE):Int:=dH [gM e h.props,yg C h.props,jK C h.marks,ko (wY C h.marks.cO) h.marks.cO.length,bV (decide (64 < (h.marks.layers.length:Int))) 9,ko (D5 C e h.marks.layers) h.marks.layers.length]
theorem afE {C:gW} {e:Int} {h:iE} (h1:gM e h.props≠0):iG C e h=gM e h.props:=by simp [iG,dH,h1]
theorem afF {C:gW} {e:Int} {h:iE} (h1:gM e h.props=0) (h2:yg C h.props≠0):iG C e h=yg C h.props:=by simp [iG,dH,h1,h2]
theorem Ay {C:gW} {e:Int} {h:iE} (h1:gM e h.props=0) (h2:yg C h.props=0) (h3:jK C h.marks≠0):iG C e h=jK C h.marks:=by simp [iG,dH,h1,h2,h3]
theorem afG {C:gW} {e:Int} {h:iE} (h1:gM e h.props=0) (h2:yg C h.props=0) (h3:jK C h.marks=0) (h4:ko (wY C h.marks.cO) h.marks.cO.length≠0):iG C e h=ko (wY C h.marks.cO) h.marks.cO.length:=by simp [iG,dH,h1,h2,h3,h4]
theorem afH {C:gW} {e:Int} {h:iE} (h1:gM e h.props=0) (h2:yg C h.props=0) (h3:jK C h.marks=0) (h4:ko (wY C h.marks.cO) h.marks.cO.length=0) (h5:64 < (h.marks.layers.length:Int)):iG C e h=9:=by simp [iG,dH,h1,h2,h3,h4,bV,h5]
theorem afI {C:gW} {e:Int} {h:iE} (h1:gM e h.props=0) (h2:yg C h.props=0) (h3:jK C h.marks=0) (h4:ko (wY C h.marks.cO) h.marks.cO.length=0) (h5:¬ 64 < (h.marks.layers.length:Int)):iG C e h=ko (D5 C e h.marks.layers) h.marks.layers.length:=by simp [iG,dH,h1,h2,h3,h4,bV,h5];exact Eq.symm
theorem Xn {C:gW} {l:List iF} {k:Nat} (h:k < l.length):dH ((l.map fun p=>nT C.st C.xX p.key p.value).drop k)=if nT C.st C.xX l[k].key l[k].value≠0 then nT C.st C.xX l[k].key l[k].value else dH ((l.map fun p=>nT C.st C.xX p.key p.value).drop (k+1)):=by
 rw [JN (by simpa using h)];simp
theorem afJ (G:GH) (w0:World) (hG:Hold G w0) (st:List bL) (li:List fU) (rv:List fH) (b ms ml mr mb mu:Nat) (n:Int) (hck:tJ G st li rv ms ml mr mu) (hb:G b=some (fO b ms ml mr mb mu n).2)
  (e:Int) (h:iE) (p d l:aj) (hh:jF G h p d l) (hz:qd h≤4294967296) :
  Calls prog 58 #[(aJ b 0),vi e,zi h p d l] w0 (bE w0 G fun u G'=>u=vi (iG (aV st li rv) e h)):=by
 obtain ⟨pA,pc,rfl,-,-,-⟩:=hh.props.slice;obtain ⟨dA,dc,rfl,-,-,-⟩:=hh.cO.slice;obtain ⟨lA,lc,rfl,-,-,-⟩:=hh.layers.slice;have hml:maxLen=9223372036854775807:=rfl;have hzz:=IJ h;have hz1:=rZ (h.props.map iF.dat);have hz2:=rZ (h.marks.cO.map jy.dat);have hz3:=rZ (h.marks.layers.map jd.dat)
 simp only [bQ] at hh hz1 hz2 hz3 ⊢
 generalize qd h=zz at hz hzz
 refine eN [(0,_),(1,_),(2,_)] func58 rfl ntmps58 rfl rfl hG ?_;intro a H;refine dB (fun _ K1=>?_);refine eU (cs:=[_]) H wn rfl rfl rfl ?_;clear H;intro b3 a w hb3 H;refine eU (cs:=[_]) H wn rfl rfl rfl ?_;clear H;intro b4 a w hb4 H;refine eU (cs:=[_,_,_,_,_]) H wn rfl rfl rfl ?_;clear H;intro b5 a w hb5 H;refine kH H (ak K1 rfl (SQ fun _ K2=>SQ fun _ K3=>?_));clear H K1;intro a H;obtain ⟨Zr,J8,za,H⟩:=H.dP;obtain ⟨Zq,Fb,uZ,H⟩:=H.dP;obtain ⟨Ga,Cj,xI,H⟩:=H.dP;replace za:=Cj _ _ (Fb _ _ za);replace uZ:=Cj _ _ uZ;have hma:∀ b o,G b=some o→Ga b=some o:=fun b o h=>Cj _ _ (Fb _ _ (J8 _ _ h));clear Cj Fb J8;replace hck:=hck.mono hma;replace hb:=hma _ _ hb;replace hh:=hh.mono hma
 have g3:aI Ga b3 0=some (aJ b 0):=by unfold aI;rw [xI];rfl
 have g4:aI Ga b4 0=some (vi e):=by unfold aI;rw [uZ];rfl
 have g50:aI Ga b5 0=some (.slice pA h.props.length pc):=by unfold aI;rw [za];rfl
 have g51:∀ (j:Nat) (u:aj),[vi h.marks.ins,vi h.marks.move,.slice dA h.marks.cO.length dc,.slice lA h.marks.layers.length lc][j]?=some u→aI Ga b5 (1+j)=some u:=by
  intro j u hj
  unfold aI;rw [za]
  match j,hj with
  | 0,hj=>exact hj
  | 1,hj=>exact hj
  | 2,hj=>exact hj
  | 3,hj=>exact hj
  | n+4,hj=>simp at hj
 have hc2:aI Ga b 2=some (.map (some mr)):=by unfold aI;rw [hb];rfl
 refine kP H (SC (Rg aC rfl (by assumption) ?_));clear H;intro a H;refine kH H (Rf Dn rfl (Rg Bt rfl (by assumption) ?_));clear H;intro a H;refine s_call Ua H wn rfl (SA (Xi _ _ H.ro e h.props _ hh.props)) rfl ?_;clear H;rintro v17 _ a w ⟨⟨_,rfl⟩,rfl⟩ - H;refine kH H (aU K3 rfl (SR fun _ K4=>Rm rfl (Rc rfl (Kz K4 (Cd rfl ?_ ?_))))) <;> clear H K3 K4
 ·intro h19 a H
  try have vD:=dT h19
  refine bA (fun _ K5=>?_);have hE:=afE (C:=aV st li rv) (e:=e) (h:=h) vD;exact kP H (SC (Rm rfl (aU K5 rfl (LR results58 rfl fun H=>H.rt (by rw [hE])))))
 intro h19 a H
 try have vD:=dF h19
 have e1:gM e h.props=0:=by simpa using vD
 refine kP H (Kc K2 (SQ fun _ K6=>SR fun _ K7=>Rf Dn rfl (Rg Bt rfl (by assumption) ?_)));clear H K2;intro a H;refine kH H (Rl oQ rfl (Rm rfl (Kz K7 (SB ?_))));clear H K7;intro a H;skip;refine eT (ι:=Nat) (Tc:=[(3,_),(4,_),(5,_),(22,_),(23,_)]) (Lc:=[]) (fun gh=>[(24,vi gh)]) (fun gh=>[]) (fun gh=>Ga) (fun gh=>gh≤h.props.length∧dH ((h.props.map fun p=>nT st (li.map fU.id) p.key p.value).drop gh)=yg (aV st li rv) h.props) (fun gh=>h.props.length - gh) (0) (by exact (H).sub ⟨rfl,rfl,rfl,rfl,rfl,rfl,aD⟩) ?_ ?_
 ·exact ⟨iy _,rfl⟩
 clear H;intro gh a w hI H;obtain ⟨k,hgh⟩:∃ x,x=gh:=⟨_,rfl⟩;subst hgh;obtain ⟨hk,heq⟩:=hI;dsimp only [lca,bg] at H;refine kP H (SR fun _ K8=>Rc rfl (Kz K8 (SQ fun _ K9=>Cd rfl ?_ ?_))) <;> clear H K8
 ·intro lQ a H
  try have p25:=dT lQ
  have hk2:k < h.props.length:=by omega
  obtain ⟨xb,xo,rfl,hrow⟩:=KO hh.props hk2;refine kP H (Kc K9 (SQ fun _ aT=>SB (SR fun _ bq=>Ri oQ nD rfl rfl ?_)));clear H K9;intro a H;refine bD nD (cs:=[_,_]) H wn rfl rfl (fun j v hj=>H.hp.aI (hrow j v hj)) rfl ?_;clear H;intro a H;refine eB nD H wn rfl ?_;clear H;intro b9 a w ze H;refine bH nD 0 (vs:=[_,_]) _ H wn rfl rfl rfl rfl rfl rfl rfl rfl ?_;clear H;intro w H;dsimp only [List.set,setRow] at H;refine bq _ _ ?_;clear bq;refine kP H (SR fun _ bF=>Rg FI rfl (by assumption) ?_);clear H;intro a H;refine kH H (aP uV aC 0 rfl rfl (aP Um aC 0 rfl rfl ?_));clear H;intro a H;refine s_call Nr H wn rfl (MS _ _ H.ro st li rv b ms ml mr mb mu n h.props[k].key h.props[k].value hck hb) rfl ?_;clear H;rintro v33 _ a w ⟨rfl,rfl⟩ - H;refine kH H (ak bF rfl (SR fun _ bJ=>Rm rfl (Rc rfl (Kz bJ (Cd rfl ?_ ?_))))) <;> clear H bF bJ
  ·intro ni a H
   try have p35:=dT ni
   refine bA (fun _ bN=>?_)
   have hr:yg (aV st li rv) h.props=nT st (li.map fU.id) h.props[k].key h.props[k].value:=by rw [← heq];exact (Xn (C:=aV st li rv) hk2).trans (au p35)
   have hE:=(afF (C:=aV st li rv) (e:=e) (h:=h) e1 (by rw [hr];exact p35)).trans hr;exact kP H (SC (Rm rfl (aU bN rfl (LR results58 rfl fun H=>H.rt (by rw [hE])))))
  intro ni a H
  try have p35:=dF ni
  refine kP H (Kc aT (SC (Rd rfl (Rm rfl ?_))));clear H aT;intro a H;refine aH ?_;refine cu ((k+1)) (by exact (H.dK (Pl:=[_]) (cB:=[]) [] (by decide) rfl).sub ⟨rfl,rfl,rfl,rfl,rfl,rfl,aD⟩) ?_ ?_
  ·exact ⟨by omega,by rw [Xn (C:=aV st li rv) hk2,ah (by simpa using p35)] at heq;exact heq⟩
  first|omega|(dsimp only;omega)
 intro lQ a H
 try have p25:=dF lQ
 refine dU ?_;refine K6 _ _ ?_;clear K6;refine bA (fun _ cK=>?_)
 have e2:yg (aV st li rv) h.props=0:=by rw [← heq,iK (by rw [bQ];omega)];rfl
 refine kP H (SC (Rf ug rfl ?_));clear H;intro a H;refine bD FL (cs:=[vi h.marks.ins,vi h.marks.move,.slice dA h.marks.cO.length dc,.slice lA h.marks.layers.length lc]) H wn rfl rfl (fun j v hj=>H.hp.aI (g51 j v hj)) rfl ?_;clear H;intro a H;refine eB FL H wn rfl ?_;clear H;intro b11 a w Dx H;refine bH FL 0 (vs:=[_,_,_,_]) _ H wn rfl rfl rfl rfl rfl rfl rfl rfl ?_;clear H;intro w H;dsimp only [List.set,setRow] at H;obtain ⟨Gb,hmb,E5,H⟩:=H.dP;replace hck:=hck.mono hmb;replace hb:=hmb _ _ hb;replace hh:=hh.mono hmb;replace g3:=aK hmb g3;replace g4:=aK hmb g4;replace hc2:=aK hmb hc2
 have q0:aI Gb b11 0=some (vi h.marks.ins):=by unfold aI;rw [E5];rfl
 have q1:aI Gb b11 1=some (vi h.marks.move):=by unfold aI;rw [E5];rfl
 have q2:aI Gb b11 2=some (.slice dA h.marks.cO.length dc):=by unfold aI;rw [E5];rfl
 have q3:aI Gb b11 3=some (.slice lA h.marks.layers.length lc):=by unfold aI;rw [E5];rfl
 have hcb:=ahc hck hb g3 g4 q3 hh.layers;refine aH ?_;refine cK _ _ ?_;clear cK;refine pF (ι:=GH) (Tc:=[(3,_),(4,_),(11,_)]) (Lc:=[]) (fun gh=>[]) (fun gh=>[]) (fun gh=>gh) (fun gh=>jK (aV st li rv) h.marks=0∧(∀ b o,Gb b=some o→gh b=some o)) (by exact (H).sub ⟨rfl,rfl,rfl,aD⟩) ?_ ?_
 ·skip;refine yP ?_;refine bA (fun _ dw=>?_)
  by_cases c0:h.marks.ins≠0
  ·skip
   by_cases c1:h.marks.ins∉rv.map fH.id
   ·skip;refine dI hmx [[],[0],[0,1],[0,1,2],(ra 0 4),(ra 0 5),(ra 0 6),(ra 0 7),(ra 0 4),[0,1,2,3,8],(ra 0 10),(ra 0 11),(ra 0 12),(ra 0 13)] [13] (by kernel_rfl) [_,_,_,_,_,(aJ b 0),_,_,_,_,.bool (decide (h.marks.ins∈rv.map fH.id)),.bool (decide (h.marks.ins∉rv.map fH.id)),_] H (aF (Z0 rfl (Rf vT rfl)) (X1 0 41 rfl fun hG=>Rg aC rfl (aK hG q0)) (Z1 1 42 rfl (Rc rfl)) (Z1 2 43 rfl (Rm rfl)) (aF (X1 3 44 rfl fun hG=>YR FI (aB c0) rfl (aK hG g3)) ?_ (Z2 5 46 3 44 rfl (YF GL (aB c0) rfl)) (X2 6 47 3 44 rfl fun hG=>YR zI (aB c0) rfl (aK hG hc2)) (aF (Z1 3 44 rfl (YF vT (aB c0) rfl)) (X2 8 49 3 44 rfl fun hG=>YR aC (aB c0) rfl (aK hG q0)) ?_ ?_ (aS (Z2 3 44 11 52 rfl (Pt (aB c0) rfl)) (aS (bK rfl) bX))))) ?_
    ·refine dG 4 45 3 44 rfl rfl fun _ a w G1 hG HT H fin=>?_;refine rW H (wg H rfl rfl (aB c0)) rfl rfl ?_;clear H;intro a H;exact fin H iJ rfl
    ·refine qg 7 48 9 50 3 44 rfl rfl fun _ a w G1 hG HT H fin=>?_;refine yh (zv:=.bool false) zM nG (by kernel_rfl) H (wg H rfl rfl (aB c0)) rfl rfl (H.ro _ _ (hG _ _ hck.rev)) rfl ?_;clear H;intro a H;rw [D9] at H;exact fin H iJ rfl
    ·refine dG 10 51 3 44 rfl rfl fun _ a w G1 hG HT H fin=>?_;refine kH H (YN (aB c0) rfl ?_);clear H;intro a H;exact fin H iJ (by show _=_;first|rfl|exact aG decide_not.symm)
    clear H;intro a w G qo H hv;have H:=H.aR (hv 12 53 rfl rfl) rfl;clear hv;refine kH H (Ra rfl ?_);clear H;intro a H;refine aH ⟨rfl,?_⟩;refine dw _ _ ?_;clear dw;refine uQ H rfl (aB c1) ?_;refine bA (fun _ bY=>?_);have e3:jK (aV st li rv) h.marks=22:=au ⟨c0,c1⟩;have hE:=(Ay (C:=aV st li rv) (e:=e) (h:=h) e1 e2 (by rw [e3];decide)).trans e3;exact kP H (SC (aU bY rfl (LR results58 rfl fun H=>H.rt (by rw [hE]))))
   skip;refine dI hmx [[],[0],[0,1],[0,1,2],(ra 0 4),(ra 0 5),(ra 0 6),(ra 0 7),(ra 0 4),[0,1,2,3,8],(ra 0 10),(ra 0 11),(ra 0 12),(ra 0 13)] [13] (by kernel_rfl) [_,_,_,_,_,(aJ b 0),_,_,_,_,.bool (decide (h.marks.ins∈rv.map fH.id)),.bool (decide (h.marks.ins∉rv.map fH.id)),_] H (aF (Z0 rfl (Rf vT rfl)) (X1 0 41 rfl fun hG=>Rg aC rfl (aK hG q0)) (Z1 1 42 rfl (Rc rfl)) (Z1 2 43 rfl (Rm rfl)) (aF (X1 3 44 rfl fun hG=>YR FI (aB c0) rfl (aK hG g3)) ?_ (Z2 5 46 3 44 rfl (YF GL (aB c0) rfl)) (X2 6 47 3 44 rfl fun hG=>YR zI (aB c0) rfl (aK hG hc2)) (aF (Z1 3 44 rfl (YF vT (aB c0) rfl)) (X2 8 49 3 44 rfl fun hG=>YR aC (aB c0) rfl (aK hG q0)) ?_ ?_ (aS (Z2 3 44 11 52 rfl (Pt (aB c0) rfl)) (aS (bK rfl) bX))))) ?_
   ·refine dG 4 45 3 44 rfl rfl fun _ a w G1 hG HT H fin=>?_;refine rW H (wg H rfl rfl (aB c0)) rfl rfl ?_;clear H;intro a H;exact fin H iJ rfl
   ·refine qg 7 48 9 50 3 44 rfl rfl fun _ a w G1 hG HT H fin=>?_;refine yh (zv:=.bool false) zM nG (by kernel_rfl) H (wg H rfl rfl (aB c0)) rfl rfl (H.ro _ _ (hG _ _ hck.rev)) rfl ?_;clear H;intro a H;rw [D9] at H;exact fin H iJ rfl
   ·refine dG 10 51 3 44 rfl rfl fun _ a w G1 hG HT H fin=>?_;refine kH H (YN (aB c0) rfl ?_);clear H;intro a H;exact fin H iJ (by show _=_;first|rfl|exact aG decide_not.symm)
   clear H;intro a w G qo H hv;have H:=H.aR (hv 12 53 rfl rfl) rfl;clear hv;refine kH H (Ra rfl ?_);clear H;intro a H;refine aH ⟨rfl,?_⟩;refine dw _ _ ?_;clear dw;refine kS H rfl (aO c1) ?_;refine bA (fun _ dz=>?_)
   have hno:¬ (h.marks.ins≠0∧h.marks.ins∉(aV st li rv).FB):=by first|exact fun h=>c1 h.2|exact fun h=>c0 h.1
   replace q0:=aK qo q0;replace q1:=aK qo q1;replace q2:=aK qo q2;refine kP H (SC (Rf BN rfl (Rg aC rfl (by assumption) ?_)));clear H;intro a H;refine s_call uU H wn rfl (vv _ _ H.ro h.marks.move 0 1073741824) rfl ?_;clear H;rintro v57 _ a w ⟨rfl,rfl⟩ - H;refine kH H (Rn rfl (Rm rfl (Sp 59 rfl ?_ ?_))) <;> clear H
   ·intro iB a H
    try have p59:=dT iB
    refine kH H (aQ iB rfl (aQ iB rfl (Ku rfl (Ku rfl (Ku rfl (Ks iB rfl (Pt iB rfl (aU dz rfl (Ct rfl rfl (SQ fun _ fC=>?_))))))))));clear H dz;intro a H
    have e3:jK (aV st li rv) h.marks=21:=by unfold jK;rw [ah hno,au (by first|(simp_all;done)|(simp_all;omega))]
    have hE:=(Ay (C:=aV st li rv) (e:=e) (h:=h) e1 e2 (by rw [e3];decide)).trans e3;exact kP H (SC (aU fC rfl (LR results58 rfl fun H=>H.rt (by rw [hE]))))
   intro iB a H
   try have p59:=dF iB
   refine kH H (YF BN iB rfl (YR aC iB rfl (by assumption) ?_));clear H;intro a H;refine kH H (YC iB rfl (YM iB rfl (Sp 63 rfl ?_ ?_))) <;> clear H
   ·intro h63 a H
    try have p63:=dT h63
    refine kH H (YF vT h63 rfl (YR aC h63 rfl (by assumption) ?_));clear H;intro a H;refine kH H (YC h63 rfl (PT iB h63 rfl (Pf iB rfl (aU dz rfl (Cd rfl ?_ ?_))))) <;> clear H dz
    ·intro fJ a H
     try have p54:=dT fJ
     refine bA (fun _ dN=>?_)
     have e3:jK (aV st li rv) h.marks=21:=by unfold jK;rw [ah hno,au (by first|(simp_all;done)|(simp_all;omega))]
     have hE:=(Ay (C:=aV st li rv) (e:=e) (h:=h) e1 e2 (by rw [e3];decide)).trans e3;exact kP H (SC (aU dN rfl (LR results58 rfl fun H=>H.rt (by rw [hE]))))
    intro fJ a H
    try have p54:=dF fJ
    refine bA (fun _ fQ=>?_)
    have hn2:¬ (¬ (0≤h.marks.move∧h.marks.move≤1073741824)∨(h.marks.move≠0∧h.marks.ins=0)):=by first|(simp_all;done)|(simp_all;omega)
    refine kP H (SC (Rf vU rfl (Rg wF rfl (by assumption) ?_)));clear H;intro a H;refine kH H (Rl qG rfl (Rc rfl (aU fQ rfl (Cd rfl ?_ ?_)))) <;> clear H fQ
    ·intro iX a H
     refine bA (fun _ iq=>?_)
     have e3:jK (aV st li rv) h.marks=9:=by unfold jK;rw [ah hno,ah hn2,au (by simpa using iX)]
     have hE:=(Ay (C:=aV st li rv) (e:=e) (h:=h) e1 e2 (by rw [e3];decide)).trans e3;exact kP H (SC (aU iq rfl (LR results58 rfl fun H=>H.rt (by rw [hE]))))
    intro iX a H
    have e3:jK (aV st li rv) h.marks=0:=by unfold jK;rw [ah hno,ah hn2,ah (by simpa using iX)]
    refine gI ?_;refine ⟨_,by exact (H).sub ⟨rfl,rfl,rfl,aD⟩,?_⟩;exact ⟨e3,qo⟩
   intro h63 a H
   try have p63:=dF h63
   refine kH H (aX h63 rfl (PF iB h63 rfl (Pf iB rfl (aU dz rfl (Cf rfl rfl (SQ fun _ jA=>?_))))));clear H dz;intro a H
   have hn2:¬ (¬ (0≤h.marks.move∧h.marks.move≤1073741824)∨(h.marks.move≠0∧h.marks.ins=0)):=by first|(simp_all;done)|(simp_all;omega)
   refine kP H (SC (Rf vU rfl (Rg wF rfl (by assumption) ?_)));clear H;intro a H;refine kH H (Rl qG rfl (Rc rfl (aU jA rfl (Cd rfl ?_ ?_)))) <;> clear H jA
   ·intro iX a H
    refine bA (fun _ jo=>?_)
    have e3:jK (aV st li rv) h.marks=9:=by unfold jK;rw [ah hno,ah hn2,au (by simpa using iX)]
    have hE:=(Ay (C:=aV st li rv) (e:=e) (h:=h) e1 e2 (by rw [e3];decide)).trans e3;exact kP H (SC (aU jo rfl (LR results58 rfl fun H=>H.rt (by rw [hE]))))
   intro iX a H
   have e3:jK (aV st li rv) h.marks=0:=by unfold jK;rw [ah hno,ah hn2,ah (by simpa using iX)]
   refine gI ?_;refine ⟨_,by exact (H).sub ⟨rfl,rfl,rfl,aD⟩,?_⟩;exact ⟨e3,qo⟩
  skip;refine dI hmx [[],[0],[0,1],[0,1,2],(ra 0 4),(ra 0 5),(ra 0 6),(ra 0 7),(ra 0 4),[0,1,2,3,8],(ra 0 10),(ra 0 11),(ra 0 12),(ra 0 13)] [13] (by kernel_rfl) [_,_,_,_,undef,undef,undef,undef,undef,undef,undef,undef,_] H (aF (Z0 rfl (Rf vT rfl)) (X1 0 41 rfl fun hG=>Rg aC rfl (aK hG q0)) (Z1 1 42 rfl (Rc rfl)) (Z1 2 43 rfl (Rm rfl)) (aF (aL (j:=3) (by kernel_rfl) (fun _ _ _ _ _ h=>h) rfl rfl rfl rfl rfl (fun _ _ h=>aM h (aG (aO c0))) rfl (fun _=>rfl)) (aL (j:=3) (by kernel_rfl) (fun _ _ _ _ _ h=>h) rfl rfl rfl rfl rfl (fun _ _ h=>aM h (aG (aO c0))) rfl (fun _=>rfl)) (aL (j:=3) (by kernel_rfl) (fun _ _ _ _ _ h=>h) rfl rfl rfl rfl rfl (fun _ _ h=>aM h (aG (aO c0))) rfl (fun _=>rfl)) (aL (j:=3) (by kernel_rfl) (fun _ _ _ _ _ h=>h) rfl rfl rfl rfl rfl (fun _ _ h=>aM h (aG (aO c0))) rfl (fun _=>rfl)) (aF (aL (j:=3) (by kernel_rfl) (fun _ _ _ _ _ h=>h) rfl rfl rfl rfl rfl (fun _ _ h=>aM h (aG (aO c0))) rfl (fun _=>rfl)) (aL (j:=3) (by kernel_rfl) (fun _ _ _ _ _ h=>h) rfl rfl rfl rfl rfl (fun _ _ h=>aM h (aG (aO c0))) rfl (fun _=>rfl)) (aL (j:=3) (by kernel_rfl) (fun _ _ _ _ _ h=>h) rfl rfl rfl rfl rfl (fun _ _ h=>aM h (aG (aO c0))) rfl (fun _=>rfl)) (aL (j:=3) (by kernel_rfl) (fun _ _ _ _ _ h=>h) rfl rfl rfl rfl rfl (fun _ _ h=>aM h (aG (aO c0))) rfl (fun _=>rfl)) (aS (Z2 3 44 11 52 rfl (Pf (aO c0) rfl)) (aS (bK rfl) bX))))) ?_
  clear H;intro a w G qo H hv;have H:=H.aR (hv 12 53 rfl rfl) rfl;clear hv;refine kH H (Ra rfl ?_);clear H;intro a H;refine aH ⟨rfl,?_⟩;refine dw _ _ ?_;clear dw;refine kS H rfl rfl ?_;refine bA (fun _ jc=>?_)
  have hno:¬ (h.marks.ins≠0∧h.marks.ins∉(aV st li rv).FB):=by first|exact fun h=>c1 h.2|exact fun h=>c0 h.1
  replace q0:=aK qo q0;replace q1:=aK qo q1;replace q2:=aK qo q2;refine kP H (SC (Rf BN rfl (Rg aC rfl (by assumption) ?_)));clear H;intro a H;refine s_call uU H wn rfl (vv _ _ H.ro h.marks.move 0 1073741824) rfl ?_;clear H;rintro v57 _ a w ⟨rfl,rfl⟩ - H;refine kH H (Rn rfl (Rm rfl (Sp 59 rfl ?_ ?_))) <;> clear H
  ·intro iB a H
   try have p59:=dT iB
   refine kH H (aQ iB rfl (aQ iB rfl (Ku rfl (Ku rfl (Ku rfl (Ks iB rfl (Pt iB rfl (aU jc rfl (Ct rfl rfl (SQ fun _ jG=>?_))))))))));clear H jc;intro a H
   have e3:jK (aV st li rv) h.marks=21:=by unfold jK;rw [ah hno,au (by first|(simp_all;done)|(simp_all;omega))]
   have hE:=(Ay (C:=aV st li rv) (e:=e) (h:=h) e1 e2 (by rw [e3];decide)).trans e3;exact kP H (SC (aU jG rfl (LR results58 rfl fun H=>H.rt (by rw [hE]))))
  intro iB a H
  try have p59:=dF iB
  refine kH H (YF BN iB rfl (YR aC iB rfl (by assumption) ?_));clear H;intro a H;refine kH H (YC iB rfl (YM iB rfl (Sp 63 rfl ?_ ?_))) <;> clear H
  ·intro h63 a H
   try have p63:=dT h63
   refine kH H (YF vT h63 rfl (YR aC h63 rfl (by assumption) ?_));clear H;intro a H;refine kH H (YC h63 rfl (PT iB h63 rfl (Pf iB rfl (aU jc rfl (Cd rfl ?_ ?_))))) <;> clear H jc
   ·intro fJ a H
    try have p54:=dT fJ
    refine bA (fun _ jM=>?_)
    have e3:jK (aV st li rv) h.marks=21:=by unfold jK;rw [ah hno,au (by first|(simp_all;done)|(simp_all;omega))]
    have hE:=(Ay (C:=aV st li rv) (e:=e) (h:=h) e1 e2 (by rw [e3];decide)).trans e3;exact kP H (SC (aU jM rfl (LR results58 rfl fun H=>H.rt (by rw [hE]))))
   intro fJ a H
   try have p54:=dF fJ
   refine bA (fun _ iI=>?_)
   have hn2:¬ (¬ (0≤h.marks.move∧h.marks.move≤1073741824)∨(h.marks.move≠0∧h.marks.ins=0)):=by first|(simp_all;done)|(simp_all;omega)
   refine kP H (SC (Rf vU rfl (Rg wF rfl (by assumption) ?_)));clear H;intro a H;refine kH H (Rl qG rfl (Rc rfl (aU iI rfl (Cd rfl ?_ ?_)))) <;> clear H iI
   ·intro iX a H
    refine bA (fun _ lU=>?_)
    have e3:jK (aV st li rv) h.marks=9:=by unfold jK;rw [ah hno,ah hn2,au (by simpa using iX)]
    have hE:=(Ay (C:=aV st li rv) (e:=e) (h:=h) e1 e2 (by rw [e3];decide)).trans e3;exact kP H (SC (aU lU rfl (LR results58 rfl fun H=>H.rt (by rw [hE]))))
   intro iX a H
   have e3:jK (aV st li rv) h.marks=0:=by unfold jK;rw [ah hno,ah hn2,ah (by simpa using iX)]
   refine gI ?_;refine ⟨_,by exact (H).sub ⟨rfl,rfl,rfl,aD⟩,?_⟩;exact ⟨e3,qo⟩
  intro h63 a H
  try have p63:=dF h63
  refine kH H (aX h63 rfl (PF iB h63 rfl (Pf iB rfl (aU jc rfl (Cf rfl rfl (SQ fun _ mJ=>?_))))));clear H jc;intro a H
  have hn2:¬ (¬ (0≤h.marks.move∧h.marks.move≤1073741824)∨(h.marks.move≠0∧h.marks.ins=0)):=by first|(simp_all;done)|(simp_all;omega)
  refine kP H (SC (Rf vU rfl (Rg wF rfl (by assumption) ?_)));clear H;intro a H;refine kH H (Rl qG rfl (Rc rfl (aU mJ rfl (Cd rfl ?_ ?_)))) <;> clear H mJ
  ·intro iX a H
   refine bA (fun _ nH=>?_)
   have e3:jK (aV st li rv) h.marks=9:=by unfold jK;rw [ah hno,ah hn2,au (by simpa using iX)]
   have hE:=(Ay (C:=aV st li rv) (e:=e) (h:=h) e1 e2 (by rw [e3];decide)).trans e3;exact kP H (SC (aU nH rfl (LR results58 rfl fun H=>H.rt (by rw [hE]))))
  intro iX a H
  have e3:jK (aV st li rv) h.marks=0:=by unfold jK;rw [ah hno,ah hn2,ah (by simpa using iX)]
  refine gI ?_;refine ⟨_,by exact (H).sub ⟨rfl,rfl,rfl,aD⟩,?_⟩;exact ⟨e3,qo⟩
 clear H;intro gh a w hI H;obtain ⟨g,hgh⟩:∃ x,x=gh:=⟨_,rfl⟩;subst hgh;obtain ⟨e3,vk⟩:=hI;replace hck:=hck.mono vk;replace hb:=vk _ _ hb;replace hh:=hh.mono vk;replace g3:=aK vk g3;replace q2:=aK vk q2;replace q3:=aK vk q3;replace hc2:=aK vk hc2;replace hcb:=hcb.mono vk;dsimp only [lca,bg] at H;refine kP H (SQ fun _ mV=>SR fun _ mK=>Rf vU rfl (Rg wF rfl (by assumption) ?_));clear H;intro a H;refine kH H (Rl qG rfl (Rm rfl (Kz mK (SB ?_))));clear H mK;intro a H;skip;refine eT (ι:=Nat × GH) (Tc:=[(3,_),(4,_),(11,_),(75,_),(76,_)]) (Lc:=[]) (fun gh=>[(77,vi gh.1)]) (fun gh=>[]) (fun gh=>gh.2) (fun gh=>gh.1≤h.marks.cO.length∧dH (((List.range h.marks.cO.length).map (wY (aV st li rv) h.marks.cO)).drop gh.1)=ko (wY (aV st li rv) h.marks.cO) h.marks.cO.length∧(∀ b o,g b=some o→gh.2 b=some o)) (fun gh=>h.marks.cO.length - gh.1) ((0,g)) (by exact (H).sub ⟨rfl,rfl,rfl,rfl,rfl,rfl,aD⟩) ?_ ?_
 ·exact ⟨iy _,rfl,fun _ _ h=>h⟩
 clear H;intro gh a w hI H;obtain ⟨k,g2⟩:=gh;dsimp only at hI H;obtain ⟨hk,heq,hgm⟩:=hI;dsimp only [lca,bg] at H;refine kP H (SR fun _ nZ=>Rc rfl (Kz nZ (SQ fun _ oV=>Cd rfl ?_ ?_))) <;> clear H nZ
 ·intro jP a H
  try have Eh:=dT jP
  have hk2:k < h.marks.cO.length:=by omega
  have hd2:=hh.cO.mono hgm;obtain ⟨xb,xo,rfl,hrow⟩:=Tq hd2 hk2
  have hk1:k - 1 < h.marks.cO.length:=by omega
  obtain ⟨b',o',he',hrow'⟩:=Tq hd2 hk1
  injection he' with he'
  injection he' with e1 e2
  subst e1;subst e2
  have hde:wY (aV st li rv) h.marks.cO k=wZ (aV st li rv) k h.marks.cO[k] h.marks.cO[k - 1].rev:=by unfold wY;rw [gY hk2,gY hk1];rfl
  have hX:∀ v,wZ (aV st li rv) k h.marks.cO[k] h.marks.cO[k - 1].rev=v→v≠0→iG (aV st li rv) e h=v:=fun v h1 h2=>by
   have h4:ko (wY (aV st li rv) h.marks.cO) h.marks.cO.length=v:=by rw [← heq,Dg hk2,hde,h1,au h2]
   exact (afG e1 e2 e3 (by rw [h4];exact h2)).trans h4
  have hp:=hrow' 0 _ rfl;have g3':=aK hgm g3;have hc2':=aK hgm hc2;have q2':=aK hgm q2;refine kP H (Kc oV (SQ fun _ nI=>SB (SR fun _ oW=>Rm rfl (Ri qG vG rfl rfl ?_))));clear H oV;intro a H;refine bD vG (cs:=h.marks.cO[k].cells) H wn rfl rfl (fun j v hj=>H.hp.aI (hrow j v hj)) rfl ?_;clear H;intro a H;refine eB vG H wn rfl ?_;clear H;intro b13 a w Ot H;refine kH H (Ra rfl ?_);clear H;intro a H;refine bH vG 0 (vs:=[_,_]) _ H wn rfl rfl rfl rfl rfl rfl rfl rfl ?_;clear H;intro w H;dsimp only [List.set,setRow] at H;refine oW _ _ ?_;clear oW;refine yP ?_;refine bA (fun _ zQ=>?_);refine dI hmx [[],[0],[0,1],[0,1,2],[],[4],(ra 0 6),(ra 0 7),(ra 0 8)] [8] (by kernel_rfl) [_,_,_,_,_,vi h.marks.cO[k].rev,.bool (decide (h.marks.cO[k].rev∈rv.map fH.id)),_] H (aF (X0 rfl fun hG=>Rg FI rfl (aK hG g3')) (Z1 0 83 rfl (Rk rfl)) (Z1 1 84 rfl (Rf GL rfl)) (X1 2 85 rfl fun hG=>Rg zI rfl (aK hG hc2')) (aF (Z0 rfl (Rf GN rfl)) (Z1 4 87 rfl (Ro aC 0 rfl)) ?_ (Z1 6 89 rfl (Rn rfl)) (aS (bK rfl) bX))) ?_
  ·refine dG 3 86 5 88 rfl rfl fun _ a w G1 hG HT H fin=>?_;refine yh (zv:=.bool false) zM nG (by kernel_rfl) H wn rfl rfl (H.ro _ _ (hG _ _ (hgm _ _ hck.rev))) rfl ?_;clear H;intro a H;rw [D9] at H;exact fin H iJ rfl
  clear H;intro a w G EU H hv;have H:=H.aR (hv 7 90 rfl rfl) rfl;clear hv;refine kH H (Ra rfl ?_);clear H;intro a H;refine aH ⟨rfl,?_⟩;refine zQ _ _ ?_;clear zQ;refine kr H rfl ?_ ?_
  ·intro uq
   refine bA (fun _ zR=>?_);have hE:=hX 22 (by unfold wZ;rw [au (by simpa using uq)]) (by decide);exact kP H (SC (aU zR rfl (LR results58 rfl fun H=>H.rt (by rw [hE]))))
  intro uq
  try have WZ:=dF uq
  have Hz:¬ (h.marks.cO[k].rev∉(aV st li rv).FB):=by simpa using uq
  refine bA (fun _ og=>?_);replace hp:=aK EU hp;replace q2':=aK EU q2'
  by_cases c3:0 < (k:Int)
  ·skip
   by_cases c4:h.marks.cO[k].rev≤h.marks.cO[k - 1].rev
   ·skip;refine dI hmx [[],[0],[0,1],[0,1,2],(ra 0 4),[0,1,2],[0,1,2,5],[0,1,2],[0,1,2,7],[0,1,2,5,6,7,8],[0,1,2,5,6,7,8,9],([0,1,2]++ra 5 6),(ra 0 12),(ra 0 13),(ra 0 14)] [14] (by kernel_rfl) [_,_,_,_,vi h.marks.cO[k].rev,_,_,_,vi ((k - 1:Nat):Int),_,_,_,_,_] H (aF (Z0 rfl (Rm rfl)) (Z1 0 92 rfl (Rc rfl)) (Z1 1 93 rfl (Rm rfl)) (Z1 2 94 rfl (YF GN (aB c3) rfl)) (aF (Z2 3 95 2 94 rfl (YO aC 0 (aB c3) rfl)) (Z1 2 94 rfl (YF vU (aB c3) rfl)) (X2 5 97 2 94 rfl fun hG=>YR wF (aB c3) rfl (aK hG q2')) (Z1 2 94 rfl (YM (aB c3) rfl)) (aF ?_ (Z3 6 98 8 100 2 94 rfl (YI qG vG (aB c3) rfl rfl)) (Z2 9 101 2 94 rfl (YF GN (aB c3) rfl)) (X2 10 102 2 94 rfl fun hG=>YR aC (aB c3) rfl (aK hG hp)) (aS (Z3 4 96 11 103 2 94 rfl (YC (aB c3) rfl)) (aS (Z2 2 94 12 104 rfl (Pt (aB c3) rfl)) (aS (bK rfl) bX)))))) ?_
    ·refine dG 7 99 2 94 rfl rfl fun _ a w G1 hG HT H fin=>?_;refine mR _ H (wg H rfl rfl (aB c3)) rfl rfl rfl (by omega) (by omega) rfl ?_;clear H;intro a H;exact fin H iJ (by show _=_;first|rfl|exact ay vi (by omega))
    clear H;intro a w G JW H hv;have H:=H.aR (hv 13 105 rfl rfl) rfl;clear hv;refine kH H (Ra rfl ?_);clear H;intro a H;refine aH ⟨rfl,?_⟩;refine og _ _ ?_;clear og;refine uQ H rfl (aB c4) ?_;refine bA (fun _ Ez=>?_);have hz:0 < k∧h.marks.cO[k].rev≤h.marks.cO[k - 1].rev:=⟨by omega,c4⟩;have hE:=hX 6 (by unfold wZ;rw [ah Hz,au hz]) (by decide);exact kP H (SC (aU Ez rfl (LR results58 rfl fun H=>H.rt (by rw [hE]))))
   skip;refine dI hmx [[],[0],[0,1],[0,1,2],(ra 0 4),[0,1,2],[0,1,2,5],[0,1,2],[0,1,2,7],[0,1,2,5,6,7,8],[0,1,2,5,6,7,8,9],([0,1,2]++ra 5 6),(ra 0 12),(ra 0 13),(ra 0 14)] [14] (by kernel_rfl) [_,_,_,_,vi h.marks.cO[k].rev,_,_,_,vi ((k - 1:Nat):Int),_,_,_,_,_] H (aF (Z0 rfl (Rm rfl)) (Z1 0 92 rfl (Rc rfl)) (Z1 1 93 rfl (Rm rfl)) (Z1 2 94 rfl (YF GN (aB c3) rfl)) (aF (Z2 3 95 2 94 rfl (YO aC 0 (aB c3) rfl)) (Z1 2 94 rfl (YF vU (aB c3) rfl)) (X2 5 97 2 94 rfl fun hG=>YR wF (aB c3) rfl (aK hG q2')) (Z1 2 94 rfl (YM (aB c3) rfl)) (aF ?_ (Z3 6 98 8 100 2 94 rfl (YI qG vG (aB c3) rfl rfl)) (Z2 9 101 2 94 rfl (YF GN (aB c3) rfl)) (X2 10 102 2 94 rfl fun hG=>YR aC (aB c3) rfl (aK hG hp)) (aS (Z3 4 96 11 103 2 94 rfl (YC (aB c3) rfl)) (aS (Z2 2 94 12 104 rfl (Pt (aB c3) rfl)) (aS (bK rfl) bX)))))) ?_
   ·refine dG 7 99 2 94 rfl rfl fun _ a w G1 hG HT H fin=>?_;refine mR _ H (wg H rfl rfl (aB c3)) rfl rfl rfl (by omega) (by omega) rfl ?_;clear H;intro a H;exact fin H iJ (by show _=_;first|rfl|exact ay vi (by omega))
   clear H;intro a w G JW H hv;have H:=H.aR (hv 13 105 rfl rfl) rfl;clear hv;refine kH H (Ra rfl ?_);clear H;intro a H;refine aH ⟨rfl,?_⟩;refine og _ _ ?_;clear og;refine kS H rfl (aO c4) ?_;refine bA (fun _ FZ=>?_)
   have hz:¬ (0 < k∧h.marks.cO[k].rev≤h.marks.cO[k - 1].rev):=by first|exact fun h=>c4 h.2|exact fun h=>c3 (by omega)
   refine kP H (SC (aP Un aC 0 rfl rfl ?_));clear H;intro a H;refine s_call uU H wn rfl (vv _ _ H.ro h.marks.cO[k].move 0 1073741824) rfl ?_;clear H;rintro v109 _ a w ⟨rfl,rfl⟩ - H;refine kH H (Rn rfl (aU FZ rfl (Cd rfl ?_ ?_))) <;> clear H FZ
   ·intro xw a H
    try have PV:=dT xw
    refine bA (fun _ I9=>?_);have hE:=hX 21 (by unfold wZ;rw [ah Hz,ah hz,au (by have h0:=xw;simp at h0;omega)]) (by decide);exact kP H (SC (aU I9 rfl (LR results58 rfl fun H=>H.rt (by rw [hE]))))
   intro xw a H
   try have PV:=dF xw
   have OC:wZ (aV st li rv) k h.marks.cO[k] h.marks.cO[k - 1].rev=0:=by unfold wZ;rw [ah Hz,ah hz,ah (by have h0:=xw;simp at h0;omega)]
   have NW:=fun b o h=>JW b o (EU b o (hgm b o h));refine kP H (Kc nI (SC (Rd rfl (Rm rfl ?_))));clear H nI;intro a H;refine aH ?_;refine cu ((k+1,G)) (by exact (H.dK (Pl:=[_]) (cB:=[]) [] (by decide) rfl).sub ⟨rfl,rfl,rfl,rfl,rfl,rfl,aD⟩) ?_ ?_
   ·(try dsimp only);exact ⟨by omega,by rw [Dg hk2,ah (by rw [hde];simpa using OC)] at heq;exact heq,NW⟩
   first|omega|(dsimp only;omega)
  skip;refine dI hmx [[],[0],[0,1],[0,1,2],(ra 0 4),[0,1,2],[0,1,2,5],[0,1,2],[0,1,2,7],[0,1,2,5,6,7,8],[0,1,2,5,6,7,8,9],([0,1,2]++ra 5 6),(ra 0 12),(ra 0 13),(ra 0 14)] [14] (by kernel_rfl) [_,_,_,undef,undef,undef,undef,undef,undef,undef,undef,undef,undef,_] H (aF (Z0 rfl (Rm rfl)) (Z1 0 92 rfl (Rc rfl)) (Z1 1 93 rfl (Rm rfl)) (aL (j:=2) (by kernel_rfl) (fun _ _ _ _ _ h=>h) rfl rfl rfl rfl rfl (fun _ _ h=>aM h (aG (aO c3))) rfl (fun _=>rfl)) (aF (aL (j:=2) (by kernel_rfl) (fun _ _ _ _ _ h=>h) rfl rfl rfl rfl rfl (fun _ _ h=>aM h (aG (aO c3))) rfl (fun _=>rfl)) (aL (j:=2) (by kernel_rfl) (fun _ _ _ _ _ h=>h) rfl rfl rfl rfl rfl (fun _ _ h=>aM h (aG (aO c3))) rfl (fun _=>rfl)) (aL (j:=2) (by kernel_rfl) (fun _ _ _ _ _ h=>h) rfl rfl rfl rfl rfl (fun _ _ h=>aM h (aG (aO c3))) rfl (fun _=>rfl)) (aL (j:=2) (by kernel_rfl) (fun _ _ _ _ _ h=>h) rfl rfl rfl rfl rfl (fun _ _ h=>aM h (aG (aO c3))) rfl (fun _=>rfl)) (aF (aL (j:=2) (by kernel_rfl) (fun _ _ _ _ _ h=>h) rfl rfl rfl rfl rfl (fun _ _ h=>aM h (aG (aO c3))) rfl (fun _=>rfl)) (aL (j:=2) (by kernel_rfl) (fun _ _ _ _ _ h=>h) rfl rfl rfl rfl rfl (fun _ _ h=>aM h (aG (aO c3))) rfl (fun _=>rfl)) (aL (j:=2) (by kernel_rfl) (fun _ _ _ _ _ h=>h) rfl rfl rfl rfl rfl (fun _ _ h=>aM h (aG (aO c3))) rfl (fun _=>rfl)) (aL (j:=2) (by kernel_rfl) (fun _ _ _ _ _ h=>h) rfl rfl rfl rfl rfl (fun _ _ h=>aM h (aG (aO c3))) rfl (fun _=>rfl)) (aS (aL (j:=2) (by kernel_rfl) (fun _ _ _ _ _ h=>h) rfl rfl rfl rfl rfl (fun _ _ h=>aM h (aG (aO c3))) rfl (fun _=>rfl)) (aS (Z2 2 94 12 104 rfl (Pf (aO c3) rfl)) (aS (bK rfl) bX)))))) ?_
  clear H;intro a w G JW H hv;have H:=H.aR (hv 13 105 rfl rfl) rfl;clear hv;refine kH H (Ra rfl ?_);clear H;intro a H;refine aH ⟨rfl,?_⟩;refine og _ _ ?_;clear og;refine kS H rfl rfl ?_;refine bA (fun _ F3=>?_)
  have hz:¬ (0 < k∧h.marks.cO[k].rev≤h.marks.cO[k - 1].rev):=by first|exact fun h=>c4 h.2|exact fun h=>c3 (by omega)
  refine kP H (SC (aP Un aC 0 rfl rfl ?_));clear H;intro a H;refine s_call uU H wn rfl (vv _ _ H.ro h.marks.cO[k].move 0 1073741824) rfl ?_;clear H;rintro v109 _ a w ⟨rfl,rfl⟩ - H;refine kH H (Rn rfl (aU F3 rfl (Cd rfl ?_ ?_))) <;> clear H F3
  ·intro xw a H
   try have PV:=dT xw
   refine bA (fun _ Ja=>?_);have hE:=hX 21 (by unfold wZ;rw [ah Hz,ah hz,au (by have h0:=xw;simp at h0;omega)]) (by decide);exact kP H (SC (aU Ja rfl (LR results58 rfl fun H=>H.rt (by rw [hE]))))
  intro xw a H
  try have PV:=dF xw
  have OC:wZ (aV st li rv) k h.marks.cO[k] h.marks.cO[k - 1].rev=0:=by unfold wZ;rw [ah Hz,ah hz,ah (by have h0:=xw;simp at h0;omega)]
  have NW:=fun b o h=>JW b o (EU b o (hgm b o h));refine kP H (Kc nI (SC (Rd rfl (Rm rfl ?_))));clear H nI;intro a H;refine aH ?_;refine cu ((k+1,G)) (by exact (H.dK (Pl:=[_]) (cB:=[]) [] (by decide) rfl).sub ⟨rfl,rfl,rfl,rfl,rfl,rfl,aD⟩) ?_ ?_
  ·(try dsimp only);exact ⟨by omega,by rw [Dg hk2,ah (by rw [hde];simpa using OC)] at heq;exact heq,NW⟩
  first|omega|(dsimp only;omega)
 intro jP a H
 try have Eh:=dF jP
 refine dU ?_;refine mV _ _ ?_;clear mV;refine bA (fun _ F4=>?_);refine bA (fun _ F5=>?_)
 have e4:ko (wY (aV st li rv) h.marks.cO) h.marks.cO.length=0:=by rw [← heq,iK (by simp;omega)];rfl
 replace q3:=aK hgm q3;refine kP H (SC (Rf Dm rfl (Rg En rfl (by assumption) ?_)));clear H;intro a H;refine kH H (Rl uJ rfl (Rc rfl (Kn F5 (Cd rfl ?_ ?_)))) <;> clear H F5
 ·intro NK a H
  try have PW:=dT NK
  refine bA (fun _ Jb=>?_);have hE:=afH (C:=aV st li rv) (e:=e) (h:=h) e1 e2 e3 e4 PW;exact kP H (SC (aU Jb rfl (LR results58 rfl fun H=>H.rt (by rw [hE]))))
 intro NK a H
 try have PW:=dF NK
 refine gI ?_;refine F4 _ _ ?_;clear F4;refine bA (fun _ Jc=>?_);have hE:=afI (C:=aV st li rv) (e:=e) (h:=h) e1 e2 e3 e4 PW;refine kP H (SC (Rf Dm rfl (Rg En rfl (by assumption) ?_)));clear H;intro a H;refine kH H (Rl uJ rfl ?_);clear H;intro a H;refine pY H wn rfl rfl ?_;clear H;intro a H;refine s_call EO H wn rfl (Gf _ _ H.ro h.marks.layers.length (D5 (aV st li rv) e h.marks.layers) _ (by omega) (hcb.mono hgm)) rfl ?_;clear H;rintro alT akG a w rfl akN H;exact kH H (aU Jc rfl (LR results58 rfl fun H=>H.rt (by rw [hE])))
end
section
open Go.RowKit
theorem Dr:bW prog 63 1 1:=⟨by kernel_rfl⟩
def codeOk (x:aA):Bool:=if x.kind=4 then decide (1≤x.code∧x.code≤3) else if x.kind=6 then decide (1≤x.code∧x.code≤2) else if x.kind=8 then decide (1≤x.code∧x.code≤4) else true
def zF (x:aA):Bool:=decide (x.kind=8∧x.code=1)
def zN (x:aA):Bool:=decide (x.kind=1∨x.kind=5) || zF x
def zu (x:aA):Bool:=decide (x.kind=6∨x.kind=7∨x.kind=8)
def yQ (x:aA):Bool:=decide (x.kind=4∨x.kind=6∨x.kind=8)
def sM (s:ByteArray):Bool:=s.toList == (⟨#[]⟩:ByteArray).toList
def vY (x:aA):Bool:=!yQ x && decide (x.code≠0) || !zu x && decide (x.id≠0) || !zN x && !sM x.text || decide (x.kind≠6) && decide (0 < (x.flow.length:Int)) || decide (x.kind≠7) && decide (0 < (x.rows.length:Int))
def jU (x:aA):Int :=
 if (!decide (1≤x.kind∧x.kind≤8) || !codeOk x)=true then 3 else if vY x=true then 15 else if qb x.text=false then 12 else if (decide (x.kind=1∨x.kind=5) && sM x.text)=true then 11
 else if (decide (x.kind=5) && decide (1024 < (x.text.size:Int)))=true then 10 else if (zF x && !pG x.text)=true then 13 else 0
theorem aeG (G:GH) (w0:World) (hG:Hold G w0) (x:aA) (p d l:aj) (fA rA:Option Addr) (fc rc:Nat) (hs:x.text.size < 4611686018427387904) :
  Calls prog 127 #[.agg #[vi x.kind,vi x.code,vi x.id,.string x.text,p,vi x.head.marks.ins,vi x.head.marks.move,d,l,.slice fA x.flow.length fc,.slice rA x.rows.length rc]] w0 (bE w0 G fun u G'=>u=vi (jU x)∧G=G'):=by
 refine eN [(0,_)] func127 rfl ntmps127 rfl rfl hG ?_;intro a H;refine dB (fun _ K1=>?_);refine eU (cs:=[_,_,_,_,_,_,_,_,_,_,_]) H wn rfl rfl rfl ?_;clear H;intro b1 a w hb1 H;refine kH H (ak K1 rfl ?_);clear H K1;intro a H;refine pF (ι:=Bool) (Tc:=[(1,_)]) (Lc:=[(_,_)]) (fun gh=>[(3,.bool gh)]) (fun gh=>[]) (fun gh=>G) (fun gh=>gh=zF x) (by exact (H).sub ⟨rfl,aD⟩) ?_ ?_
 ·skip;refine kP H (SC (aP jB aC 0 rfl rfl (Rc rfl (Rm rfl (Sp 11 rfl ?_ ?_))))) <;> clear H
  ·intro h11 a H
   try have nR:=dT h11
   refine kH H (YF Dr h11 rfl (YO aC 0 h11 rfl (YC h11 rfl (Pt h11 rfl (Ra rfl ?_)))));clear H;intro a H;refine aH ?_;refine ⟨_,by exact (H).sub ⟨rfl,rfl,aD⟩,?_⟩
   unfold zF;first|(simp_all;done)
  intro h11 a H
  try have nR:=dF h11
  refine kH H (aX h11 rfl (Pf h11 rfl (Ra rfl ?_)));clear H;intro a H;refine aH ?_;refine ⟨_,by exact (H).sub ⟨rfl,rfl,aD⟩,?_⟩
  unfold zF;first|(simp_all;done)
 clear H;intro gh a w hI H;obtain ⟨st,hgh⟩:∃ x,x=gh:=⟨_,rfl⟩;subst hgh;have hst:=hI;dsimp only [lca,bg] at H;refine pF (ι:=Bool) (Tc:=[(1,_),(3,_)]) (Lc:=[(_,_)]) (fun gh=>[(4,.bool gh)]) (fun gh=>[]) (fun gh=>G) (fun gh=>gh=zN x) (by exact (H).sub ⟨rfl,rfl,aD⟩) ?_ ?_
 ·skip;refine kP H (SC (aP jB aC 0 rfl rfl (Rc rfl (Rm rfl (Sp 19 rfl ?_ ?_))))) <;> clear H
  ·intro h19 a H
   try have vD:=dT h19
   refine kH H (aX h19 rfl (Pt h19 rfl (Rm rfl (Ks rfl rfl (Pt rfl rfl (Ra rfl ?_))))));clear H;intro a H;refine aH ?_;refine ⟨_,by exact (H).sub ⟨rfl,rfl,rfl,aD⟩,?_⟩
   unfold zN;first|(simp_all;done)
  intro h19 a H
  try have vD:=dF h19
  refine kH H (YF jB h19 rfl (YO aC 0 h19 rfl (YC h19 rfl (Pf h19 rfl (Rm rfl (Sp 24 rfl ?_ ?_)))))) <;> clear H
  ·intro dD a H
   try have jS:=dT dD
   refine kH H (Ks dD rfl (Pt dD rfl (Ra rfl ?_)));clear H;intro a H;refine aH ?_;refine ⟨_,by exact (H).sub ⟨rfl,rfl,rfl,aD⟩,?_⟩
   unfold zN;first|(simp_all;done)
  intro dD a H
  try have jS:=dF dD
  refine kH H (YM dD rfl (Pf dD rfl (Ra rfl ?_)));clear H;intro a H;refine aH ?_;refine ⟨_,by exact (H).sub ⟨rfl,rfl,rfl,aD⟩,?_⟩
  unfold zN;first|(simp_all;done)
 clear H;intro gh a w hI H;obtain ⟨wd,hgh⟩:∃ x,x=gh:=⟨_,rfl⟩;subst hgh;have hwd:=hI;dsimp only [lca,bg] at H;refine pF (ι:=Bool) (Tc:=[(1,_),(3,_),(4,_)]) (Lc:=[(_,_)]) (fun gh=>[(5,.bool gh)]) (fun gh=>[]) (fun gh=>G) (fun gh=>gh=zu x) (by exact (H).sub ⟨rfl,rfl,rfl,aD⟩) ?_ ?_
 ·skip;refine kP H (SC (aP jB aC 0 rfl rfl (Rc rfl (Rm rfl (Sp 30 rfl ?_ ?_))))) <;> clear H
  ·intro ow a H
   try have p30:=dT ow
   refine kH H (aX ow rfl (Pt ow rfl (Rm rfl (aX rfl rfl (Pt rfl rfl (Ra rfl ?_))))));clear H;intro a H;refine aH ?_;refine ⟨_,by exact (H).sub ⟨rfl,rfl,rfl,rfl,aD⟩,?_⟩
   unfold zu;first|(simp_all;done)
  intro ow a H
  try have p30:=dF ow
  refine kH H (YF jB ow rfl (YO aC 0 ow rfl (YC ow rfl (Pf ow rfl (Rm rfl (Sp 35 rfl ?_ ?_)))))) <;> clear H
  ·intro ni a H
   try have p35:=dT ni
   refine kH H (aX ni rfl (Pt ni rfl (Ra rfl ?_)));clear H;intro a H;refine aH ?_;refine ⟨_,by exact (H).sub ⟨rfl,rfl,rfl,rfl,aD⟩,?_⟩
   unfold zu;first|(simp_all;done)
  intro ni a H
  try have p35:=dF ni
  refine kH H (YF jB ni rfl (YO aC 0 ni rfl (YC ni rfl (Pf ni rfl (Ra rfl ?_)))));clear H;intro a H;refine aH ?_;refine ⟨_,by exact (H).sub ⟨rfl,rfl,rfl,rfl,aD⟩,?_⟩
  unfold zu;first|(simp_all;done)
 clear H;intro gh a w hI H;obtain ⟨nm,hgh⟩:∃ x,x=gh:=⟨_,rfl⟩;subst hgh;have hnm:=hI;dsimp only [lca,bg] at H;refine kP H (SR fun _ K2=>ak K2 rfl ?_);clear H K2;intro a H;refine pF (ι:=Bool) (Tc:=[(1,_),(3,_),(4,_),(5,_)]) (Lc:=[(_,_)]) (fun gh=>[(6,.bool gh)]) (fun gh=>[]) (fun gh=>G) (fun gh=>gh=codeOk x) (by exact (H).sub ⟨rfl,rfl,rfl,rfl,aD⟩) ?_ ?_
 ·skip;refine kP H (SR fun _ K3=>aP jB aC 0 rfl rfl (Kz K3 (SB (SR fun _ K4=>Rc rfl (ak K4 rfl (Cd rfl ?_ ?_)))))) <;> clear H K3 K4
  ·intro qP a H
   try have p42:=dT qP
   refine kP H (SC (aP Dr aC 0 rfl rfl ?_));clear H;intro a H;refine s_call uU H wn rfl (vv _ _ H.ro x.code 1 3) rfl ?_;clear H;rintro v46 _ a w ⟨rfl,rfl⟩ - H;refine kH H (Ra rfl ?_);clear H;intro a H;refine aH ?_;refine ⟨_,by exact (H).sub ⟨rfl,rfl,rfl,rfl,rfl,aD⟩,?_⟩
   unfold codeOk;first|(simp_all;done)
  intro qP a H
  try have p42:=dF qP
  refine kP H (SR fun _ K5=>Rc rfl (ak K5 rfl (Cd rfl ?_ ?_))) <;> clear H K5
  ·intro h47 a H
   try have p47:=dT h47
   refine kP H (SC (aP Dr aC 0 rfl rfl ?_));clear H;intro a H;refine s_call uU H wn rfl (vv _ _ H.ro x.code 1 2) rfl ?_;clear H;rintro v51 _ a w ⟨rfl,rfl⟩ - H;refine kH H (Ra rfl ?_);clear H;intro a H;refine aH ?_;refine ⟨_,by exact (H).sub ⟨rfl,rfl,rfl,rfl,rfl,aD⟩,?_⟩
   unfold codeOk;first|(simp_all;done)
  intro h47 a H
  try have p47:=dF h47
  refine kP H (SR fun _ K6=>Rc rfl (ak K6 rfl (Cd rfl ?_ ?_))) <;> clear H K6
  ·intro nk a H
   try have p52:=dT nk
   refine kP H (SC (aP Dr aC 0 rfl rfl ?_));clear H;intro a H;refine s_call uU H wn rfl (vv _ _ H.ro x.code 1 4) rfl ?_;clear H;rintro v56 _ a w ⟨rfl,rfl⟩ - H;refine kH H (Ra rfl ?_);clear H;intro a H;refine aH ?_;refine ⟨_,by exact (H).sub ⟨rfl,rfl,rfl,rfl,rfl,aD⟩,?_⟩
   unfold codeOk;first|(simp_all;done)
  intro nk a H
  try have p52:=dF nk
  refine gI ?_;refine ⟨_,by exact (H).sub ⟨rfl,rfl,rfl,rfl,rfl,aD⟩,?_⟩
  unfold codeOk;first|(simp_all;done)
 clear H;intro gh a w hI H;obtain ⟨ck,hgh⟩:∃ x,x=gh:=⟨_,rfl⟩;subst hgh;have hck:=hI;dsimp only [lca,bg] at H;refine pF (ι:=Bool) (Tc:=[(1,_),(3,_),(4,_),(5,_),(6,_)]) (Lc:=[(_,_)]) (fun gh=>[(7,.bool gh)]) (fun gh=>[]) (fun gh=>G) (fun gh=>gh=yQ x) (by exact (H).sub ⟨rfl,rfl,rfl,rfl,rfl,aD⟩) ?_ ?_
 ·skip;refine kP H (SC (aP jB aC 0 rfl rfl (Rc rfl (Rm rfl (Sp 60 rfl ?_ ?_))))) <;> clear H
  ·intro jg a H
   try have p60:=dT jg
   refine kH H (aX jg rfl (Pt jg rfl (Rm rfl (aX rfl rfl (Pt rfl rfl (Ra rfl ?_))))));clear H;intro a H;refine aH ?_;refine ⟨_,by exact (H).sub ⟨rfl,rfl,rfl,rfl,rfl,rfl,aD⟩,?_⟩
   unfold yQ;first|(simp_all;done)
  intro jg a H
  try have p60:=dF jg
  refine kH H (YF jB jg rfl (YO aC 0 jg rfl (YC jg rfl (Pf jg rfl (Rm rfl (Sp 65 rfl ?_ ?_)))))) <;> clear H
  ·intro qQ a H
   try have p65:=dT qQ
   refine kH H (aX qQ rfl (Pt qQ rfl (Ra rfl ?_)));clear H;intro a H;refine aH ?_;refine ⟨_,by exact (H).sub ⟨rfl,rfl,rfl,rfl,rfl,rfl,aD⟩,?_⟩
   unfold yQ;first|(simp_all;done)
  intro qQ a H
  try have p65:=dF qQ
  refine kH H (YF jB qQ rfl (YO aC 0 qQ rfl (YC qQ rfl (Pf qQ rfl (Ra rfl ?_)))));clear H;intro a H;refine aH ?_;refine ⟨_,by exact (H).sub ⟨rfl,rfl,rfl,rfl,rfl,rfl,aD⟩,?_⟩
  unfold yQ;first|(simp_all;done)
 clear H;intro gh a w hI H;obtain ⟨cd,hgh⟩:∃ x,x=gh:=⟨_,rfl⟩;subst hgh;have hcd:=hI;dsimp only [lca,bg] at H;refine kP H (SQ fun _ K7=>SB (SR fun _ K8=>?_));clear H;intro a H;refine Bv (ι:=Bool) (Tc:=[(1,_),(3,_),(4,_),(5,_),(7,_)]) 8 (fun (q0:Bool)=>[(78,.bool q0)]) (fun (q0:Bool)=>q0=(!decide (1≤x.kind∧x.kind≤8) || !codeOk x)) (by exact H.sub ⟨rfl,rfl,rfl,rfl,rfl,aD⟩) ?_ ?_
 ·intro UR;refine kH H (aP jB aC 0 rfl rfl ?_);clear H;intro a H;refine s_call uU H wn rfl (vv _ _ H.ro x.kind 1 8) rfl ?_;clear H;rintro v73 _ a w ⟨rfl,rfl⟩ - H;refine kH H (Rn rfl (Rm rfl (Sp 75 rfl ?_ ?_))) <;> clear H
  ·intro BZ a H
   try have p75:=dT BZ
   refine kH H (aQ BZ rfl (Pt BZ rfl ?_));clear H;intro a H;refine UR (_) _ _ ?_ (by exact H.sub ⟨rfl,rfl,rfl,rfl,rfl,rfl,aD⟩);rw [← hck];clear hst hwd hnm hck hcd;(try clear hq1);(try clear hq2);(try clear hq3);(try clear hq0);(try clear hq4);(try clear mh);(try clear mo);(try clear mq);simp_all
  intro BZ a H
  try have p75:=dF BZ
  refine kH H (YM BZ rfl (YN BZ rfl (Pf BZ rfl ?_)));clear H;intro a H;refine UR (_) _ _ ?_ (by exact H.sub ⟨rfl,rfl,rfl,rfl,rfl,rfl,aD⟩);rw [← hck];clear hst hwd hnm hck hcd;(try clear hq1);(try clear hq2);(try clear hq3);(try clear hq0);(try clear hq4);(try clear mh);(try clear mo);(try clear mq);simp_all
 clear H;intro q0 a w hI H;dsimp only [lca,bg] at H;simp only [zW,uP];have hq0:=hI;refine kH H (ak K8 rfl (Cd rfl ?_ ?_)) <;> clear H K8
 ·intro oz a H
  refine bA (fun _ K9=>?_)
  have e:jU x=3:=by unfold jU;rw [au (by rw [← hq0];exact oz)]
  exact kP H (SC (aU K9 rfl (LR results127 rfl fun H=>H.rt ⟨by rw [e],rfl⟩)))
 intro oz a H
 try have p70:=dF oz
 have f0:¬ (!decide (1≤x.kind∧x.kind≤8) || !codeOk x)=true:=by rw [← hq0,oz];decide
 refine dB (fun _ aT=>?_);refine Bv (ι:=Bool) (Tc:=[(1,_),(3,_),(4,_),(5,_)]) 7 (fun (q1:Bool)=>[(86,.bool q1)]) (fun (q1:Bool)=>q1=(!yQ x && decide (x.code≠0))) (by exact H.sub ⟨rfl,rfl,rfl,rfl,aD⟩) ?_ ?_
 ·intro UU;refine kH H (Rm rfl (Rn rfl (Rm rfl (Sp 82 rfl ?_ ?_)))) <;> clear H
  ·intro uq a H
   try have WZ:=dT uq
   refine kH H (YF Dr uq rfl (YO aC 0 uq rfl (YC uq rfl (Pt uq rfl ?_))));clear H;intro a H;refine UU (_) _ _ ?_ (by exact H.sub ⟨rfl,rfl,rfl,rfl,rfl,aD⟩);rw [← hcd];clear hst hwd hnm hck hcd;(try clear hq1);(try clear hq2);(try clear hq3);(try clear hq0);(try clear hq4);(try clear mh);(try clear mo);(try clear mq);simp_all
  intro uq a H
  try have WZ:=dF uq
  refine kH H (aX uq rfl (Pf uq rfl ?_));clear H;intro a H;refine UU (_) _ _ ?_ (by exact H.sub ⟨rfl,rfl,rfl,rfl,rfl,aD⟩);rw [← hcd];clear hst hwd hnm hck hcd;(try clear hq1);(try clear hq2);(try clear hq3);(try clear hq0);(try clear hq4);(try clear mh);(try clear mo);(try clear mq);simp_all
 clear H;intro q1 a w hI H;dsimp only [lca,bg] at H;simp only [zW,uP];have hq1:=hI;refine Bv (ι:=Bool) (Tc:=[(1,_),(3,_),(4,_)]) 9 (fun (q2:Bool)=>[(95,.bool q2)]) (fun (q2:Bool)=>q2=(q1 || !zu x && decide (x.id≠0))) (by exact H.sub ⟨rfl,rfl,rfl,aD⟩) ?_ ?_
 ·intro Ol;refine kH H (Rm rfl (Sp 87 rfl ?_ ?_)) <;> clear H
  ·intro h87 a H
   try have Ij:=dT h87
   refine kH H (aX h87 rfl (Ku rfl (Ku rfl (Ku rfl (Ks h87 rfl (Pt h87 rfl ?_))))));clear H;intro a H;refine Ol (_) _ _ ?_ (by exact H.sub ⟨rfl,rfl,rfl,rfl,aD⟩);rw [← hnm];clear hst hwd hnm hck hcd;(try clear hq1);(try clear hq2);(try clear hq3);(try clear hq0);(try clear hq4);(try clear mh);(try clear mo);(try clear mq);simp_all
  intro h87 a H
  try have Ij:=dF h87
  refine kH H (YM h87 rfl (YN h87 rfl (YM h87 rfl (Sp 90 rfl ?_ ?_)))) <;> clear H
  ·intro jC a H
   try have Fx:=dT jC
   refine kH H (YF Af jC rfl (YO aC 0 jC rfl (YC jC rfl (PT h87 jC rfl (Pf h87 rfl ?_)))));clear H;intro a H;refine Ol (_) _ _ ?_ (by exact H.sub ⟨rfl,rfl,rfl,rfl,aD⟩);rw [← hnm];clear hst hwd hnm hck hcd;(try clear hq1);(try clear hq2);(try clear hq3);(try clear hq0);(try clear hq4);(try clear mh);(try clear mo);(try clear mq);simp_all
  intro jC a H
  try have Fx:=dF jC
  refine kH H (aX jC rfl (PF h87 jC rfl (Pf h87 rfl ?_)));clear H;intro a H;refine Ol (_) _ _ ?_ (by exact H.sub ⟨rfl,rfl,rfl,rfl,aD⟩);rw [← hnm];clear hst hwd hnm hck hcd;(try clear hq1);(try clear hq2);(try clear hq3);(try clear hq0);(try clear hq4);(try clear mh);(try clear mo);(try clear mq);simp_all
 clear H;intro q2 a w hI H;dsimp only [lca,bg] at H;simp only [zW,uP];have hq2:=hI;refine Bv (ι:=Bool) (Tc:=[(1,_),(3,_)]) 9 (fun (q3:Bool)=>[(104,.bool q3)]) (fun (q3:Bool)=>q3=(q2 || !zN x && !sM x.text)) (by exact H.sub ⟨rfl,rfl,aD⟩) ?_ ?_
 ·intro Oh;refine kH H (Rm rfl (Sp 96 rfl ?_ ?_)) <;> clear H
  ·intro qU a H
   try have Ik:=dT qU
   refine kH H (aX qU rfl (Ku rfl (Ku rfl (Ku rfl (Ks qU rfl (Pt qU rfl ?_))))));clear H;intro a H;refine Oh (_) _ _ ?_ (by exact H.sub ⟨rfl,rfl,rfl,aD⟩);rw [← hwd];clear hst hwd hnm hck hcd;(try clear hq1);(try clear hq2);(try clear hq3);(try clear hq0);(try clear hq4);(try clear mh);(try clear mo);(try clear mq);simp_all [sM]
  intro qU a H
  try have Ik:=dF qU
  refine kH H (YM qU rfl (YN qU rfl (YM qU rfl (Sp 99 rfl ?_ ?_)))) <;> clear H
  ·intro Am a H
   try have p99:=dT Am
   refine kH H (YF uj Am rfl (YO fZ 0 Am rfl ?_));clear H;intro a H;refine aiX H (wg H rfl rfl Am) rfl rfl rfl ?_;clear H;intro a H;refine kH H (PT qU Am rfl (Pf qU rfl ?_));clear H;intro a H;refine Oh (_) _ _ ?_ (by exact H.sub ⟨rfl,rfl,rfl,aD⟩);rw [← hwd];clear hst hwd hnm hck hcd;(try clear hq1);(try clear hq2);(try clear hq3);(try clear hq0);(try clear hq4);(try clear mh);(try clear mo);(try clear mq);simp_all [sM]
  intro Am a H
  try have p99:=dF Am
  refine kH H (aX Am rfl (PF qU Am rfl (Pf qU rfl ?_)));clear H;intro a H;refine Oh (_) _ _ ?_ (by exact H.sub ⟨rfl,rfl,rfl,aD⟩);rw [← hwd];clear hst hwd hnm hck hcd;(try clear hq1);(try clear hq2);(try clear hq3);(try clear hq0);(try clear hq4);(try clear mh);(try clear mo);(try clear mq);simp_all [sM]
 clear H;intro q3 a w hI H;dsimp only [lca,bg] at H;simp only [zW,uP];have hq3:=hI;refine Bv (ι:=Bool) (Tc:=[(1,_),(3,_)]) 11 (fun (q4:Bool)=>[(115,.bool q4)]) (fun (q4:Bool)=>q4=(q3 || decide (x.kind≠6) && decide (0 < (x.flow.length:Int)))) (by exact H.sub ⟨rfl,rfl,aD⟩) ?_ ?_
 ·intro Oi;refine kH H (Rm rfl (Sp 105 rfl ?_ ?_)) <;> clear H
  ·intro pK a H
   try have Fw:=dT pK
   refine kH H (aQ pK rfl (aQ pK rfl (Ku rfl (Ku rfl (Ku rfl (Ku rfl (Ks pK rfl (Pt pK rfl ?_))))))));clear H;intro a H;refine Oi (_) _ _ ?_ (by exact H.sub ⟨rfl,rfl,rfl,aD⟩);clear hst hwd hnm hck hcd;(try clear hq1);(try clear hq2);(try clear hq3);(try clear hq0);(try clear hq4);(try clear mh);(try clear mo);(try clear mq);simp_all
  intro pK a H
  try have Fw:=dF pK
  refine kH H (YF jB pK rfl (YO aC 0 pK rfl (YC pK rfl (YM pK rfl (Sp 109 rfl ?_ ?_))))) <;> clear H
  ·intro xB a H
   try have ahV:=dT xB
   refine kH H (YF yV xB rfl (YO iD 0 xB rfl (YL gV xB rfl (YC xB rfl (PT pK xB rfl (Pf pK rfl ?_))))));clear H;intro a H;refine Oi (_) _ _ ?_ (by exact H.sub ⟨rfl,rfl,rfl,aD⟩);clear hst hwd hnm hck hcd;(try clear hq1);(try clear hq2);(try clear hq3);(try clear hq0);(try clear hq4);(try clear mh);(try clear mo);(try clear mq);simp_all
  intro xB a H
  try have ahV:=dF xB
  refine kH H (aQ xB rfl (aQ xB rfl (PF pK xB rfl (Pf pK rfl ?_))));clear H;intro a H;refine Oi (_) _ _ ?_ (by exact H.sub ⟨rfl,rfl,rfl,aD⟩);clear hst hwd hnm hck hcd;(try clear hq1);(try clear hq2);(try clear hq3);(try clear hq0);(try clear hq4);(try clear mh);(try clear mo);(try clear mq);simp_all
 clear H;intro q4 a w hI H;dsimp only [lca,bg] at H;simp only [zW,uP];have hq4:=hI;refine Bv (ι:=Bool) (Tc:=[(1,_),(3,_)]) 11 (fun (q5:Bool)=>[(126,.bool q5)]) (fun (q5:Bool)=>q5=vY x) (by exact H.sub ⟨rfl,rfl,aD⟩) ?_ ?_
 ·intro Oj;refine kH H (Rm rfl (Sp 116 rfl ?_ ?_)) <;> clear H
  ·intro h116 a H
   try have ahX:=dT h116
   refine kH H (aQ h116 rfl (aQ h116 rfl (Ku rfl (Ku rfl (Ku rfl (Ku rfl (Ks h116 rfl (Pt h116 rfl ?_))))))));clear H;intro a H;refine Oj (_) _ _ ?_ (by exact H.sub ⟨rfl,rfl,rfl,aD⟩);rw [show vY x=(q4 || decide (x.kind≠7) && decide (0 < (x.rows.length:Int))) by rw [hq4,hq3,hq2,hq1];rfl];clear hq4;clear hst hwd hnm hck hcd;(try clear hq1);(try clear hq2);(try clear hq3);(try clear hq0);(try clear hq4);(try clear mh);(try clear mo);(try clear mq);simp_all
  intro h116 a H
  try have ahX:=dF h116
  refine kH H (YF jB h116 rfl (YO aC 0 h116 rfl (YC h116 rfl (YM h116 rfl (Sp 120 rfl ?_ ?_))))) <;> clear H
  ·intro sP a H
   try have PX:=dT sP
   refine kH H (YF qN sP rfl (YO rz 0 sP rfl (YL mU sP rfl (YC sP rfl (PT h116 sP rfl (Pf h116 rfl ?_))))));clear H;intro a H;refine Oj (_) _ _ ?_ (by exact H.sub ⟨rfl,rfl,rfl,aD⟩);rw [show vY x=(q4 || decide (x.kind≠7) && decide (0 < (x.rows.length:Int))) by rw [hq4,hq3,hq2,hq1];rfl];clear hq4;clear hst hwd hnm hck hcd;(try clear hq1);(try clear hq2);(try clear hq3);(try clear hq0);(try clear hq4);(try clear mh);(try clear mo);(try clear mq);simp_all
  intro sP a H
  try have PX:=dF sP
  refine kH H (aQ sP rfl (aQ sP rfl (PF h116 sP rfl (Pf h116 rfl ?_))));clear H;intro a H;refine Oj (_) _ _ ?_ (by exact H.sub ⟨rfl,rfl,rfl,aD⟩);rw [show vY x=(q4 || decide (x.kind≠7) && decide (0 < (x.rows.length:Int))) by rw [hq4,hq3,hq2,hq1];rfl];clear hq4;clear hst hwd hnm hck hcd;(try clear hq1);(try clear hq2);(try clear hq3);(try clear hq0);(try clear hq4);(try clear mh);(try clear mo);(try clear mq);simp_all
 clear H;intro q5 a w hI H;dsimp only [lca,bg] at H;simp only [zW,uP];have mh:=hI;refine kH H (ak aT rfl (Cd rfl ?_ ?_)) <;> clear H aT
 ·intro Ca a H
  refine bA (fun _ bq=>?_)
  have e:jU x=15:=by unfold jU;rw [ah f0,au (by rw [← mh];exact Ca)]
  exact kP H (SC (aU bq rfl (LR results127 rfl fun H=>H.rt ⟨by rw [e],rfl⟩)))
 intro Ca a H
 try have PZ:=dF Ca
 have f1:¬ vY x=true:=by rw [← mh,Ca];decide
 refine kP H (SR fun _ bF=>aP uj fZ 0 rfl rfl ?_);clear H;intro a H;refine s_call GI H wn rfl (IE _ _ H.ro x.text hs) rfl ?_;clear H;rintro v130 _ a w ⟨rfl,rfl⟩ - H;refine kH H (Rn rfl (ak bF rfl (Cd rfl ?_ ?_))) <;> clear H bF
 ·intro h127 a H
  refine bA (fun _ bJ=>?_)
  have e:jU x=12:=by unfold jU;rw [ah f0,ah f1,au (by simpa using h127)]
  exact kP H (SC (aU bJ rfl (LR results127 rfl fun H=>H.rt ⟨by rw [e],rfl⟩)))
 intro h127 a H
 try have alP:=dF h127
 have f2:¬ qb x.text=false:=by simpa using h127
 refine dB (fun _ bN=>?_);refine Bv (ι:=Bool) (Tc:=[(1,_),(3,_)]) 13 (fun (q6:Bool)=>[(145,.bool q6)]) (fun (q6:Bool)=>q6=(decide (x.kind=1∨x.kind=5) && sM x.text)) (by exact H.sub ⟨rfl,rfl,aD⟩) ?_ ?_
 ·intro Om;refine kH H (aP jB aC 0 rfl rfl (Rc rfl (Rm rfl (Sp 136 rfl ?_ ?_)))) <;> clear H
  ·intro Aj a H
   try have ahY:=dT Aj
   refine kH H (aX Aj rfl (Pt Aj rfl (Rm rfl ?_)));clear H;intro a H;refine Ip uj H (wg H rfl rfl rfl) rfl rfl ?_;clear H;intro a H;refine vF fZ H (wg H rfl rfl rfl) rfl (H.hp.nQ 0 rfl rfl) rfl ?_;clear H;intro a H;refine zy H (wg H rfl rfl rfl) rfl rfl rfl ?_;clear H;intro a H;refine kH H (Pt rfl rfl ?_);clear H;intro a H;refine Om (_) _ _ ?_ (by exact H.sub ⟨rfl,rfl,rfl,aD⟩);clear hst hwd hnm hck hcd;(try clear hq1);(try clear hq2);(try clear hq3);(try clear hq0);(try clear hq4);(try clear mh);(try clear mo);(try clear mq);simp_all [sM]
  intro Aj a H
  try have ahY:=dF Aj
  refine kH H (YF jB Aj rfl (YO aC 0 Aj rfl (YC Aj rfl (Pf Aj rfl (Rm rfl (Sp 141 rfl ?_ ?_)))))) <;> clear H
  ·intro Ak a H
   try have ahZ:=dT Ak
   refine kH H (YF uj Ak rfl (YO fZ 0 Ak rfl ?_));clear H;intro a H;refine zy H (wg H rfl rfl Ak) rfl rfl rfl ?_;clear H;intro a H;refine kH H (Pt Ak rfl ?_);clear H;intro a H;refine Om (_) _ _ ?_ (by exact H.sub ⟨rfl,rfl,rfl,aD⟩);clear hst hwd hnm hck hcd;(try clear hq1);(try clear hq2);(try clear hq3);(try clear hq0);(try clear hq4);(try clear mh);(try clear mo);(try clear mq);simp_all [sM]
  intro Ak a H
  try have ahZ:=dF Ak
  refine kH H (aX Ak rfl (Pf Ak rfl ?_));clear H;intro a H;refine Om (_) _ _ ?_ (by exact H.sub ⟨rfl,rfl,rfl,aD⟩);clear hst hwd hnm hck hcd;(try clear hq1);(try clear hq2);(try clear hq3);(try clear hq0);(try clear hq4);(try clear mh);(try clear mo);(try clear mq);simp_all [sM]
 clear H;intro q6 a w hI H;dsimp only [lca,bg] at H;simp only [zW,uP];have mo:=hI;refine kH H (ak bN rfl (Cd rfl ?_ ?_)) <;> clear H bN
 ·intro BU a H
  refine bA (fun _ cK=>?_)
  have e:jU x=11:=by unfold jU;rw [ah f0,ah f1,ah f2,au (by rw [← mo];exact BU)]
  exact kP H (SC (aU cK rfl (LR results127 rfl fun H=>H.rt ⟨by rw [e],rfl⟩)))
 intro BU a H
 try have WY:=dF BU
 have f3:¬ (decide (x.kind=1∨x.kind=5) && sM x.text)=true:=by rw [← mo,BU];decide
 refine dB (fun _ dw=>?_);refine Bv (ι:=Bool) (Tc:=[(1,_),(3,_)]) 9 (fun (q7:Bool)=>[(155,.bool q7)]) (fun (q7:Bool)=>q7=(decide (x.kind=5) && decide (1024 < (x.text.size:Int)))) (by exact H.sub ⟨rfl,rfl,aD⟩) ?_ ?_
 ·intro UW;refine kH H (aP jB aC 0 rfl rfl (Rc rfl (Rm rfl (Sp 150 rfl ?_ ?_)))) <;> clear H
  ·intro xC a H
   try have aia:=dT xC
   refine kH H (YF uj xC rfl (YO fZ 0 xC rfl ?_));clear H;intro a H;refine Cw gu H (wg H rfl rfl xC) rfl rfl ?_;clear H;intro a H;refine kH H (YC xC rfl (Pt xC rfl ?_));clear H;intro a H;refine UW (_) _ _ ?_ (by exact H.sub ⟨rfl,rfl,rfl,aD⟩);clear hst hwd hnm hck hcd;(try clear hq1);(try clear hq2);(try clear hq3);(try clear hq0);(try clear hq4);(try clear mh);(try clear mo);(try clear mq);simp_all
  intro xC a H
  try have aia:=dF xC
  refine kH H (aQ xC rfl (aQ xC rfl (Pf xC rfl ?_)));clear H;intro a H;refine UW (_) _ _ ?_ (by exact H.sub ⟨rfl,rfl,rfl,aD⟩);clear hst hwd hnm hck hcd;(try clear hq1);(try clear hq2);(try clear hq3);(try clear hq0);(try clear hq4);(try clear mh);(try clear mo);(try clear mq);simp_all
 clear H;intro q7 a w hI H;dsimp only [lca,bg] at H;simp only [zW,uP];have mq:=hI;refine kH H (ak dw rfl (Cd rfl ?_ ?_)) <;> clear H dw
 ·intro JR a H
  refine bA (fun _ bY=>?_)
  have e:jU x=10:=by unfold jU;rw [ah f0,ah f1,ah f2,ah f3,au (by rw [← mq];exact JR)]
  exact kP H (SC (aU bY rfl (LR results127 rfl fun H=>H.rt ⟨by rw [e],rfl⟩)))
 intro JR a H
 try have alQ:=dF JR
 have f4:¬ (decide (x.kind=5) && decide (1024 < (x.text.size:Int)))=true:=by rw [← mq,JR];decide
 refine dB (fun _ dz=>?_);refine Bv (ι:=Bool) (Tc:=[]) 7 (fun (q8:Bool)=>[(163,.bool q8)]) (fun (q8:Bool)=>q8=(zF x && !pG x.text)) (by exact H.sub trivial) ?_ ?_
 ·intro UY;refine kH H (Rm rfl (Rm rfl (Sp 158 rfl ?_ ?_))) <;> clear H
  ·intro xD a H
   try have aib:=dT xD
   refine kH H (YF uj xD rfl (YO fZ 0 xD rfl ?_));clear H;intro a H;refine s_call Nb H (wg H rfl rfl xD) rfl (MZ _ _ H.ro x.text hs) rfl ?_;clear H;rintro alU _ a w ⟨rfl,rfl⟩ - H;refine kH H (YN xD rfl (Pt xD rfl ?_));clear H;intro a H;refine UY (_) _ _ ?_ (by exact H.sub ⟨rfl,aD⟩);rw [← hst];clear hst hwd hnm hck hcd;(try clear hq1);(try clear hq2);(try clear hq3);(try clear hq0);(try clear hq4);(try clear mh);(try clear mo);(try clear mq);simp_all
  intro xD a H
  try have aib:=dF xD
  refine kH H (aQ xD rfl (aQ xD rfl (Pf xD rfl ?_)));clear H;intro a H;refine UY (_) _ _ ?_ (by exact H.sub ⟨rfl,aD⟩);rw [← hst];clear hst hwd hnm hck hcd;(try clear hq1);(try clear hq2);(try clear hq3);(try clear hq0);(try clear hq4);(try clear mh);(try clear mo);(try clear mq);simp_all
 clear H;intro q8 a w hI H;dsimp only [lca,bg] at H;simp only [zW,uP];have hq8:=hI;refine kH H (ak dz rfl (Cd rfl ?_ ?_)) <;> clear H dz
 ·intro NM a H
  refine bA (fun _ fC=>?_)
  have e:jU x=13:=by unfold jU;rw [ah f0,ah f1,ah f2,ah f3,ah f4,au (by rw [← hq8];exact NM)]
  exact kP H (SC (aU fC rfl (LR results127 rfl fun H=>H.rt ⟨by rw [e],rfl⟩)))
 intro NM a H
 refine gI ?_;refine K7 _ _ ?_;clear K7;refine bA (fun _ dN=>?_)
 have e:jU x=0:=by unfold jU;rw [ah f0,ah f1,ah f2,ah f3,ah f4,ah (by rw [← hq8,NM];decide)]
 exact kP H (SC (aU dN rfl (LR results127 rfl fun H=>H.rt ⟨by rw [e],rfl⟩)))
end
section
open Go.RowKit
structure CS where
 n:Int
 bG:List Int
abbrev CR:=Int × CS
def fT (r:CR) (f:CS→CR):CR:=if r.1≠0 then r else f r.2
theorem Gg {r:CR} {f:CS→CR} (h:r.1=0):fT r f=f r.2:=by rw [fT,ah (fun h'=>h' h)]
theorem Jm {r:CR} {f:CS→CR} (h:r.1≠0):fT r f=r:=by rw [fT,au h]
def jR (s:CS) (x:Int):CR:=(pQ s.bG x,⟨s.n,jQ s.bG x⟩)
def kD (body note:Bool) (t k i:Int) (s:CS):CR :=
 if k=3 then (bV (!body) 19,s) else if k=6 then fT (bV note 19,s) fun s=>jR s i else if k=7 then fT (bV (decide (4≤t)) 17,s) fun s=>jR s i else if k=8 then (bV (!decide (1≤i∧i≤1073741824)) 18,s) else (0,s)
def Ej (C:gW) (h:iE) (n:Nat):Int:=dH [iG C 9 h,bV (decide ((n:Int)=0)) 11,bV (decide (32 < (n:Int))) 9]
def lI (n:Nat) (f:CS→CR) (s:CS):CR:=if n=0 then (11,s) else if 256 < n then (9,s) else f s
mutual
def eH (C:gW) (body note:Bool) (t:Int):aA→CS→CR
 | .mk k c i tx h f r,s =>
  fT (jU (.mk k c i tx h f r),s) fun s=>fT (kD body note t k i ⟨s.n+(if k=1 then vR tx else 1:Nat),s.bG⟩) fun s=>fT (iG C k h,s) fun s =>
   if k=6 then jh C false true t f s else if k=7 then lI r.length (fun s=>iO C note (t+1) r s) s else (0,s)
def Cv (C:gW) (note:Bool) (t:Int):bO→CS→CR
 | .mk h cs,s=>fT (Ej C h cs.length,s) fun s=>rO C note t cs s
def cellC (C:gW) (note:Bool) (t:Int):bM→CS→CR
 | .mk i h f,s=>fT (jR s i) fun s=>fT (iG C 10 h,s) fun s=>jh C false note t f s
def jh (C:gW) (body note:Bool) (t:Int):List aA→CS→CR
 | [],s=>(0,s)
 | x :: r,s=>fT (eH C body note t x s) fun s=>jh C body note t r s
def iO (C:gW) (note:Bool) (t:Int):List bO→CS→CR
 | [],s=>(0,s)
 | x :: r,s=>fT (Cv C note t x s) fun s=>iO C note t r s
def rO (C:gW) (note:Bool) (t:Int):List bM→CS→CR
 | [],s=>(0,s)
 | x :: r,s=>fT (cellC C note t x s) fun s=>rO C note t r s
end
theorem Kq (C:gW) (body note:Bool) (t:Int) (x:aA) (s:CS):eH C body note t x s=fT (jU x,s) fun s=>fT (kD body note t x.kind x.id ⟨s.n+(dY x:Nat),s.bG⟩) fun s=>fT (iG C x.kind x.head,s) fun s =>
  if x.kind=6 then jh C false true t x.flow s else if x.kind=7 then lI x.rows.length (fun s=>iO C note (t+1) x.rows s) s else (0,s):=by cases x;rw [eH];rfl
theorem KQ (C:gW) (note:Bool) (t:Int) (x:bO) (s:CS):Cv C note t x s=fT (Ej C x.head x.cells.length,s) fun s=>rO C note t x.cells s:=by cases x;rw [Cv];rfl
theorem Ju (C:gW) (note:Bool) (t:Int) (x:bM) (s:CS):cellC C note t x s=fT (jR s x.id) fun s=>fT (iG C 10 x.head,s) fun s=>jh C false note t x.flow s:=by cases x;rw [cellC];rfl
def Up (s:CS) (z:Nat) (r:CR):Prop:=s.n≤r.2.n∧r.2.n≤s.n+z
theorem Up.and {s:CS} {z y q:Nat} {r:CR} {f:CS→CR} (h:Up s z r) (hq:z+y≤q) (hf:∀ s,Up s y (f s)):Up s q (fT r f):=by
 obtain ⟨h1,h2⟩:=h
 unfold fT
 split
 ·exact ⟨h1,by omega⟩
 obtain ⟨h3,h4⟩:=hf r.2;exact ⟨by omega,by omega⟩
theorem Up.zero (s:CS) (e:Int) (q:Nat):Up s q (e,s):=⟨Int.le_refl _,by dsimp only;omega⟩
theorem Up.le {s:CS} {z y:Nat} {r:CR} (h:Up s z r) (hq:z≤y):Up s y r:=⟨h.1,by have:=h.2;omega⟩
theorem Yk (s:CS) (x:Int) (q:Nat):Up s q (jR s x):=⟨Int.le_refl _,by dsimp only [jR];omega⟩
theorem akg (body note:Bool) (t k i:Int) (s:CS) (q:Nat):Up s q (kD body note t k i s):=by
 unfold kD
 (repeat' split) <;> first|exact Up.zero _ _ _|exact (Up.zero _ _ 0).and (y:=0) (by omega) fun s=>Yk _ _ _
mutual
theorem Yl (C:gW) (body note:Bool) (t:Int):∀ (x:aA) (s:CS),Up s (dh x.dat) (eH C body note t x s)
 | .mk k c i tx h f r,s=>by
  have hz:=oU (.mk k c i tx h f r);have hf:=LM C false true t f;have hr:=Ym C note (t+1) r;rw [eH];obtain ⟨u,hu'⟩:∃ u,u=(if k=1 then vR tx else 1:Nat):=⟨_,rfl⟩
  have hu:u≤tx.size+1:=by
   have:=Gw tx
   rw [hu'];split <;> omega
  rw [← hu'];dsimp only [aA.text,aA.flow,aA.rows,aA.head] at hz;refine (Up.zero s _ 0).and (Nat.le_of_eq (kR _)) fun s=>?_
  have h2:Up s (u) (kD body note t k i ⟨s.n+(u:Nat),s.bG⟩):=by
   obtain ⟨h3,h4⟩:=akg body note t k i ⟨s.n+(u:Nat),s.bG⟩ 0;dsimp only at h3 h4;exact ⟨by omega,by omega⟩
  refine h2.and (y:=bC f+ig r) (by omega) fun s=>(Up.zero s _ 0).and (Nat.le_of_eq (kR _)) fun s=>?_
  by_cases h6:k=6
  ·rw [au h6];exact (hf s).le (by omega)
  rw [ah h6]
  by_cases h7:k=7
  ·rw [au h7]
   unfold lI
   by_cases c1:r.length=0
   ·rw [au c1];exact Up.zero _ _ _
   rw [ah c1]
   by_cases c2:256 < r.length
   ·rw [au c2];exact Up.zero _ _ _
   rw [ah c2];exact (hr s).le (by omega)
  rw [ah h7];exact Up.zero _ _ _
theorem akh (C:gW) (note:Bool) (t:Int):∀ (x:bO) (s:CS),Up s (dh x.dat) (Cv C note t x s)
 | .mk h cs,s=>by
  have hz:=Bz (.mk h cs);have hc:=Yj C note t cs;rw [KQ];dsimp only [bO.cells,bO.head] at hz ⊢;exact (Up.zero s _ 0).and (y:=jm cs) (by omega) fun s=>hc s
theorem akf (C:gW) (note:Bool) (t:Int):∀ (x:bM) (s:CS),Up s (dh x.dat) (cellC C note t x s)
 | .mk i h f,s=>by
  have hz:=Bw (.mk i h f);have hf:=LM C false note t f;rw [Ju];dsimp only [bM.flow,bM.head,bM.id] at hz ⊢;exact (Yk s _ 0).and (y:=bC f) (by omega) fun s=>(Up.zero s _ 0).and (Nat.le_of_eq (kR _)) fun s=>hf s
theorem LM (C:gW) (body note:Bool) (t:Int):∀ (l:List aA) (s:CS),Up s (bC l) (jh C body note t l s)
 | [],s=>by rw [jh];exact Up.zero _ _ _
 | x :: r,s=>by
  rw [jh];exact (Yl C body note t x s).and (y:=bC r) (by simp only [bC,eZ,eX];omega) fun s=>LM C body note t r s
theorem Ym (C:gW) (note:Bool) (t:Int):∀ (l:List bO) (s:CS),Up s (ig l) (iO C note t l s)
 | [],s=>by rw [iO];exact Up.zero _ _ _
 | x :: r,s=>by
  rw [iO];exact (akh C note t x s).and (y:=ig r) (by simp only [ig,eZ,eX];omega) fun s=>Ym C note t r s
theorem Yj (C:gW) (note:Bool) (t:Int):∀ (l:List bM) (s:CS),Up s (jm l) (rO C note t l s)
 | [],s=>by rw [rO];exact Up.zero _ _ _
 | x :: r,s=>by
  rw [rO];exact (akf C note t x s).and (y:=jm r) (by simp only [jm,eZ,eX];omega) fun s=>Yj C note t r s
end
def oO {α:Type} (f:α→CS→CR) (l:List α) (s:CS):Nat→CS
 | 0=>s
 | i+1=>match l[i]? with|some x=>(f x (oO f l s i)).2|none=>oO f l s i
def Aa {α:Type} (f:α→CS→CR) (l:List α) (s:CS) (i:Nat):Int:=match l[i]? with|some x=>(f x (oO f l s i)).1|none=>0
theorem Qw {α:Type} (f:α→CS→CR) (x:α) (l:List α) (s:CS):∀ i,oO f (x :: l) s (i+1)=oO f l (f x s).2 i
 | 0=>rfl
 | i+1=>by
  have ih:=Qw f x l s i
  simp only [oO,List.getElem?_cons_succ] at ih ⊢
  rw [ih]
theorem adP {α:Type} (f:α→CS→CR) (x:α) (l:List α) (s:CS) (i:Nat):Aa f (x :: l) s (i+1)=Aa f l (f x s).2 i:=by
 unfold Aa
 simp only [List.getElem?_cons_succ,Qw]
theorem ZV (E:Nat→Int) (n:Nat):ko E (n+1)=if E 0≠0 then E 0 else ko (fun i=>E (i+1)) n:=by
 unfold ko
 rw [List.range_succ_eq_map,eZ,dH,List.map_map]
 rfl
theorem VZ (C:gW) (body note:Bool) (t:Int):∀ (l:List aA) (s:CS),(jh C body note t l s).1=ko (Aa (eH C body note t) l s) l.length∧((jh C body note t l s).1=0→(jh C body note t l s).2=oO (eH C body note t) l s l.length)
 | [],s=>by rw [jh];exact ⟨rfl,fun _=>rfl⟩
 | x :: r,s=>by
  obtain ⟨h1,h2⟩:=VZ C body note t r (eH C body note t x s).2;have e0:Aa (eH C body note t) (x :: r) s 0=(eH C body note t x s).1:=rfl;rw [jh,nL,ZV,e0,Qw]
  simp only [adP]
  unfold fT
  split
  ·next h=>exact ⟨rfl,fun h0=>absurd h0 h⟩
  exact ⟨h1,h2⟩
theorem Yn (C:gW) (body note:Bool) (t:Int) (l:List aA) (s:CS):∀ i,i≤l.length→s.n≤(oO (eH C body note t) l s i).n∧(oO (eH C body note t) l s i).n+(bC (l.drop i):Nat)≤s.n+(bC l:Nat)
 | 0,_=>⟨Int.le_refl _,Int.le_refl _⟩
 | i+1,hi=>by
  have hi':i < l.length:=hi;obtain ⟨h1,h2⟩:=Yn C body note t l s i (by omega)
  have hs:oO (eH C body note t) l s (i+1)=(eH C body note t l[i] (oO (eH C body note t) l s i)).2:=by rw [oO,gY hi']
  have hd:bC (l.drop i)=1+dh l[i].dat+bC (l.drop (i+1)):=by
   simp only [bC];rw [lW hi',eZ,eX]
  obtain ⟨h3,h4⟩:=Yl C body note t l[i] (oO (eH C body note t) l s i);rw [hs];exact ⟨by omega,by omega⟩
end
section
open Go.RowKit
mutual
/-- The ids in items, in document order. -/
def AU:aA→List Int
 | .mk k _ i _ _ f r=>(if k=6∨k=7 then [i] else [])++((if k=6 then uE f else [])++(if k=7 then AV r else []))
def uE:List aA→List Int
 | []=>[]
 | x :: r=>AU x++uE r
def Cm:bO→List Int
 | .mk _ c=>AQ c
def AV:List bO→List Int
 | []=>[]
 | x :: r=>Cm x++AV r
def Ck:bM→List Int
 | .mk i _ f=>i :: uE f
def AQ:List bM→List Int
 | []=>[]
 | x :: r=>Ck x++AQ r
end
end
section
open Go.RowKit
theorem oq {r:CR} {f:CS→CR} {s':CS} (h:fT r f=(0,s')):r.1=0∧f r.2=(0,s'):=by
 unfold fT at h
 split at h
 ·rename_i h1;rw [h] at h1;exact absurd rfl h1
 rename_i h1;exact ⟨mY.1 h1,h⟩
theorem Tj {r:CR} (h:r.1=0):r=(0,r.2):=Prod.ext h rfl
structure kQ (a b c:List Int):Prop where
 eq:c=a++b
 nd:a.Nodup→c.Nodup
 pos:∀ i∈b,1≤i∧i≤1073741824
theorem kQ.nil (a:List Int):kQ a [] a:=⟨by simp,fun h=>h,fun i h=>by cases h⟩
theorem kQ.trans {a b c d e:List Int} (h:kQ a b c) (g:kQ c d e):kQ a (b++d) e:=⟨by rw [g.eq,h.eq,oo],fun h1=>g.nd (h.nd h1),fun i hi=>(kg.1 hi).elim (h.pos i) (g.pos i)⟩
theorem kQ.id {a:List Int} {x:Int} (h:pQ a x=0):kQ a [x] (jQ a x):=by
 unfold jQ
 rw [au h]
 unfold pQ at h
 by_cases h1:1≤x∧x≤1073741824
 ·rw [ah (fun h'=>h' h1)] at h
  by_cases h2:x∈a
  ·rw [au h2] at h;cases h
  exact ⟨rfl,fun h3=>List.nodup_append.2 ⟨h3,by simp,fun u hu v hv=>by rw [rH.1 hv];exact fun e=>h2 (e ▸ hu)⟩,fun i hi=>by rw [rH.1 hi];exact h1⟩
 rw [au h1] at h;cases h
theorem kQ.jR {s s':CS} {x:Int} (h:jR s x=(0,s')):kQ s.bG [x] s'.bG:=by
 unfold Go.Proofs.YteopmoocmoigcaaGreat.jR at h
 injection h with h1 h2
 rw [← h2];exact kQ.id h1
theorem aio {body note:Bool} {t k i:Int} {s s':CS} (h:kD body note t k i s=(0,s')):kQ s.bG (if k=6∨k=7 then [i] else []) s'.bG:=by
 unfold kD at h
 by_cases h3:k=3
 ·rw [au h3] at h;injection h with _ h2;rw [ah (by omega),← h2];exact kQ.nil _
 rw [ah h3] at h
 by_cases h6:k=6
 ·rw [au h6] at h;rw [au (.inl h6)];exact kQ.jR (oq h).2
 rw [ah h6] at h
 by_cases h7:k=7
 ·rw [au h7] at h;rw [au (.inr h7)];exact kQ.jR (oq h).2
 rw [ah h7] at h;rw [ah (by omega)]
 by_cases h8:k=8
 ·rw [au h8] at h;injection h with _ h2;rw [← h2];exact kQ.nil _
 rw [ah h8] at h;injection h with _ h2;rw [← h2];exact kQ.nil _
theorem Xp {n:Nat} {f:CS→CR} {s s':CS} (h:lI n f s=(0,s')):n≠0∧f s=(0,s'):=by
 unfold lI at h
 split at h
 ·cases h
 rename_i h1
 split at h
 ·cases h
 exact ⟨h1,h⟩
mutual
theorem adT (C:gW) (body note:Bool) (t:Int):∀ (x:aA) (s s':CS),eH C body note t x s=(0,s')→kQ s.bG (AU x) s'.bG
 | .mk k c i tx h f r,s,s',e=>by
  have hf:=JF C false true t f;have hr:=Ug C note (t+1) r;rw [eH] at e;obtain ⟨-,e⟩:=oq e;obtain ⟨e1,e⟩:=oq e;obtain ⟨-,e⟩:=oq e;have h1:=aio (Tj e1);rw [AU];refine h1.trans ?_
  by_cases h6:k=6
  ·rw [au h6] at e ⊢;rw [ah (show ¬ k=7 by omega),mX];exact hf _ _ e
  rw [ah h6] at e ⊢;rw [kJ]
  by_cases h7:k=7
  ·rw [au h7] at e ⊢;exact hr _ _ (Xp e).2
  rw [ah h7] at e ⊢
  injection e with _ e
  rw [← e];exact kQ.nil _
theorem adU (C:gW) (note:Bool) (t:Int):∀ (x:bO) (s s':CS),Cv C note t x s=(0,s')→kQ s.bG (Cm x) s'.bG
 | .mk h cs,s,s',e=>by
  have hc:=Uf C note t cs;rw [KQ] at e;rw [Cm];exact hc _ _ (oq e).2
theorem adS (C:gW) (note:Bool) (t:Int):∀ (x:bM) (s s':CS),cellC C note t x s=(0,s')→kQ s.bG (Ck x) s'.bG
 | .mk i h f,s,s',e=>by
  have hf:=JF C false note t f;rw [Ju] at e;dsimp only [bM.id,bM.head,bM.flow] at e;obtain ⟨e1,e⟩:=oq e;have h1:=kQ.jR (s':=(jR s i).2) (Prod.ext e1 rfl);rw [Ck];exact h1.trans (hf _ _ (oq e).2)
theorem JF (C:gW) (body note:Bool) (t:Int):∀ (l:List aA) (s s':CS),jh C body note t l s=(0,s')→kQ s.bG (uE l) s'.bG
 | [],s,s',e=>by rw [jh] at e;injection e with _ e;rw [← e];exact kQ.nil _
 | x :: r,s,s',e=>by
  rw [jh] at e;obtain ⟨e1,e⟩:=oq e;rw [uE];exact (adT C body note t x s _ (Prod.ext e1 rfl)).trans (JF C body note t r _ _ e)
theorem Ug (C:gW) (note:Bool) (t:Int):∀ (l:List bO) (s s':CS),iO C note t l s=(0,s')→kQ s.bG (AV l) s'.bG
 | [],s,s',e=>by rw [iO] at e;injection e with _ e;rw [← e];exact kQ.nil _
 | x :: r,s,s',e=>by
  rw [iO] at e;obtain ⟨e1,e⟩:=oq e;rw [AV];exact (adU C note t x s _ (Prod.ext e1 rfl)).trans (Ug C note t r _ _ e)
theorem Uf (C:gW) (note:Bool) (t:Int):∀ (l:List bM) (s s':CS),rO C note t l s=(0,s')→kQ s.bG (AQ l) s'.bG
 | [],s,s',e=>by rw [rO] at e;injection e with _ e;rw [← e];exact kQ.nil _
 | x :: r,s,s',e=>by
  rw [rO] at e;obtain ⟨e1,e⟩:=oq e;rw [AQ];exact (adS C note t x s _ (Prod.ext e1 rfl)).trans (Uf C note t r _ _ e)
end
def eY (l:List aA):Prop:=∃ (C:gW) (body note:Bool) (t:Int) (s s':CS),jh C body note t l s=(0,s')
structure wL (x:aA):Prop where
 txt:qb x.text=true
 kd:1≤x.kind∧x.kind≤8
 KS:x.kind≠7→x.rows=[]
 fl0:x.kind≠6→x.flow=[]
 fl:eY x.flow
 rw:∀ r∈x.rows,∀ c∈r.cells,eY c.flow
theorem ahQ:eY []:=⟨⟨[],[],[]⟩,false,false,0,⟨0,[]⟩,⟨0,[]⟩,by rw [jh]⟩
theorem aeF {x:aA} (h:jU x=0):qb x.text=true∧(1≤x.kind∧x.kind≤8)∧(x.kind≠7→x.rows=[])∧(x.kind≠6→x.flow=[]):=by
 unfold jU at h
 split at h
 ·cases h
 rename_i h1
 split at h
 ·cases h
 rename_i h2
 split at h
 ·cases h
 rename_i h3
 have hk:decide (1≤x.kind∧x.kind≤8)=true:=by
  cases hd:decide (1≤x.kind∧x.kind≤8)
  ·rw [hd] at h1;exact absurd rfl h1
  rfl
 refine ⟨by simpa using h3,om hk,fun h7=>?_,fun h6=>?_⟩
 ·rw [Bool.not_eq_true] at h2
  unfold vY at h2
  simp only [Bool.or_eq_false_iff] at h2
  have h4:=h2.2;rw [iQ h7,yK,rJ] at h4;exact List.length_eq_zero_iff.1 (by omega)
 rw [Bool.not_eq_true] at h2
 unfold vY at h2
 simp only [Bool.or_eq_false_iff] at h2
 have h4:=h2.1.2;rw [iQ h6,yK,rJ] at h4;exact List.length_eq_zero_iff.1 (by omega)
theorem cells_ok {C:gW} {note:Bool} {t:Int}:∀ {l:List bM} {s s':CS},rO C note t l s=(0,s')→∀ c∈l,eY c.flow
 | [],_,_,_,_,h=>by cases h
 | x :: r,s,s',e,c,h=>by
  rw [rO] at e;obtain ⟨e1,e⟩:=oq e
  rcases kZ.1 h with rfl|h
  ·have e2:cellC C note t c s=(0,(cellC C note t c s).2):=Prod.ext e1 rfl
   generalize (cellC C note t c s).2=s2 at e2
   rw [Ju] at e2;exact ⟨C,false,note,t,_,_,(oq (oq e2).2).2⟩
  exact cells_ok e c h
theorem Xq {C:gW} {note:Bool} {t:Int}:∀ {l:List bO} {s s':CS},iO C note t l s=(0,s')→∀ r∈l,∀ c∈r.cells,eY c.flow
 | [],_,_,_,_,h=>by cases h
 | x :: r,s,s',e,q,h=>by
  rw [iO] at e;obtain ⟨e1,e⟩:=oq e
  rcases kZ.1 h with rfl|h
  ·have e2:Cv C note t q s=(0,(Cv C note t q s).2):=Prod.ext e1 rfl
   generalize (Cv C note t q s).2=s2 at e2
   rw [KQ] at e2;exact cells_ok (oq e2).2
  exact Xq e q h
theorem eY.head {x:aA} {l:List aA} (h:eY (x :: l)):wL x∧eY l:=by
 obtain ⟨C,body,note,t,s,s',e⟩:=h;rw [jh] at e;obtain ⟨e1,e⟩:=oq e;have e2:eH C body note t x s=(0,(eH C body note t x s).2):=Prod.ext e1 rfl
 generalize (eH C body note t x s).2=s2 at e2
 refine ⟨?_,⟨C,body,note,t,_,_,e⟩⟩;rw [Kq] at e2;obtain ⟨f1,e2⟩:=oq e2;(iterate 2 obtain ⟨-,e2⟩:=oq e2);obtain ⟨h1,h2,h3,h4⟩:=aeF f1;refine ⟨h1,h2,h3,h4,?_,?_⟩
 ·by_cases h6:x.kind=6
  ·rw [au h6] at e2;exact ⟨_,_,_,_,_,_,e2⟩
  rw [h4 h6];exact ahQ
 by_cases h7:x.kind=7
 ·rw [ah (by omega),au h7] at e2;exact Xq (Xp e2).2
 rw [h3 h7];exact fun _ h=>by cases h
theorem eY.tail {x:aA} {l:List aA} (h:eY (x :: l)):eY l:=h.head.2
theorem eY.mem:∀ {l:List aA} {x:aA},eY l→x∈l→wL x
 | y :: l,x,h,hx=>by
  rcases kZ.1 hx with rfl|hx
  ·exact h.head.1
  exact eY.mem h.head.2 hx
theorem wL.e {x:aA} (h:wL x):rC x=0:=by unfold rC FQ;rw [au h.txt];split <;> rfl
theorem wL.n1 {x:aA} (h:wL x):n1 x=dY x:=by unfold Go.Proofs.YteopmoocmoigcaaGreat.n1;rw [au h.e]
theorem eY.div {l:List aA} (h:eY l):uT l=true:=by
 unfold uT
 rw [lq];exact fun x hx=>iQ (h.mem hx).e
theorem eY.len {l:List aA} (h:eY l):wu l=nW l:=by unfold wu;rw [au h.div]
def sG (f t:Int) (L:List iV):Prop:=∃ F∈L,F.id=f∧0≤t∧t≤wu F.items
theorem Km {f t:Int}:sG f t []↔False:=⟨fun ⟨_,h,_⟩=>(by cases h),False.elim⟩
theorem Pn {f t:Int} {L M:List iV}:sG f t (L++M)↔sG f t L∨sG f t M:=by
 unfold sG
 constructor
 ·rintro ⟨F,h,r⟩
  rcases kg.1 h with h|h
  ·exact .inl ⟨F,h,r⟩
  exact .inr ⟨F,h,r⟩
 rintro (⟨F,h,r⟩|⟨F,h,r⟩)
 ·exact ⟨F,kg.2 (.inl h),r⟩
 exact ⟨F,kg.2 (.inr h),r⟩
theorem VR {f t:Int} {F:iV} {L:List iV}:sG f t (F :: L)↔(F.id=f∧0≤t∧t≤wu F.items)∨sG f t L:=by
 unfold sG
 constructor
 ·rintro ⟨E,h,r⟩
  rcases kZ.1 h with rfl|h
  ·exact .inl r
  exact .inr ⟨E,h,r⟩
 rintro (r|⟨E,h,r⟩)
 ·exact ⟨F,gD,r⟩
 exact ⟨E,jN _ h,r⟩
mutual
theorem Wy (g:Int) (at_:Nat) (note:Bool) (tt f t:Int):∀ x:aA,wL x→((f,t)∈CO g at_ x↔(g=f∧(at_:Int)≤t∧t < at_+dY x)∨sG f t (yE note tt x))
 | .mk k c i tx h fl r,hx=>by
  have hf:=KA i 0 true tt f t fl hx.fl;have hr:=PG note tt f t r hx.rw;have hn:=hx.n1;have h0:=hx.KS;have hl:=hx.fl.len;rw [CO,yE,hn]
  simp only [aA.kind,aA.rows,aA.flow] at h0 hl
  generalize dY (.mk k c i tx h fl r)=u
  have h1:(f,t)∈(List.range u).map (fun q=>(g,((at_+q:Nat):Int)))↔(g=f∧(at_:Int)≤t∧t < at_+u):=by
   rw [List.mem_map]
   constructor
   ·rintro ⟨q,hq,e⟩
    injection e with e1 e2
    have:=oH.1 hq;exact ⟨e1,by omega,by omega⟩
   rintro ⟨e,h2,h3⟩;exact ⟨(t - at_).toNat,oH.2 (by omega),by rw [e];exact Prod.ext rfl (by simp only;omega)⟩
  rw [kg,kg,h1];refine or_congr Iff.rfl ?_
  by_cases h6:k=6
  ·rw [au h6,au h6,h0 (by omega),hf,VR]
   simp only [sF,List.not_mem_nil,or_false,hl]
   constructor
   ·rintro (⟨e,h2,h3⟩|h2)
    ·exact .inl ⟨e,by omega,by omega⟩
    exact .inr h2
   rintro (⟨e,h2,h3⟩|h2)
   ·exact .inl ⟨e,by omega,by omega⟩
   exact .inr h2
  rw [ah h6,ah h6]
  by_cases h7:k=7
  ·rw [au h7,hr];simp
  rw [ah h7,h0 h7,Km];simp [sF]
theorem KA (g:Int) (at_:Nat) (note:Bool) (tt f t:Int):∀ l:List aA,eY l→((f,t)∈vJ g at_ l↔(g=f∧(at_:Int)≤t∧t≤at_+nW l)∨sG f t (jl note tt l))
 | [],_=>by
  rw [vJ,jl,Km,rH]
  constructor
  ·intro e;injection e with e1 e2;exact .inl ⟨e1.symm,by omega,by simp only [nW];omega⟩
  rintro (⟨e,h2,h3⟩|h)
  ·simp only [nW] at h3;rw [e];exact Prod.ext rfl (by simp only;omega)
  exact h.elim
 | x :: l,hl=>by
  obtain ⟨hx,hl⟩:=hl.head;have h1:=Wy g at_ note tt f t x hx;have h2:=KA g (at_+n1 x) note tt f t l hl;rw [vJ,jl,kg,h1,h2,Pn,hx.n1]
  simp only [nW]
  constructor
  ·rintro ((⟨e,h3,h4⟩|h3)|(⟨e,h3,h4⟩|h3))
   ·exact .inl ⟨e,by omega,by omega⟩
   ·exact .inr (.inl h3)
   ·exact .inl ⟨e,by omega,by omega⟩
   exact .inr (.inr h3)
  rintro (⟨e,h3,h4⟩|(h3|h3))
  ·by_cases hlt:t < at_+dY x
   ·exact .inl (.inl ⟨e,h3,hlt⟩)
   exact .inr (.inl ⟨e,by omega,by omega⟩)
  ·exact .inl (.inr h3)
  exact .inr (.inr h3)
theorem mem_row (note:Bool) (tt f t:Int):∀ x:bO,(∀ c∈x.cells,eY c.flow)→((f,t)∈CP x↔sG f t (yF note tt x))
 | .mk h cs,hx=>by
  have hc:=PE note tt f t cs hx;rw [CP,yF];exact hc
theorem PG (note:Bool) (tt f t:Int):∀ l:List bO,(∀ r∈l,∀ c∈r.cells,eY c.flow)→((f,t)∈sF l↔sG f t (qI note tt l))
 | [],_=>by rw [sF,qI,Km];simp
 | x :: l,hx=>by
  have h1:=mem_row note tt f t x (hx x gD);have h2:=PG note tt f t l (fun r hr=>hx r (jN _ hr));rw [sF,qI,kg,h1,h2,Pn]
theorem Wx (note:Bool) (tt f t:Int):∀ x:bM,eY x.flow→((f,t)∈CK x↔sG f t (yD note tt x))
 | .mk i h fl,hx=>by
  have h1:=KA i 0 note (tt+1) f t fl hx;have hl:=hx.len
  simp only [bM.flow] at hl
  rw [CK,yD,h1,VR]
  simp only [hl]
  refine or_congr ?_ Iff.rfl
  constructor
  ·rintro ⟨e,h2,h3⟩;exact ⟨e,by omega,by omega⟩
  rintro ⟨e,h2,h3⟩;exact ⟨e,by omega,by omega⟩
theorem PE (note:Bool) (tt f t:Int):∀ l:List bM,(∀ c∈l,eY c.flow)→((f,t)∈yC l↔sG f t (rD note tt l))
 | [],_=>by rw [yC,rD,Km];simp
 | x :: l,hx=>by
  have h1:=Wx note tt f t x (hx x gD);have h2:=PE note tt f t l (fun r hr=>hx r (jN _ hr));rw [yC,rD,kg,h1,h2,Pn]
end
mutual
theorem Yx (note:Bool) (t:Int):∀ x:aA,((yE note t x).map iV.id).Sublist (AU x)
 | .mk k c i tx h f r=>by
  have hf:=IG true t f;have hr:=QM note t r;rw [yE,AU]
  by_cases h6:k=6
  ·rw [au h6,au (.inl h6),au h6,ah (by omega),mX];exact List.Sublist.cons_cons _ hf
  rw [ah h6,ah h6,kJ]
  by_cases h7:k=7
  ·rw [au h7,au h7,au (.inr h7)];exact List.Sublist.cons _ hr
  rw [ah h7];exact List.nil_sublist _
theorem IG (note:Bool) (t:Int):∀ l:List aA,((jl note t l).map iV.id).Sublist (uE l)
 | []=>by rw [jl];exact List.nil_sublist _
 | x :: l=>by
  rw [jl,uE,mZ];exact (Yx note t x).append (IG note t l)
theorem Yy (note:Bool) (t:Int):∀ x:bO,((yF note t x).map iV.id).Sublist (Cm x)
 | .mk h cs=>by rw [yF,Cm];exact QL note t cs
theorem QM (note:Bool) (t:Int):∀ l:List bO,((qI note t l).map iV.id).Sublist (AV l)
 | []=>by rw [qI];exact List.nil_sublist _
 | x :: l=>by
  rw [qI,AV,mZ];exact (Yy note t x).append (QM note t l)
theorem Yw (note:Bool) (t:Int):∀ x:bM,((yD note t x).map iV.id).Sublist (Ck x)
 | .mk i h f=>by rw [yD,Ck];exact List.Sublist.cons_cons _ (IG note (t+1) f)
theorem QL (note:Bool) (t:Int):∀ l:List bM,((rD note t l).map iV.id).Sublist (AQ l)
 | []=>by rw [rD];exact List.nil_sublist _
 | x :: l=>by
  rw [rD,AQ,mZ];exact (Yw note t x).append (QL note t l)
end
structure wK (l:List aA):Prop where
 ok:eY l
 nd:(uE l).Nodup
 pos:∀ i∈uE l,1≤i∧i≤1073741824
theorem wK.of {C:gW} {body note:Bool} {t n:Int} {l:List aA} {s':CS} (h:jh C body note t l ⟨n,[]⟩=(0,s')):wK l:=by
 have he:=JF C body note t l _ _ h;have hn:=he.nd List.nodup_nil;rw [he.eq] at hn;exact ⟨⟨C,body,note,t,_,_,h⟩,by simpa using hn,he.pos⟩
theorem wK.ids {l:List aA} (h:wK l):((BR l).map iV.id).Nodup:=by
 have hs:=IG false 0 l;rw [BR,eZ,List.nodup_cons];exact ⟨fun hm=>by have:=h.pos _ (hs.subset hm);dsimp only at this;omega,hs.nodup h.nd⟩
theorem aes {L:List iV} (hn:(L.map iV.id).Nodup) {F:iV} (hF:F∈L):L.find? (fun f=>decide (f.id=F.id))=some F:=by
 induction L with
 | nil=>cases hF
 | cons E L ih =>
  rw [eZ,List.nodup_cons] at hn;rw [List.find?_cons]
  rcases kZ.1 hF with rfl|hF
  ·simp
  have:E.id≠F.id:=fun e=>hn.1 (e ▸ List.mem_map_of_mem hF);rw [gL this];exact ih hn.2 hF
end
section
open Go.RowKit
def BH (s:CS) (z:Nat) (r:CR):Prop:=r.2.bG.length≤s.bG.length+z
theorem BH.and {s:CS} {z y q:Nat} {r:CR} {f:CS→CR} (h:BH s z r) (hq:z+y≤q) (hf:∀ s,BH s y (f s)):BH s q (fT r f):=by
 unfold BH at *
 unfold fT
 split
 ·omega
 have:=hf r.2
 omega
theorem BH.zero (s:CS) (e:Int) (q:Nat):BH s q (e,s):=by unfold BH;dsimp only;omega
theorem YH {l:List aA} {k:Nat} (hk:k < l.length):bC (l.drop k)=1+dh l[k].dat+bC (l.drop (k+1)):=by
 simp only [bC];rw [lW hk,eZ,eX]
end
section
open Go.RowKit
structure aY where
 code:Int
 id:Int
 name:ByteArray
 flow:Int
 at_:Int
def aY.dat (x:aY):List Dat:=[li x.code,li x.id,.lf (.string x.name),li x.flow,li x.at_]
abbrev aY.cells (x:aY):List aj:=[vi x.code,vi x.id,.string x.name,vi x.flow,vi x.at_]
abbrev aY.val (x:aY):aj:=.agg #[vi x.code,vi x.id,.string x.name,vi x.flow,vi x.at_]
theorem Sk {G:GH} {x:aY} {cs:List aj} (h:aZ G x.dat cs):cs=x.cells:=by
 simp only [aY.dat,aZ,av] at h
 obtain ⟨_,_,rfl,⟨rfl,_⟩,_,_,rfl,⟨rfl,_⟩,_,_,rfl,⟨rfl,_⟩,_,_,rfl,⟨rfl,_⟩,_,_,rfl,⟨rfl,_⟩,rfl⟩:=h
 rfl
theorem Z6 (G:GH) (x:aY):aZ G x.dat x.cells :=
 ⟨_,_,rfl,⟨rfl,rfl⟩,_,_,rfl,⟨rfl,rfl⟩,_,_,rfl,⟨rfl,rfl⟩,_,_,rfl,⟨rfl,rfl⟩,_,_,rfl,⟨rfl,rfl⟩,rfl⟩
mutual
def wO (g:Int) (t:Nat):aA→List aY
 | .mk k c i tx _ f r=>(if k=8 then [⟨c,i,tx,g,(t:Int)⟩] else [])++((if k=6 then dL i 0 f else [])++(if k=7 then kY r else []))
/-- The anchors of a flow, and of those in it, in document order. -/
def dL (g:Int):Nat→List aA→List aY
 | _,[]=>[]
 | t,x :: l=>wO g t x++dL g (t+n1 x) l
def kY:List bO→List aY
 | []=>[]
 | x :: l=>wQ x++kY l
def wQ:bO→List aY
 | .mk _ cs=>nJ cs
def nJ:List bM→List aY
 | []=>[]
 | x :: l=>wN x++nJ l
def wN:bM→List aY
 | .mk i _ f=>dL i 0 f
end
theorem MC (g:Int) (t:Nat) (x:aA):wO g t x=(if x.kind=8 then [⟨x.code,x.id,x.text,g,(t:Int)⟩] else [])++((if x.kind=6 then dL x.id 0 x.flow else [])++(if x.kind=7 then kY x.rows else [])):=by cases x;rw [wO];rfl
theorem Sb (x:bO):wQ x=nJ x.cells:=by cases x;rw [wQ];rfl
theorem R8 (x:bM):wN x=dL x.id 0 x.flow:=by cases x;rw [wN];rfl
mutual
theorem ZM (g:Int) (t:Nat):∀ x:aA,(wO g t x).length≤dh x.dat
 | .mk k c i tx h fl r=>by
  have h4:=oU (.mk k c i tx h fl r);have hf:=wP i 0 fl;have hr:=ME r;dsimp only [aA.text,aA.head,aA.flow,aA.rows] at h4;rw [wO,iA,iA]
  split <;> split <;> split <;> simp only [nL,List.length_nil] <;> omega
theorem wP (g:Int):∀ (t:Nat) (l:List aA),(dL g t l).length≤bC l
 | _,[]=>by simp [dL]
 | t,x :: l=>by
  have h1:=ZM g t x;have h2:=wP g (t+n1 x) l;rw [dL,iA]
  simp only [bC,eZ,eX] at *;omega
theorem ZN:∀ x:bO,(wQ x).length≤dh x.dat
 | .mk h cs=>by
  have h4:=Bz (.mk h cs);have hc:=R9 cs;dsimp only [bO.head,bO.cells] at h4;rw [wQ];omega
theorem ME:∀ l:List bO,(kY l).length≤ig l
 | []=>by simp [kY]
 | x :: l=>by
  have h1:=ZN x;have h2:=ME l;rw [kY,iA]
  simp only [ig,eZ,eX] at *;omega
theorem ZK:∀ x:bM,(wN x).length≤dh x.dat
 | .mk i h fl=>by
  have h4:=Bw (.mk i h fl);have hf:=wP i 0 fl;dsimp only [bM.head,bM.flow] at h4;rw [wN];omega
theorem R9:∀ l:List bM,(nJ l).length≤jm l
 | []=>by simp [nJ]
 | x :: l=>by
  have h1:=ZK x;have h2:=R9 l;rw [nJ,iA]
  simp only [jm,eZ,eX] at *;omega
end
theorem PL (x:aA):n1 x+bC x.flow+ig x.rows < dh x.dat:=by
 have h1:=oU x;have h2:=Gw x.text
 unfold n1 dY
 split <;> first|omega|(split <;> omega)
def Dh (a:aY):AP:=fun args _=>args=[a.val]
def QW (P:Program) (fv:aj) (Gi:GH) (xs:List AP) (J:Nat→GH→OL→Prop):Prop :=
 ∀ k args G L w,uK xs k args G→(∀ b o,Gi b=some o→G b=some o)→J k G L→gX G L w→tH P fv args w (gH w G L fun _ G' L'=>J (k+1) G' L')
end
section
open Go.RowKit
abbrev pU (p:Int × Int):aj:=.agg #[vi p.1,vi p.2]
def kV:Nat→List ((Int × Int) × aj)→List MapEntry
 | _,[]=>[]
 | i,(k,v) :: r=>⟨pU k,v,i⟩ :: kV (i+1) r
theorem Wv (x:(Int × Int) × aj):∀ (i:Nat) (l:List ((Int × Int) × aj)),kV i (l++[x])=kV i l++[⟨pU x.1,x.2,i+l.length⟩]
 | _,[]=>rfl
 | i,k :: r=>by
  rw [mW,kV,Wv x (i+1) r,kV,mW,nL,show i+1+r.length=i+(r.length+1) by omega]
def lG (x:Int × Int):List ((Int × Int) × aj)→Option aj
 | []=>none
 | (k,v) :: r=>if k=x then some v else lG x r
theorem Xt {P:Program} {kt:TypeId} (he:zO P kt [0,1]) (w:World) (p q:Int × Int):(Op.equal kt (pU p) (pU q)).run P w=.ok (decide (p=q)) w:=by
 have h1:=Qf (P:=P) (w:=w) (d:=9998) (xs:=#[vi p.1,vi p.2]) (ys:=#[vi q.1,vi q.2]) _ he.ok (by rw [he.um];rfl)
 rw [he.um] at h1
 have h2:=run_equalIn_struct w 9999 kt #[vi p.1,vi p.2] #[vi q.1,vi q.2] he.und he.held
 show (Op.equalIn 10000 kt (pU p) (pU q)).run P w=_
 rw [h2,h1]
 congr 1
 obtain ⟨a,b⟩:=p
 obtain ⟨c,d⟩:=q
 rw [ng]
 simp [jI]
theorem Qe {P:Program} {kt:TypeId} (he:zO P kt [0,1]) (w:World) (e:Bool) (p:Int × Int):(Instr.checkKey e 10000 kt (pU p)).run P w=.ok () w:=by
 show (Instr.checkKey e (9999+1) kt (pU p)).run P w=_
 have hok:=he.ok
 have hfl:=he.um
 rw [Instr.checkKey]
 simp only [bZ,run_underlying he.und,jT]
 rw [← Array.forIn_toList]
 have hall:∀ f∈(P.fieldsOf kt).toList,f.name ≠ "_"∧P.plainKey f.type=true∧P.underlying f.type=some (.int .i64)∧∃ m,(#[vi p.1,vi p.2]:Array aj)[f.offset]?=some (.int .i64 m):=by
  intro f hf
  have h1:=lq.1 hok f hf
  simp only [lu,pz] at h1
  refine ⟨h1.1.1,h1.1.2,?_,?_⟩
  ·have h2:=h1.2
   unfold Ia at h2
   split at h2
   ·assumption
   ·cases h2
  ·have:f.offset∈[0,1]:=by rw [← hfl];exact List.mem_map_of_mem hf
   simp only [kZ,List.not_mem_nil,or_false] at this
   rcases this with h|h
   ·rw [h];exact ⟨p.1,rfl⟩
   ·rw [h];exact ⟨p.2,rfl⟩
 clear hok hfl
 generalize (P.fieldsOf kt).toList=fs at hall
 induction fs with
 | nil=>simp
 | cons f fs ih =>
  obtain ⟨hn,hp,hu,m,hm⟩:=hall f gD
  have p1:=run_part_plain w hp hm
  have p2:=MapKept.run_checkKey (P:=P) (w:=w) (k:=.int .i64 m) hu (by trivial) e 9998
  simp only [List.forIn_cons,bZ,hn,ne_eq,not_false_eq_true,if_true,jT,p1,p2,qh]
  exact ih fun y hy=>hall y (jN _ hy)
theorem Xu {P:Program} {kt:TypeId} (he:zO P kt [0,1]) (w:World) (x:Int × Int):∀ (i j:Nat) (l:List ((Int × Int) × aj)),∃ an,(Instr.findAsking kt (pU x) (kV i l) j).run P w=.ok an w∧an.map (·.2)=lG x l
 | _,_,[]=>⟨none,by simp [kV,Instr.findAsking],rfl⟩
 | i,j,(k,v) :: r=>by
  obtain ⟨an,h1,h2⟩:=Xu he w x (i+1) (j+1) r
  by_cases e:k=x
  ·subst e
   exact ⟨some (j,v),by simp [kV,Instr.findAsking,Xt he,bZ],by rw [lG,au rfl];rfl⟩
  ·exact ⟨an,by simp [kV,Instr.findAsking,Xt he,bZ,show ¬ x=k from fun h=>e h.symm,h1],by rw [lG,ah e];exact h2⟩
theorem aep {P:Program} {kt:TypeId} (he:zO P kt [0,1]) (x:aj):∀ (l:List MapEntry) (j:Nat),l≠[]→Instr.findNow (.struct (P.fieldsOf kt)) x l j=none
 | [],_,h=>absurd rfl h
 | e :: l,j,_=>by simp [Instr.findNow,Instr.sameNow]
theorem Qh {P:Program} {kt:TypeId} (he:zO P kt [0,1]) (w:World) (x:Int × Int) (l:List ((Int × Int) × aj)):∃ an,(Instr.findKey kt (pU x) (kV 0 l)).run P w=.ok an w∧an.map (·.2)=lG x l:=by
 obtain ⟨an,h1,h2⟩:=Xu he w x 0 0 l
 refine ⟨an,?_,h2⟩
 unfold Instr.findKey
 simp only [bZ,run_underlying he.und,jT]
 cases l with
 | nil=>simp only [kV,Instr.findAsking] at h1 ⊢;simpa [Instr.findNow] using h1
 | cons y l =>
  rw [aep he _ _ _ (by obtain ⟨k,v⟩:=y;simp [kV])]
  exact h1
abbrev Bb (l:List ((Int × Int) × aj)):Obj:=.map (kV 0 l).toArray l.length
section
variable {N:Nat} {D:List Deferred} {w0:World} {F:Nat→Prop} {G0 G:GH} {L:OL} {T:List (Nat × aj)}
variable {r:Option Nat} {P:Program} {ops:Array Oper} {Q:Exit→Act→World→Prop} {rest:List Oper} {a:Act} {w:World}
variable {d:Nat} {ty:TypeId} {pos:String} {aN:Array Edge} {g:Option (Nat × Bool)}
theorem KY {t kt et:TypeId} {x y:Operand} {b:Nat} {l:List ((Int × Int) × aj)} {ky:Int × Int} {zv:aj} (hm:P.underlying t=some (.map kt et)) (he:zO P kt [0,1]) (hz:(P.info? et).map (fun i=>i.zero)=some (some zv)) (H:St N D w0 F G0 G L T a w)
  (hw:Region.wanted ⟨some d,.lookup t x y false,ty,pos,aN,g⟩ (yielded ops a.tmps)=true) (hx:ev T x=some (.map (some b))) (hy:ev T y=some (pU ky)) (hb:w.heap[b]?=some (Bb l)) (hd:Nat.blt d N=true)
  (k:∀ a',St N D w0 F G0 G L ((d,(lG ky l).getD zv) :: T) a' w→WL r P ops Q rest a' w):WL r P ops Q (⟨some d,.lookup t x y false,ty,pos,aN,g⟩ :: rest) a w:=by
 obtain ⟨an,h2,han⟩:=Qh he w ky l
 obtain ⟨inf,hi1,hi2⟩:=lK.1 hz
 refine fM (v:=(lG ky l).getD zv) (w':=w) hw rfl ?_ (k _ (H.put hd _ H.hp))
 have h1:=Qe he w (kV 0 l).toArray.isEmpty ky
 replace hb:w.heap[b]?=some (.map (kV 0 l).toArray l.length):=hb
 have h2':(Instr.findKey kt (pU ky) (kV 0 l).toArray.toList).run P w=.ok an w:=by simpa using h2
 generalize (kV 0 l).toArray=es at hb h1 h2'
 rw [← han]
 cases an with
 | none=>simp [execOp,Instr.lookup,H.ev hx,H.ev hy,bZ,kM hm,MapKept.run_getObj_map hb,h1,h2',Result.andThen,zeroValue,zx hi1,hi2]
 | some q=>simp [execOp,Instr.lookup,H.ev hx,H.ev hy,bZ,kM hm,MapKept.run_getObj_map hb,h1,h2',Result.andThen]
theorem Iq {t kt et:TypeId} {x y:Operand} {b:Nat} {l:List ((Int × Int) × aj)} {ky:Int × Int} {zv:aj} (hm:P.underlying t=some (.map kt et)) (he:zO P kt [0,1]) (hz:(P.info? et).map (fun i=>i.zero)=some (some zv)) (H:St N D w0 F G0 G L T a w)
  (hw:Region.wanted ⟨some d,.lookup t x y true,ty,pos,aN,g⟩ (yielded ops a.tmps)=true) (hx:ev T x=some (.map (some b))) (hy:ev T y=some (pU ky)) (hb:w.heap[b]?=some (Bb l)) (hd:Nat.blt d N=true)
  (k:∀ a',St N D w0 F G0 G L ((d,.tuple #[(lG ky l).getD zv,.bool (lG ky l).isSome]) :: T) a' w→WL r P ops Q rest a' w):WL r P ops Q (⟨some d,.lookup t x y true,ty,pos,aN,g⟩ :: rest) a w:=by
 obtain ⟨an,h2,han⟩:=Qh he w ky l
 obtain ⟨inf,hi1,hi2⟩:=lK.1 hz
 refine fM (v:=.tuple #[(lG ky l).getD zv,.bool (lG ky l).isSome]) (w':=w) hw rfl ?_ (k _ (H.put hd _ H.hp))
 have h1:=Qe he w (kV 0 l).toArray.isEmpty ky
 replace hb:w.heap[b]?=some (.map (kV 0 l).toArray l.length):=hb
 have h2':(Instr.findKey kt (pU ky) (kV 0 l).toArray.toList).run P w=.ok an w:=by simpa using h2
 generalize (kV 0 l).toArray=es at hb h1 h2'
 rw [← han]
 cases an with
 | none=>simp [execOp,Instr.lookup,H.ev hx,H.ev hy,bZ,kM hm,MapKept.run_getObj_map hb,h1,h2',Result.andThen,zeroValue,zx hi1,hi2]
 | some q=>simp [execOp,Instr.lookup,H.ev hx,H.ev hy,bZ,kM hm,MapKept.run_getObj_map hb,h1,h2',Result.andThen]
theorem aiZ {t kt et:TypeId} {x y z:Operand} {b i:Nat} {l:List ((Int × Int) × aj)} {ky:Int × Int} {v:aj} (hm:P.underlying t=some (.map kt et)) (he:zO P kt [0,1]) (H:St N D w0 F G0 G L T a w)
  (hw:Region.wanted ⟨none,.mapUpdate t x y z,ty,pos,aN,g⟩ (yielded ops a.tmps)=true) (hx:ev T x=some (.map (some b))) (hy:ev T y=some (pU ky)) (hzv:ev T z=some v) (hi:L[i]?=some (b,Bb l)) (hn:lG ky l=none)
  (k:∀ w',St N D w0 F G0 G (L.set i (b,Bb (l++[(ky,v)]))) T a w'→WL r P ops Q rest a w'):WL r P ops Q (⟨none,.mapUpdate t x y z,ty,pos,aN,g⟩ :: rest) a w:=by
 obtain ⟨an,h2,han⟩:=Qh he w ky l
 have hnone:an=none:=by
  rw [hn] at han
  cases an with
  | none=>rfl
  | some q=>cases han
 subst hnone
 have hb:w.heap[b]?=some (.map (kV 0 l).toArray l.length):=H.hp.own _ (lg hi)
 have h1:=Qe he w false ky
 have h2':(Instr.findKey kt (pU ky) (kV 0 l).toArray.toList).run P w=.ok none w:=by simpa using h2
 have e:(kV 0 l).toArray.push ⟨pU ky,v,l.length⟩=(kV 0 (l++[(ky,v)])).toArray:=by
  rw [Wv,List.push_toArray,kR]
 refine LV (w':={ w with heap:=w.heap.setIfInBounds b (.map ((kV 0 l).toArray.push ⟨pU ky,v,l.length⟩) (l.length+1)) }) hw rfl ?_ ?_
 ·generalize (kV 0 l).toArray=es at hb h2'
  simp [execOp,Instr.mapUpdate,H.ev hx,H.ev hy,H.ev hzv,bZ,kM hm,MapKept.run_getObj_map hb,h1,h2',MapKept.run_setObj_map _ hb,Result.andThen]
 ·refine k _ ?_
  have H':=H.move (H.hp.upd hi (QK (o:=.map ((kV 0 l).toArray.push ⟨pU ky,v,l.length⟩) (l.length+1)) hb))
  rw [e] at H' ⊢
  rw [Bb,iA]
  exact H'
end
end
section
open Go.RowKit
theorem Fj {f t:Int} {L:List iV} (h:sG f t L):f∈L.map iV.id:=by
 obtain ⟨F,hF,rfl,-⟩:=h;exact List.mem_map_of_mem hF
theorem NJ {g:Int} {at_:Nat} {l:List aA} (h:eY l) {p:Int × Int} (hp:p∈vJ g at_ l):(g=p.1∧(at_:Int)≤p.2)∨p.1∈uE l:=by
 rcases (KA g at_ false 0 p.1 p.2 l h).1 hp with ⟨h1,h2,-⟩|h1
 ·exact .inl ⟨h1,h2⟩
 exact .inr ((IG false 0 l).subset (Fj h1))
theorem aeJ {g:Int} {at_:Nat} {x:aA} (h:wL x) {p:Int × Int} (hp:p∈CO g at_ x):(g=p.1∧p.2 < at_+dY x)∨p.1∈AU x:=by
 rcases (Wy g at_ false 0 p.1 p.2 x h).1 hp with ⟨h1,-,h2⟩|h1
 ·exact .inl ⟨h1,h2⟩
 exact .inr ((Yx false 0 x).subset (Fj h1))
theorem UG {l:List bO} (h:∀ r∈l,∀ c∈r.cells,eY c.flow) {p:Int × Int} (hp:p∈sF l):p.1∈AV l:=(QM false 0 l).subset (Fj ((PG false 0 p.1 p.2 l h).1 hp))
theorem aeK {x:bO} (h:∀ c∈x.cells,eY c.flow) {p:Int × Int} (hp:p∈CP x):p.1∈Cm x:=(Yy false 0 x).subset (Fj ((mem_row false 0 p.1 p.2 x h).1 hp))
theorem aeI {l:List bM} (h:∀ c∈l,eY c.flow) {p:Int × Int} (hp:p∈yC l):p.1∈AQ l:=(QL false 0 l).subset (Fj ((PE false 0 p.1 p.2 l h).1 hp))
theorem aeH {x:bM} (h:eY x.flow) {p:Int × Int} (hp:p∈CK x):p.1∈Ck x:=(Yw false 0 x).subset (Fj ((Wx false 0 p.1 p.2 x h).1 hp))
theorem KE (g:Int) (a:Nat):∀ u:Nat,((List.range u).map fun q=>(g,((a+q:Nat):Int))).Nodup
 | 0=>List.nodup_nil
 | u+1=>by
  rw [List.range_succ,mZ,List.nodup_append];refine ⟨KE g a u,by simp,fun p hp q hq=>?_⟩;obtain ⟨i,hi,rfl⟩:=List.mem_map.1 hp;have hi:=oH.1 hi
  simp only [eZ,qj,rH] at hq
  subst hq;intro e
  injection e with _ e
  omega
mutual
theorem ahF (g:Int) (at_:Nat):∀ x:aA,wL x→(AU x).Nodup→g∉AU x→(CO g at_ x).Nodup
 | .mk k c i tx h fl r,hx,hn,hg=>by
  have hf:=KD i 0 fl hx.fl;have hr:=WG r hx.rw;have h0:=hx.KS;have hxf:eY fl:=hx.fl;have Kk:∀ q∈r,∀ c∈q.cells,eY c.flow:=hx.rw
  simp only [aA.kind,aA.rows] at h0
  rw [AU] at hn hg;rw [CO]
  by_cases h6:k=6
  ·rw [au (.inl h6),au h6,ah (show ¬ k=7 by omega),mX] at hn hg;rw [au h6,h0 (by omega),sF,mX]
   simp only [mW,kJ,List.nodup_cons,kZ,not_or] at hn hg
   rw [List.nodup_append];refine ⟨KE _ _ _,hf hn.2 hn.1,fun p hp q hq e=>?_⟩;subst e;obtain ⟨j,-,rfl⟩:=List.mem_map.1 hp
   rcases NJ hxf hq with ⟨h1,-⟩|h1
   ·exact hg.1 h1.symm
   exact hg.2 h1
  rw [ah h6,kJ]
  by_cases h7:k=7
  ·rw [au (.inr h7),ah h6,au h7,kJ] at hn hg
   simp only [mW,kJ,List.nodup_cons,kZ,not_or] at hn hg
   rw [List.nodup_append];refine ⟨KE _ _ _,hr hn.2,fun p hp q hq e=>?_⟩;subst e;obtain ⟨j,-,rfl⟩:=List.mem_map.1 hp;exact hg.2 (UG Kk hq)
  rw [h0 h7,sF,mX];exact KE _ _ _
theorem KD (g:Int) (at_:Nat):∀ l:List aA,eY l→(uE l).Nodup→g∉uE l→(vJ g at_ l).Nodup
 | [],_,_,_=>by rw [vJ];simp
 | x :: l,hl,hn,hg=>by
  obtain ⟨hx,hl⟩:=hl.head;rw [uE,List.nodup_append] at hn;rw [uE,kg,not_or] at hg;rw [vJ,List.nodup_append];refine ⟨ahF g at_ x hx hn.1 hg.1,KD g (at_+n1 x) l hl hn.2.1 hg.2,fun p hp q hq e=>?_⟩;subst e
  rcases aeJ hx hp with ⟨h1,h2⟩|h1
  ·rcases NJ hl hq with ⟨h3,h4⟩|h3
   ·rw [hx.n1] at h4;push_cast at h4;omega
   exact hg.2 (h1 ▸ h3)
  rcases NJ hl hq with ⟨h3,h4⟩|h3
  ·exact hg.1 (h3 ▸ h1)
  exact hn.2.2 _ h1 _ h3 rfl
theorem ahG:∀ x:bO,(∀ c∈x.cells,eY c.flow)→(Cm x).Nodup→(CP x).Nodup
 | .mk h cs,hx,hn=>by
  rw [Cm] at hn;rw [CP];exact WE cs hx hn
theorem WG:∀ l:List bO,(∀ r∈l,∀ c∈r.cells,eY c.flow)→(AV l).Nodup→(sF l).Nodup
 | [],_,_=>by rw [sF];exact List.nodup_nil
 | x :: l,hx,hn=>by
  rw [AV,List.nodup_append] at hn;rw [sF,List.nodup_append];exact ⟨ahG x (hx x gD) hn.1,WG l (fun r hr=>hx r (jN _ hr)) hn.2.1,fun p hp q hq e=>hn.2.2 _ (aeK (hx x gD) hp) _ (UG (fun r hr=>hx r (jN _ hr)) hq) (by rw [e])⟩
theorem ahE:∀ x:bM,eY x.flow→(Ck x).Nodup→(CK x).Nodup
 | .mk i h fl,hx,hn=>by
  rw [Ck,List.nodup_cons] at hn;rw [CK];exact KD i 0 fl hx hn.2 hn.1
theorem WE:∀ l:List bM,(∀ c∈l,eY c.flow)→(AQ l).Nodup→(yC l).Nodup
 | [],_,_=>by rw [yC];exact List.nodup_nil
 | x :: l,hx,hn=>by
  rw [AQ,List.nodup_append] at hn;rw [yC,List.nodup_append];exact ⟨ahE x (hx x gD) hn.1,WE l (fun r hr=>hx r (jN _ hr)) hn.2.1,fun p hp q hq e=>hn.2.2 _ (aeH (hx x gD) hp) _ (aeI (fun r hr=>hx r (jN _ hr)) hq) (by rw [e])⟩
end
theorem wK.vnd {l:List aA} (h:wK l):(vJ 0 0 l).Nodup:=KD 0 0 l h.ok h.nd fun hm=>by have:=h.pos _ hm;omega
end
section
open Go.RowKit
theorem aY.eq_iff (a b:aY):(a.code=b.code∧a.id=b.id∧a.name=b.name∧a.flow=b.flow∧a.at_=b.at_)↔a=b:=by cases a;cases b;simp
instance:DecidableEq aY:=fun a b=>decidable_of_iff _ (aY.eq_iff a b)
def iU (l:List aY) (c i:Int):Option aY:=l.find? fun a=>decide (a.code=c∧a.id=i)
theorem UH {l:List aY} {k:Nat} (hk:k < l.length) (c i:Int):iU (l.take (k+1)) c i=(iU (l.take k) c i).or (if l[k].code=c∧l[k].id=i then some l[k] else none):=by
 unfold iU
 rw [jq hk,List.find?_append,List.find?_cons,List.find?_nil]
 by_cases h:l[k].code=c∧l[k].id=i
 ·rw [au h,iQ h]
 rw [ah h,gL h]
theorem Wi (p q:Int × Int) (v:aj):∀ l:List ((Int × Int) × aj),lG p (l++[(q,v)])=(lG p l).or (if q=p then some v else none)
 | []=>by
  by_cases h:q=p
  ·simp [lG,h]
  simp [lG,h]
 | (k,u) :: r=>by
  rw [mW,lG,lG]
  by_cases h:k=p
  ·rw [au h,au h];rfl
  rw [ah h,ah h];exact Wi p q v r
def tK (acc:List ((Int × Int) × aj)) (l:List aY):Prop:=∀ p:Int × Int,lG p acc=(iU l p.1 p.2).map aY.val
theorem tK.nil:tK [] []:=fun _=>rfl
theorem tK.new {acc:List ((Int × Int) × aj)} {l:List aY} {k:Nat} (h:tK acc (l.take k)) (hk:k < l.length) (hn:lG (l[k].code,l[k].id) acc=none):tK (acc++[((l[k].code,l[k].id),l[k].val)]) (l.take (k+1)):=by
 intro p;rw [Wi,h p,UH hk]
 by_cases e:(l[k].code,l[k].id)=p
 ·subst e;rw [au rfl,au ⟨rfl,rfl⟩];rw [h] at hn
  cases hf:iU (l.take k) l[k].code l[k].id with
  | none=>rfl
  | some x=>rw [hf] at hn;cases hn
 rw [ah e,ah (fun h=>e (Prod.ext h.1 h.2))]
 cases iU (l.take k) p.1 p.2 <;> rfl
theorem tK.old {acc:List ((Int × Int) × aj)} {l:List aY} {k:Nat} (h:tK acc (l.take k)) (hk:k < l.length) (hn:(lG (l[k].code,l[k].id) acc).isSome=true):tK acc (l.take (k+1)):=by
 intro p;rw [h p,UH hk]
 by_cases e:l[k].code=p.1∧l[k].id=p.2
 ·rw [h,Option.isSome_map] at hn;rw [e.1,e.2] at hn;obtain ⟨x,hx⟩:=Option.isSome_iff_exists.1 hn;rw [hx];rfl
 rw [ah e,Option.or_none]
structure kG where
 id:Int
 name:ByteArray
 ff:Int
 fa:Int
 tf:Int
 ta:Int
def kG.dat (x:kG):List Dat:=[li x.id,.lf (.string x.name),li x.ff,li x.fa,li x.tf,li x.ta]
abbrev kG.cells (x:kG):List aj:=[vi x.id,.string x.name,vi x.ff,vi x.fa,vi x.tf,vi x.ta]
theorem XW {G:GH} {x:kG} {cs:List aj} (h:aZ G x.dat cs):cs=x.cells:=by
 simp only [kG.dat,aZ,av] at h
 obtain ⟨_,_,rfl,⟨rfl,_⟩,_,_,rfl,⟨rfl,_⟩,_,_,rfl,⟨rfl,_⟩,_,_,rfl,⟨rfl,_⟩,_,_,rfl,⟨rfl,_⟩,_,_,rfl,⟨rfl,_⟩,rfl⟩:=h
 rfl
theorem XY (G:GH) (x:kG):aZ G x.dat x.cells :=
 ⟨_,_,rfl,⟨rfl,rfl⟩,_,_,rfl,⟨rfl,rfl⟩,_,_,rfl,⟨rfl,rfl⟩,_,_,rfl,⟨rfl,rfl⟩,_,_,rfl,⟨rfl,rfl⟩,_,_,rfl,⟨rfl,rfl⟩,rfl⟩
def BM (l:List aY) (c:Int) (a:aY):Int × Int:=match iU l (c+1) a.id with
 | some e=>if e.flow=a.flow∧a.at_ < e.at_ then (e.flow,e.at_) else (a.flow,a.at_+1)
 | none=>(a.flow,a.at_+1)
def Bn (l:List aY) (c:Int) (a:aY):kG:=⟨a.id,a.name,a.flow,a.at_+1,(BM l c a).1,(BM l c a).2⟩
def jE (l:List aY) (c:Int) (a:aY):Bool:=decide (a.code=c∧iU l c a.id=some a)
def zD (l:List aY) (c:Int):List kG:=(l.filter (jE l c)).map (Bn l c)
theorem XV {l m:List aY} {c:Int} {k:Nat} (hk:k < l.length):((l.take (k+1)).filter (jE m c)).map (Bn m c)=((l.take k).filter (jE m c)).map (Bn m c)++if jE m c l[k]=true then [Bn m c l[k]] else []:=by
 rw [jq hk,List.filter_append,mZ]
 congr 1
 by_cases h:jE m c l[k]=true
 ·rw [au h,List.filter_cons,au h];rfl
 rw [ah h,List.filter_cons,ah h];rfl
mutual
theorem Z9 (g:Int) (t:Nat):∀ x:aA,wL x→((wO g t x).map fun a=>(a.flow,a.at_)).Sublist (CO g t x)
 | .mk k c i tx h fl r,hx=>by
  have hf:=Jp i 0 fl hx.fl;have hr:=Sn r hx.rw;have h0:=hx.KS
  simp only [aA.kind,aA.rows] at h0
  rw [wO,CO,mZ,mZ];have hn:=hx.n1
  by_cases h8:k=8
  ·subst h8
   have hu:dY (.mk 8 c i tx h fl r)=1:=by unfold dY;rw [ah (by simp [aA.kind])]
   rw [hn,hu,au rfl,ah (by omega),ah (by omega),h0 (by omega),sF,show List.range 1=[0] from rfl]
   simp
  rw [ah h8,qj,kJ];refine List.Sublist.trans ?_ (List.sublist_append_right _ _)
  by_cases h6:k=6
  ·rw [au h6,au h6,ah (by omega),qj,mX];exact hf.trans (List.sublist_append_left _ _)
  rw [ah h6,ah h6,qj,kJ,kJ]
  by_cases h7:k=7
  ·rw [au h7];exact hr
  rw [ah h7];exact List.nil_sublist _
theorem Jp (g:Int):∀ (t:Nat) (l:List aA),eY l→((dL g t l).map fun a=>(a.flow,a.at_)).Sublist (vJ g t l)
 | _,[],_=>by rw [dL];exact List.nil_sublist _
 | t,x :: l,hl=>by
  obtain ⟨hx,hl⟩:=hl.head;rw [dL,vJ,mZ,hx.n1];have h2:=Jp g (t+n1 x) l hl;rw [hx.n1] at h2;exact (Z9 g t x hx).append h2
theorem Sn:∀ l:List bO,(∀ r∈l,∀ c∈r.cells,eY c.flow)→((kY l).map fun a=>(a.flow,a.at_)).Sublist (sF l)
 | [],_=>by rw [kY];exact List.nil_sublist _
 | x :: l,h=>by
  rw [kY,sF,mZ];exact (aac x (h x gD)).append (Sn l fun r hr=>h r (jN _ hr))
theorem aac:∀ x:bO,(∀ c∈x.cells,eY c.flow)→((wQ x).map fun a=>(a.flow,a.at_)).Sublist (CP x)
 | .mk hd cs,h=>by rw [wQ,CP];exact Sm cs h
theorem Sm:∀ l:List bM,(∀ c∈l,eY c.flow)→((nJ l).map fun a=>(a.flow,a.at_)).Sublist (yC l)
 | [],_=>by rw [nJ];exact List.nil_sublist _
 | x :: l,h=>by
  rw [nJ,yC,mZ];exact (Z8 x (h x gD)).append (Sm l fun r hr=>h r (jN _ hr))
theorem Z8:∀ x:bM,eY x.flow→((wN x).map fun a=>(a.flow,a.at_)).Sublist (CK x)
 | .mk i hd fl,h=>by rw [wN,CK];exact Jp i 0 fl h
end
end
section
open Go.RowKit
section
variable {N:Nat} {D:List Deferred} {w0:World} {F:Nat→Prop} {G0 G:GH} {L Lo:OL} {T:List (Nat × aj)}
variable {r:Option Nat} {P:Program} {ops:Array Oper} {Q:Exit→Act→World→Prop} {rest:List Oper} {a:Act} {w:World}
variable {d:Nat} {ty:TypeId} {pos:String} {aN:Array Edge} {g:Option (Nat × Bool)}
end
end
section
open Go.RowKit
theorem Nk:∀ args w,(callFunc 34 args).run prog w=.ok (.enter 34 args) w:=enters func34 rfl (by kernel_rfl)
theorem Qu:pq prog 45 [(0,1),(1,1)] [.int .i64 0,.int .i64 0]:=⟨by kernel_rfl,by kernel_rfl⟩
theorem X5:pq prog 47 [(0,1),(1,1),(2,1),(3,2)] [.int .i64 0,.int .i64 0,.string ⟨#[]⟩,.int .i64 0,.int .i64 0]:=⟨by kernel_rfl,by kernel_rfl⟩
theorem TP:∀ args w,(callFunc 18 args).run prog w=.ok (.enter 18 args) w:=enters func18 rfl (by kernel_rfl)
def Ma (n:Nat):Prop:=∀ (fv:aj) (Gi:GH) (xs:List AP) (J:Nat→GH→OL→Prop) (G:GH) (L:OL) (w0:World) (j:Nat) (g:Int) (l:List aA) (v:aj),
 (∀ b o,Gi b=some o→G b=some o)→QW prog fv Gi xs J→CY J→J j G L→gX G L w0→av G (.sl 11 (l.map aA.dat)) v→eY l→bC l < n→(∀ i a,(dL g 0 l)[i]?=some a→xs[j+i]?=some (Dh a)) →
 Calls prog 34 #[vi g,v,fv] w0 (gH w0 G L fun _ G' L'=>J (j+(dL g 0 l).length) G' L')
set_option maxHeartbeats 4000000 in
theorem aad {n:Nat} (ih:Ma n) (hn:n≤4294967296):Ma (n+1):=by
 intro fv Gi xs J G L w0 j0 g l v hGi hcb uY hJ0 hO hv hok hz hx0;obtain ⟨A,c,rfl,hc1,hc2,hg⟩:=hv.slice;rw [bQ] at *;have hll:=CQ l;have hml:maxLen=9223372036854775807:=rfl;refine jO (N:=83) (T:=[(0,_),(1,_),(2,_)]) func34 rfl ntmps34 rfl rfl hO ?_;intro a H;refine kP H (SR fun _ K1=>ak K1 rfl (SR fun _ K2=>Rm rfl (Rl gV rfl (Rm rfl (Kz K2 (SB ?_))))));clear H K1 K2;intro a H;skip;refine eT (ι:=Nat × Nat × Nat × OL × GH) (Tc:=[(0,_),(1,_),(2,_),(15,_),(16,_)]) (Lc:=[]) (fun gh=>[(6,vi gh.2.1),(17,vi gh.1)]) (fun gh=>[]++gh.2.2.2.1) (fun gh=>gh.2.2.2.2) (fun gh=>gh.1≤l.length∧(∀ b o,G b=some o→gh.2.2.2.2 b=some o)∧eY (l.drop gh.1)∧gh.2.1+bC (l.drop gh.1)≤4294967297∧Now xs Dh J (j0+(dL g 0 l).length) gh.2.2.1 (dL g gh.2.1 (l.drop gh.1)) gh.2.2.2.2 gh.2.2.2.1) (fun gh=>l.length - gh.1) ((0,0,j0,L,G)) (by exact (H).sub ⟨rfl,rfl,rfl,rfl,rfl,rfl,rfl,aD⟩) ?_ ?_
 ·exact ⟨by omega,fun _ _ h=>h,hok,by dsimp only;rw [uP];omega,⟨hJ0,hx0,rfl⟩⟩
 clear H;intro gh a w hI H;obtain ⟨k,t,j,Lt,g1⟩:=gh;dsimp only at hI H;obtain ⟨hk,hgm,hok1,hat,dZ⟩:=hI;dsimp only [lca,bg] at H;refine kP H (SR fun _ K3=>Rc rfl (Kz K3 (SQ fun _ K4=>Cd rfl ?_ ?_))) <;> clear H K3
 ·intro h18 a H
  try have wz:=dT h18
  have hk2:k < l.length:=by omega
  obtain ⟨b,o,pA,pn,pc,dA,dn,dc,yA,yn,yc,fA,fn,fc,rA,rn,rc,rfl,hrow,hhd,hfl,hrw⟩:=Ai hk2 hg;replace hrow:=fun j u hj=>aK hgm (hrow j u hj);replace hfl:=hfl.mono hgm;replace hrw:=hrw.mono hgm;have hpart:=(hv.mono hgm).part k (k+1) (by omega) (by rw [bQ];omega)
  have he1:((l.map aA.dat).drop k).take 1=[l[k]].map aA.dat:=by rw [lW (by simpa using hk2)];simp
  have hc3:¬ c=k:=by omega
  have hrn:=hrw.len;rw [bQ] at hrn;subst hrn;have hzs:=YH hk2;have hzi:=oU l[k];have Kl:=IK (iL hk2);have DR:=PL l[k];rw [lW hk2] at hok1 dZ;obtain ⟨hox,hok2⟩:=hok1.head;have hn1:=hox.n1;rw [dL,MC] at dZ;obtain ⟨x,hx⟩:∃ x,x=l[k]:=⟨_,rfl⟩;rw [← hx] at dZ hox hrow hhd hfl hrw hzs hzi Kl DR he1 hn1;have hrl:=IQ x.rows;refine kP H (Kc K4 (SQ fun _ K5=>SB (SR fun _ K6=>Rm rfl (Ri gV dM rfl rfl ?_))));clear H K4;intro a H;refine bD dM (cs:=[_,_,_,_,_,_,_,_,_,_,_]) H wn rfl rfl (fun j v hj=>H.hp.aI (hrow j v hj)) rfl ?_;clear H;intro a H;refine eB dM H wn rfl ?_;clear H;intro b8 a w Dz H;refine kH H (Ra rfl ?_);clear H;intro a H;refine bH dM 0 (vs:=[_,_,_,_,_,_,_,_,_,_,_]) _ H wn rfl rfl rfl rfl rfl rfl rfl rfl ?_;clear H;intro w H;dsimp only [List.set,setRow] at H;refine K6 _ _ ?_;clear K6;refine pF (ι:=Nat × OL × GH) (Tc:=[(0,_),(1,_),(2,_),(6,_),(7,_),(15,_),(16,_),(17,_)]) (Lc:=[(_,_)]) (fun gh=>[]) (fun gh=>[]++gh.2.1) (fun gh=>gh.2.2) (fun gh=>(∀ b o,g1 b=some o→gh.2.2 b=some o)∧Now xs Dh J (j0+(dL g 0 l).length) gh.1 (dL g (t+n1 x) (l.drop (k+1))) gh.2.2 gh.2.1) (by exact (H).sub ⟨rfl,rfl,rfl,rfl,rfl,rfl,rfl,rfl,aD⟩) ?_ ?_
  ·skip;refine kP H (SR fun _ K7=>aP jB aC 0 rfl rfl (Kz K7 (SB (SR fun _ K8=>Rc rfl (ak K8 rfl (Cd rfl ?_ ?_)))))) <;> clear H K7 K8
   ·intro dD a H
    try have jS:=dT dD
    rw [au jS,ah (by omega),ah (by omega)] at dZ
    simp only [mW,kJ] at dZ
    refine kP H (SC (Rm rfl (aP Dr aC 0 rfl rfl (aP Af aC 0 rfl rfl (aP uj fZ 0 rfl rfl (Rm rfl (Rm rfl ?_)))))));clear H;intro a H;refine iT Qu [_,_] H wn rfl rfl rfl rfl ?_;clear H;intro a H;refine iT X5 [_,_,_,_,_] H wn rfl rfl rfl rfl ?_;clear H;intro a H;refine FC (Li:=[_]) (L:=Lt) H wn rfl rfl (hcb _ _ _ _ _ ⟨_,dZ.head,rfl⟩ (fun b o h=>hgm b o (hGi b o h)) dZ.now (Hp.owns (Li:=[_]) H.hp)) rfl ?_;clear H;intro v37 Zc ZF a w aeY afN H;have rT:=dZ.step aeY;refine aH ?_;refine ⟨(j+1,ZF,Zc),by exact (H).sub ⟨rfl,rfl,rfl,rfl,rfl,rfl,rfl,rfl,aD⟩,?_⟩;(try dsimp only);exact ⟨afN,rT⟩
   intro dD a H
   try have jS:=dF dD
   rw [ah jS,kJ,oo] at dZ;refine kP H (SR fun _ K9=>Rc rfl (ak K9 rfl (Cd rfl ?_ ?_))) <;> clear H K9
   ·intro kT a H
    try have p38:=dT kT
    rw [au p38,ah (by omega),kJ] at dZ;refine kP H (SC (aP Af aC 0 rfl rfl (aP yV iD 0 rfl rfl (Rm rfl ?_))));clear H;intro a H;refine gU Nk (Li:=[_]) (L:=Lt) H wn rfl (ih fv Gi xs J _ _ _ j x.id x.flow _ (fun b o h=>hgm b o (hGi b o h)) hcb uY dZ.now (Hp.owns (Li:=[_]) H.hp) hfl hox.fl (by omega) dZ.part) rfl ?_;clear H;intro v45 Mh ZG a w aeZ OM H;have rT:=dZ.jump aeZ;refine aH ?_;refine ⟨(j+(dL x.id 0 x.flow).length,ZG,Mh),by exact (H).sub ⟨rfl,rfl,rfl,rfl,rfl,rfl,rfl,rfl,aD⟩,?_⟩;(try dsimp only);exact ⟨OM,rT⟩
   intro kT a H
   try have p38:=dF kT
   rw [ah p38,kJ] at dZ;refine kP H (SR fun _ aT=>Rc rfl (ak aT rfl (Cd rfl ?_ ?_))) <;> clear H aT
   ·intro h46 a H
    try have p46:=dT h46
    rw [au p46] at dZ;refine kP H (SR fun _ bq=>aP qN rz 0 rfl rfl (Rl mU rfl (Rm rfl (Kz bq (SB ?_)))));clear H bq;intro a H;skip;refine eT (ι:=Nat × Nat × OL × GH) (Tc:=[(0,_),(1,_),(2,_),(6,_),(7,_),(15,_),(16,_),(17,_),(49,_),(50,_)]) (Lc:=[(_,_)]) (fun gh=>[(51,vi gh.1)]) (fun gh=>[]++gh.2.2.1) (fun gh=>gh.2.2.2) (fun gh=>gh.1≤x.rows.length∧(∀ b o,g1 b=some o→gh.2.2.2 b=some o)∧Now xs Dh J (j0+(dL g 0 l).length) gh.2.1 (kY (x.rows.drop gh.1)++dL g (t+n1 x) (l.drop (k+1))) gh.2.2.2 gh.2.2.1) (fun gh=>x.rows.length - gh.1) ((0,j,Lt,g1)) (by exact (H).sub ⟨rfl,rfl,rfl,rfl,rfl,rfl,rfl,rfl,rfl,rfl,rfl,aD⟩) ?_ ?_
    ·exact ⟨by omega,fun _ _ h=>h,dZ⟩
    clear H;intro gh a w hI H;obtain ⟨rk,j3,Lt3,g3⟩:=gh;dsimp only at hI H;obtain ⟨Ki,hg3,rT⟩:=hI;dsimp only [lca,bg] at H;refine kP H (SR fun _ bF=>Rc rfl (Kz bF (SQ fun _ bJ=>Cd rfl ?_ ?_))) <;> clear H bF
    ·intro nk a H
     try have p52:=dT nk
     have hk3:rk < x.rows.length:=by omega
     obtain ⟨b2,o2,qA,qn,qc,eA,en,ec,zA,zn,zc,cA,cn,cc,rfl,hrow,AO,hcl⟩:=Im hk3 (hrw.mono hg3).at_;have hcn:=hcl.len;rw [bQ] at hcn;subst hcn;have hsz2:=LY hk3;have hcs:=II x.rows[rk].cells;have hoc:=hox.rw _ (iL hk3);rw [lW hk3] at rT
     simp only [kY,Sb,oo] at rT
     obtain ⟨y,hy⟩:∃ y,y=x.rows[rk]:=⟨_,rfl⟩;rw [← hy] at rT hrow AO hcl hsz2 hcs hoc;refine kP H (Kc bJ (SQ fun _ bN=>SB (SR fun _ cK=>Ri mU kE rfl rfl ?_)));clear H bJ;intro a H;refine bD kE (cs:=[_,_,_,_,_,_]) H wn rfl rfl (fun j v hj=>H.hp.aI (hrow j v hj)) rfl ?_;clear H;intro a H;refine eB kE H wn rfl ?_;clear H;intro b10 a w Hl H;refine bH kE 0 (vs:=[_,_,_,_,_,_]) _ H wn rfl rfl rfl rfl rfl rfl rfl rfl ?_;clear H;intro w H;dsimp only [List.set,setRow] at H;refine cK _ _ ?_;clear cK;refine kP H (SR fun _ dw=>aP vV wI 0 rfl rfl (Rl qH rfl (Rm rfl (Kz dw (SB ?_)))));clear H dw;intro a H;skip;refine eT (ι:=Nat × Nat × OL × GH) (Tc:=[(0,_),(1,_),(2,_),(6,_),(7,_),(15,_),(16,_),(17,_),(49,_),(50,_),(51,_),(56,_),(57,_)]) (Lc:=[(_,_),(_,_)]) (fun gh=>[(58,vi gh.1)]) (fun gh=>[]++gh.2.2.1) (fun gh=>gh.2.2.2) (fun gh=>gh.1≤y.cells.length∧(∀ b o,g3 b=some o→gh.2.2.2 b=some o)∧Now xs Dh J (j0+(dL g 0 l).length) gh.2.1 (nJ (y.cells.drop gh.1)++(kY (x.rows.drop (rk+1))++dL g (t+n1 x) (l.drop (k+1)))) gh.2.2.2 gh.2.2.1) (fun gh=>y.cells.length - gh.1) ((0,j3,Lt3,g3)) (by exact (H).sub ⟨rfl,rfl,rfl,rfl,rfl,rfl,rfl,rfl,rfl,rfl,rfl,rfl,rfl,rfl,aD⟩) ?_ ?_
     ·exact ⟨by omega,fun _ _ h=>h,rT⟩
     clear H;intro gh a w hI H;obtain ⟨ck,j4,Lt4,g4⟩:=gh;dsimp only at hI H;obtain ⟨hck,hg4,sW⟩:=hI;dsimp only [lca,bg] at H;refine kP H (SR fun _ bY=>Rc rfl (Kz bY (SQ fun _ dz=>Cd rfl ?_ ?_))) <;> clear H bY
     ·intro iB a H
      try have p59:=dT iB
      have hk4:ck < y.cells.length:=by omega
      obtain ⟨b3,o3,sA,sn,sc,tA,tn,tc,uA,un,uc,gA,gn,gc,rfl,hrow,hch,hcf⟩:=Gm hk4 (hcl.mono hg4).at_;have O9:=LX hk4;have Ke:=hoc _ (iL hk4);rw [lW hk4] at sW
      simp only [nJ,R8,oo] at sW
      refine kP H (Kc dz (SQ fun _ fC=>SB (SR fun _ dN=>Ri qH mF rfl rfl ?_)));clear H dz;intro a H;refine bD mF (cs:=[_,_,_,_,_,_,_]) H wn rfl rfl (fun j v hj=>H.hp.aI (hrow j v hj)) rfl ?_;clear H;intro a H;refine eB mF H wn rfl ?_;clear H;intro b12 a w Aw H;refine bH mF 0 (vs:=[_,_,_,_,_,_,_]) _ H wn rfl rfl rfl rfl rfl rfl rfl rfl ?_;clear H;intro w H;dsimp only [List.set,setRow] at H;refine dN _ _ ?_;clear dN;refine kP H (SC (aP GU aC 0 rfl rfl (aP ET iD 0 rfl rfl (Rm rfl ?_))));clear H;intro a H;refine gU Nk (Li:=[_,_,_]) (L:=Lt4) H wn rfl (ih fv Gi xs J _ _ _ j4 y.cells[ck].id y.cells[ck].flow _ (fun b o h=>hg4 b o (hg3 b o (hgm b o (hGi b o h)))) hcb uY sW.now (Hp.owns (Li:=[_,_,_]) H.hp) hcf Ke (by omega) sW.part) rfl ?_;clear H;intro v67 Zn ZH a w afa afU H;have agd:=sW.jump afa;refine kH H (Kn fC (SC (Rd rfl (Rm rfl ?_))));clear H fC;intro a H;refine aH ?_;refine cu ((ck+1,j4+(dL y.cells[ck].id 0 y.cells[ck].flow).length,ZH,Zn)) (by exact (H.dK (Pl:=[_,_,_]) (cB:=[_,_]) [1,2] (by decide) rfl).sub ⟨rfl,rfl,rfl,rfl,rfl,rfl,rfl,rfl,rfl,rfl,rfl,rfl,rfl,rfl,aD⟩) ?_ ?_
      ·(try dsimp only);exact ⟨by omega,fun b o h=>afU b o (hg4 b o h),agd⟩
      first|omega|(dsimp only;omega)
     intro iB a H
     try have p59:=dF iB
     refine dU ?_;refine bN _ _ ?_;clear bN;refine kP H (SC (Rd rfl (Rm rfl ?_)));clear H;intro a H;refine aH ?_;refine cu ((rk+1,j4,Lt4,g4)) (by exact (H.dK (Pl:=[_,_]) (cB:=[_]) [1] (by decide) rfl).sub ⟨rfl,rfl,rfl,rfl,rfl,rfl,rfl,rfl,rfl,rfl,rfl,aD⟩) ?_ ?_
     ·(try dsimp only);exact ⟨by omega,fun b o h=>hg4 b o (hg3 b o h),by rw [iK (by omega),nJ,kJ] at sW;exact sW⟩
     first|omega|(dsimp only;omega)
    intro nk a H
    try have p52:=dF nk
    refine dU ?_;refine ⟨(j3,Lt3,g3),by exact (H).sub ⟨rfl,rfl,rfl,rfl,rfl,rfl,rfl,rfl,aD⟩,?_⟩;(try dsimp only);exact ⟨hg3,by rw [iK (by omega),kY,kJ] at rT;exact rT⟩
   intro h46 a H
   try have p46:=dF h46
   rw [ah p46,kJ] at dZ;refine gI ?_;refine ⟨(j,Lt,g1),by exact (H).sub ⟨rfl,rfl,rfl,rfl,rfl,rfl,rfl,rfl,aD⟩,?_⟩;(try dsimp only);exact ⟨fun _ _ h=>h,dZ⟩
  clear H;intro gh a w hI H;obtain ⟨j2,Lt2,g2⟩:=gh;dsimp only at hI H;obtain ⟨hg2,agc⟩:=hI;dsimp only [lca,bg] at H;refine kP H (SR fun _ fQ=>Rm rfl (Rm rfl (Rm rfl (Rd rfl ?_))));clear H;intro a H;refine ajc gV dM k (k+1) H wn rfl rfl rfl rfl (by omega) (by omega) (by omega) rfl ?_;clear H;intro a H;rw [ah hc3,Option.map_some,add_lit,MG] at H;refine s_call TP H wn rfl (V9 _ _ H.ro [x] _ (by have h:=hpart;rw [ah hc3,Option.map_some,add_lit,MG,he1] at h;exact h.mono hg2) (by show 1+dh x.dat+0≤_;omega)) rfl ?_;clear H;rintro v76 G76 a w ⟨rfl,rfl⟩ - H;rw [ahf] at H;refine kH H (Rm rfl ?_);clear H;intro a H;(iterate 2 refine kN H wn rfl rfl rfl ?_;clear H;intro a H);refine kH H (Ra rfl (ak fQ rfl (SC (Rm rfl (Rm rfl (Rd rfl (aU K5 rfl (SC (Rd rfl (Rm rfl ?_))))))))));clear H fQ K5;intro a H;refine aH ?_;refine cu ((k+1,t+n1 x,j2,Lt2,g2)) (by exact (H.dK (Pl:=[_]) (cB:=[]) [] (by decide) rfl).sub ⟨rfl,rfl,rfl,rfl,rfl,rfl,rfl,aD⟩) ?_ ?_
  ·(try dsimp only);exact ⟨by omega,fun b o h=>hg2 b o (hgm b o h),hok2,by omega,agc⟩
  first|omega|(dsimp only;omega)
 intro h18 a H
 try have wz:=dF h18
 refine dU ?_;refine (leave0 H results34 ?_).2;exact H.hp.fI (L':=Lt) (by repeat (first|exact fV _|apply List.Sublist.cons)) (by rw [iK (by omega),dL] at dZ;have:=dZ.len;simp only [List.length_nil,tT] at this;rw [← this];exact dZ.now)
theorem Sr:∀ n:Nat,n≤4294967297→Ma n
 | 0,_=>fun _ _ _ _ _ _ _ _ _ _ _ _ _ _ _ _ _ _ h=>absurd h (by omega)
 | n+1,hn=>aad (Sr n (by omega)) (by omega)
end
section
open Go.RowKit
theorem xq {G:GH} {b:Nat} {cs:List aj} {e:TypeId} {q:Nat × Nat} (h:G b=some (.cells cs.toArray e q)) (k:Nat) (ds:List aj) (hd:ds=(cs.drop k).take ds.length) (j:Nat) (v:aj) (hj:ds[j]?=some v):aI G b (k+j)=some v:=by
 unfold aI
 rw [h]
 show cs.toArray[k+j]?=some v
 rw [hd,tQ] at hj
 split at hj
 ·simpa using hj
 cases hj
end
section
open Go.RowKit
theorem kF:prog.underlying 41=some (.slice 47):=by kernel_rfl
theorem gq:Ty prog 47 5 48 [.int .i64 0,.int .i64 0,.string ⟨#[]⟩,.int .i64 0,.int .i64 0] true:=⟨by kernel_rfl,by kernel_rfl⟩
theorem LG:Ty prog 41 1 24 [.slice none 0 0] false:=⟨by kernel_rfl,by kernel_rfl⟩
theorem zL:prog.underlying 129=some (.map 134 47):=by kernel_rfl
theorem jr:bW prog 47 0 0:=⟨by kernel_rfl⟩
theorem nM:bW prog 47 1 1:=⟨by kernel_rfl⟩
theorem Bo:pq prog 134 [(0,1),(1,1)] [.int .i64 0,.int .i64 0]:=⟨by kernel_rfl,by kernel_rfl⟩
theorem LB:Ty prog 134 2 16 [.int .i64 0,.int .i64 0] true:=⟨by kernel_rfl,by kernel_rfl⟩
theorem acU:∀ args w,(callFunc 35 args).run prog w=.ok (.enter 35 args) w:=enters func35 rfl (by kernel_rfl)
def qM (l:List aY):List aj:=(l.map aY.cells).flatten
theorem ZX {l:List aY} {k:Nat} (hk:k < l.length):qM (l.take (k+1))=qM (l.take k)++l[k].cells:=by
 unfold qM
 rw [jq hk,mZ,List.flatten_append]
 simp
theorem MI (G:GH):∀ l:List aY,fE G 5 (l.map aY.dat) (qM l)
 | []=>fE.nil
 | x :: l=>by
  have h1:fE G 5 [x.dat] x.cells:=by
   have:=(fE.nil (G:=G) (sz:=5)).snoc (q:=x.dat) (cs:=x.cells) (Z6 G x) rfl
   simpa using this
  rw [eZ,← List.singleton_append];exact h1.append (MI G l)
def R3 (bo:Nat) (A:List aY):Nat→GH→OL→Prop:=fun k _ L=>k≤A.length∧∃ v Lo,L=(bo,.cells #[v] 41 (0,0)) :: Lo∧dx 47 5 v k (qM (A.take k)) Lo
theorem ahm (Gi:GH) (bo:Nat) (A:List aY) (hA:A.length≤4294967296):QW prog (.func (.func 35) #[] #[(aJ bo 0)]) Gi (A.map Dh) (R3 bo A):=by
 rintro k args G L w0 ⟨p,hp,hargs⟩ hGi ⟨-,v,Lo,rfl,hrw⟩ hO;rw [qL] at hp;obtain ⟨x,hx,rfl⟩:=lK.1 hp;obtain ⟨hk,hxe⟩:=jk.1 hx;have ha:args=[x.val]:=hargs;subst ha;obtain ⟨vA,vc,rfl,-,-⟩:=hrw.shape;have hml:maxLen=9223372036854775807:=rfl;refine lX (caps:=[(aJ bo 0)]) acU ?_;refine jO (N:=7) (T:=[(0,_),(1,_)]) func35 rfl ntmps35 rfl rfl hO ?_;intro a H;refine dB (fun _ K1=>?_);refine eU (cs:=[_,_,_,_,_]) H wn rfl rfl rfl ?_;clear H;intro b2 a w hb2 H;refine K1 _ _ ?_;clear K1;refine kP H (SC (Ro LG 1 rfl ?_));clear H;intro a H;refine bD gq (cs:=[_,_,_,_,_]) H wn rfl rfl (H.hp.dS 0 rfl rfl) rfl ?_;clear H;intro a H;refine gQ kF gq [_,_,_,_,_] [_,_,_,_,_] H wn rfl rfl rfl rfl rfl (by intro i q h;match i,h with|0,h=>exact h|n+1,h=>simp at h) rfl rfl ?_;clear H;intro b5 a w hb5 H;refine nU (Li:=[_,_,_]) (Lo:=Lo) (news:=x.cells) kF gq rfl rfl H wn rfl rfl hrw rfl (H.hp.dS 0 rfl rfl) rfl (by omega) (by omega) rfl ?_;clear H;intro v6 RY a w VB H;obtain ⟨FR,FT,rfl,-,-⟩:=VB.shape;refine bH LG 2 (vs:=[_]) _ H wn rfl rfl rfl rfl rfl rfl rfl rfl ?_;clear H;intro w H;dsimp only [List.set,setRow] at H;refine aH ?_;refine (leave0 H results35 ?_).2;exact H.hp.fI (L':=(bo,.cells #[.slice FR (k+1) FT] 41 (0,0)) :: RY) (by repeat (first|exact fV _|apply List.Sublist.cons)) ⟨hk,_,RY,rfl,by rw [ZX hk,hxe];exact VB⟩
theorem Wh (G:GH) (w0:World) (hG:Hold G w0) (D:mI) (l:List aA) (hv:av G (.sl 11 (l.map aA.dat)) (eD D.f)) (hok:eY l) (hz:bC l≤4294967296) :
  Calls prog 11 #[D.val] w0 (bE w0 G fun u G'=>av G' (.sl 5 ((dL 0 0 l).map aY.dat)) u):=by
 have hn:=wP 0 0 l;refine eN [(0,_)] func11 rfl ntmps11 rfl rfl hG ?_;intro a H;refine dB (fun _ K1=>?_);refine eU (cs:=[_,_,_,_,_,_,_,_,_,_,_]) H wn rfl rfl rfl ?_;clear H;intro b1 a w hb1 H;refine kH H (ak K1 rfl (SQ fun _ K2=>?_));clear H K1;intro a H;obtain ⟨Ga,hma,hb',H⟩:=H.dP;have hga:=fun j v hj=>xq hb' 0 D.cells rfl j v hj;replace hv:=hv.mono hma;refine pE ?_;refine eB LG H wn rfl ?_;clear H;intro b3 a w hb3 H;refine kH H (Kn K2 (SR fun _ K3=>Rf Dp rfl (Rg iD rfl (hga 0 _ rfl) ?_)));clear H K2;intro a H;refine pY H wn rfl rfl ?_;clear H;intro a H;refine gU Nk (Li:=[]) (L:=[(b3,.cells #[.slice none 0 0] 41 (0,0))]) H wn rfl (Sr 4294967297 (by omega) _ Ga ((dL 0 0 l).map Dh) (R3 b3 (dL 0 0 l)) _ _ _ 0 0 l _ (fun _ _ h=>h) (ahm Ga b3 (dL 0 0 l) (by omega)) (fun _ _ _ _ _ h=>h) ⟨iy _,_,[],rfl,dx.nil⟩ (Hp.owns (Li:=[]) H.hp) hv hok (by omega) (fun i a h=>by rw [kR,qL,h];rfl)) rfl ?_;clear H;rintro v7 G7 L7 a w ⟨-,v,Lo,rfl,hrw⟩ AJ H;rw [kR,wT] at hrw;dsimp only [List.nil_append] at H;refine K3 _ _ ?_;clear K3;refine kP H (SR fun _ K4=>Ro LG 0 rfl (ak K4 rfl ?_));clear H K4;intro a H;refine lr H results11 rfl ?_;obtain ⟨Gr,hmr,hrep,H⟩:=St.uo (Li:=[_]) H hrw (rows:=(dL 0 0 l).map aY.dat) (by simp) (MI _ _);exact H.rt hrep
theorem yS:zO prog 134 [0,1]:=⟨by kernel_rfl,by kernel_rfl,by kernel_rfl,by kernel_rfl,by kernel_rfl⟩
def mH:aY:=⟨0,0,⟨#[]⟩,0,0⟩
theorem AZ {acc:List ((Int × Int) × aj)} {l:List aY} (h:tK acc l) (p:Int × Int):(lG p acc).getD mH.val=((iU l p.1 p.2).getD mH).val:=by
 rw [h p];cases iU l p.1 p.2 <;> rfl
theorem BJ {G:GH} {A:List aY} {v:Option Addr} {n c k:Nat} (h:av G (.sl 5 (A.map aY.dat)) (.slice v n c)) (hk:k < A.length):∃ b o,v=some ⟨b,o,none⟩∧∀ j u,A[k].cells[j]?=some u→aI G b (o+k*5+j)=some u:=by
 obtain ⟨b,o,cs,rfl,hcl,hrow,hr⟩:=h.at_ k A[k].dat (by simp [hk]);obtain rfl:=Sk hr;exact ⟨b,o,rfl,hrow⟩
set_option maxHeartbeats 1000000 in
theorem Uz (G:GH) (w0:World) (hG:Hold G w0) (A:List aY) (v:aj) (hv:av G (.sl 5 (A.map aY.dat)) v) (hl:A.length≤4294967296) :
  Calls prog 51 #[v] w0 (bE w0 G fun u G'=>∃ b acc,u=.map (some b)∧G' b=some (Bb acc)∧tK acc A):=by
 obtain ⟨vA,n,c,rfl⟩:=hv.form;have hn:=hv.len;rw [bQ] at hn;subst hn;have hml:maxLen=9223372036854775807:=rfl;refine eN [(0,_)] func51 rfl ntmps51 rfl rfl hG ?_;intro a H;refine kP H (SR fun _ K1=>ak K1 rfl (SR fun _ K2=>?_));clear H K1;intro a H;refine Cx H wn rfl ?_;clear H;intro b9 a w ze H;refine kH H (ak K2 rfl (SQ fun _ K3=>SR fun _ K4=>Rm rfl (Rl kF rfl (Rm rfl (Kz K4 (SB ?_))))));clear H K2 K4;intro a H;skip;refine eT (ι:=Nat × List ((Int × Int) × aj)) (Tc:=[(3,_),(10,_),(11,_)]) (Lc:=[]) (fun (gh:Nat × List ((Int × Int) × aj))=>[(12,vi gh.1)]) (fun (gh:Nat × List ((Int × Int) × aj))=>[(b9,Bb gh.2)]) (fun (gh:Nat × List ((Int × Int) × aj))=>G) (fun (gh:Nat × List ((Int × Int) × aj))=>gh.1≤A.length∧tK gh.2 (A.take gh.1)) (fun (gh:Nat × List ((Int × Int) × aj))=>A.length - gh.1) ((0,[])) (by exact (H).sub ⟨rfl,rfl,rfl,rfl,aD⟩) ?_ ?_
 ·exact ⟨iy _,tK.nil⟩
 clear H;intro gh a w hI H;obtain ⟨k,acc⟩:=gh;dsimp only at hI H;obtain ⟨hk,hfm⟩:=hI;dsimp only [lca,bg] at H;refine kP H (SR fun _ K5=>Rc rfl (Kz K5 (SQ fun _ K6=>Cd rfl ?_ ?_))) <;> clear H K5
 ·intro gy a H
  try have qC:=dT gy
  have hk2:k < A.length:=by omega
  obtain ⟨b,o,rfl,hrow⟩:=BJ hv hk2;refine kP H (Kc K6 (SQ fun _ K7=>SB (SR fun _ K8=>Ri kF gq rfl rfl ?_)));clear H K6;intro a H;refine bD gq (cs:=A[k].cells) H wn rfl rfl (fun j v hj=>H.hp.aI (hrow j v hj)) rfl ?_;clear H;intro a H;refine eB gq H wn rfl ?_;clear H;intro b5 a w hb5 H;refine bH gq 0 (vs:=[_,_,_,_,_]) _ H wn rfl rfl rfl rfl rfl rfl rfl rfl ?_;clear H;intro w H;dsimp only [List.set,setRow] at H;refine K8 _ _ ?_;clear K8;refine kP H (SR fun _ K9=>aP jr aC 0 rfl rfl (aP nM aC 0 rfl rfl ?_));clear H;intro a H;refine iT Bo [_,_] H wn rfl rfl rfl rfl ?_;clear H;intro a H;refine eB LB H wn rfl ?_;clear H;intro b6 a w hb6 H;refine bH LB 0 (vs:=[_,_]) _ H wn rfl rfl rfl rfl rfl rfl rfl rfl ?_;clear H;intro w H;dsimp only [List.set,setRow] at H;refine K9 _ _ ?_;clear K9;refine kP H (SR fun _ aT=>Rm rfl ?_);clear H;intro a H;refine bD LB (cs:=[_,_]) H wn rfl rfl (H.hp.dS 0 rfl rfl) rfl ?_;clear H;intro a H;refine Iq (ky:=(A[k].code,A[k].id)) (zv:=mH.val) (l:=acc) zL yS (by kernel_rfl) H wn rfl rfl (H.hp.own (b9,Bb acc) (by simp)) rfl ?_;clear H;intro a H;rw [AZ hfm] at H;refine kH H (Rm rfl ?_);clear H;intro a H;(iterate 2 refine kN H wn rfl rfl rfl ?_;clear H;intro a H);refine eB gq H wn rfl ?_;clear H;intro b7 a w Ce H;refine bH gq 0 (vs:=[_,_,_,_,_]) _ H wn rfl rfl rfl rfl rfl rfl rfl rfl ?_;clear H;intro w H;dsimp only [List.set,setRow] at H;refine kH H (ak aT rfl (SR fun _ bq=>Rm rfl (Rn rfl (Kz bq (Cd rfl ?_ ?_))))) <;> clear H aT bq
  ·intro fF a H
   try have p28:=dT fF
   have hnone:lG (A[k].code,A[k].id) acc=none:=by simpa using fF
   refine kP H (SC (Rm rfl ?_));clear H;intro a H;refine bD LB (cs:=[_,_]) H wn rfl rfl (H.hp.dS 1 rfl rfl) rfl ?_;clear H;intro a H;refine bD gq (cs:=[_,_,_,_,_]) H wn rfl rfl (H.hp.dS 2 rfl rfl) rfl ?_;clear H;intro a H;refine aiZ (i:=3) (l:=acc) (ky:=(A[k].code,A[k].id)) (v:=A[k].val) zL yS H wn rfl rfl rfl rfl hnone ?_;clear H;intro w H;dsimp only [List.set] at H;refine kH H (Kn K7 (SC (Rd rfl (Rm rfl ?_))));clear H K7;intro a H;refine aH ?_;refine cu ((k+1,acc++[((A[k].code,A[k].id),A[k].val)])) (by exact (H.dK (Pl:=[_,_,_,_]) (cB:=[_]) [3] (by decide) rfl).sub ⟨rfl,rfl,rfl,rfl,aD⟩) ?_ ?_
   ·(try dsimp only);exact ⟨by omega,hfm.new hk2 hnone⟩
   first|omega|(dsimp only;omega)
  intro fF a H
  try have p28:=dF fF
  refine kP H (Kc K7 (SC (Rd rfl (Rm rfl ?_))));clear H K7;intro a H;refine aH ?_;refine cu ((k+1,acc)) (by exact (H.dK (Pl:=[_,_,_,_]) (cB:=[_]) [3] (by decide) rfl).sub ⟨rfl,rfl,rfl,rfl,aD⟩) ?_ ?_
  ·(try dsimp only);exact ⟨by omega,hfm.old hk2 (by simpa using fF)⟩
  first|omega|(dsimp only;omega)
 intro gy a H
 try have qC:=dF gy
 obtain rfl:k=A.length:=by omega
 rw [wT] at hfm;refine dU ?_;refine K3 _ _ ?_;clear K3;refine kP H (SR fun _ bF=>Rm rfl (ak bF rfl ?_));clear H bF;intro a H;refine lr H results51 rfl ?_;obtain ⟨Gr,hmr,hbr,H⟩:=H.dP;exact H.rt ⟨_,acc,rfl,hbr,hfm⟩
end
section
open Go.RowKit
def jv (xs:Array aj) (o:Nat × Nat):Option (Int × Int × List UInt8):=match o.2 with
 | 0=>(jI xs o.1).map fun n=>(n,0,[])
 | 1=>match xs[o.1]? with|some (.string s)=>some (0,0,s.toList)|_=>none
 | _=>match jI xs o.1,jI xs (o.1+1) with|some a,some b=>some (a,b,[])|_,_=>none
def WT (P:Program) (t:TypeId):Bool:=!P.stoodInHeld t && decide ((P.fieldsOf t).toList.map (·.offset)=[0,1]) && ((P.fieldsOf t).toList.all fun f=>decide (f.name ≠ "_") && P.plainKey f.type && Ia (P.underlying f.type)) && decide (P.cellsOf t=2) && (P.info? t).isSome
def xV (P:Program) (t:TypeId):Nat:=match P.underlying t with|some (.int .i64)=>0|some .string=>1|some (.struct _)=>2|_=>3
def PS (P:Program) (t:TypeId):Bool:=match xV P t with|0=>P.plainKey t|1=>P.plainKey t|2=>WT P t|_=>false
structure FX (P:Program) (t:TypeId) (gN:List (Nat × Nat)):Prop where
 und:P.underlying t=some (.struct (P.fieldsOf t))
 held:P.stoodInHeld t=false
 guard:P.eqGuardType P.depth t=false
 um:(P.fieldsOf t).toList.map (fun f=>(f.offset,xV P f.type))=gN
 ok:(P.fieldsOf t).toList.all (fun f=>decide (f.name ≠ "_") && PS P f.type)=true
theorem akd {P:Program} {t:TypeId} {fs:Array Field} (h:P.underlying t=some (.struct fs)):P.underlying t=some (.struct (P.fieldsOf t)):=by
 rw [h]
 simp [Program.fieldsOf,h]
theorem Xw {P:Program} (w:World) {t:TypeId} {fs:Array Field} (hu:P.underlying t=some (.struct fs)) {i:TypeInfo} (hi:P.info? t=some i) (hc:P.cellsOf t=2) (xs:Array aj) (off:Nat):(part t xs off).run P w=.ok (.agg (xs.extract off (off+2))) w:=by
 unfold part
 simp [isAgg,bZ,run_underlying hu,run_sizeOf w hi,hc]
theorem JO {xs:Array aj} {o:Nat} {n:Int} (h:jI xs o=some n):xs[o]?=some (.int .i64 n):=by
 unfold jI at h
 split at h
 ·rename_i hx;cases h;exact hx
 ·cases h
theorem UJ {xs:Array aj} {off:Nat} {a b:Int} (h1:jI xs off=some a) (h2:jI xs (off+1)=some b):jI (xs.extract off (off+2)) 0=some a∧jI (xs.extract off (off+2)) 1=some b:=by
 have e1:=JO h1
 have e2:=JO h2
 have hl:off+1 < xs.size:=(Array.getElem?_eq_some_iff.1 e2).1
 constructor
 ·unfold jI
  rw [Array.getElem?_extract,au (by omega),tT,e1]
 ·unfold jI
  rw [Array.getElem?_extract,au (by omega),e2]
theorem Qg {P:Program} {w:World} {d:Nat} {xs ys:Array aj}:∀ fs:List Field,fs.all (fun f=>decide (f.name ≠ "_") && PS P f.type)=true →
  (fs.map (fun f=>(f.offset,xV P f.type))).all (fun o=>(jv xs o).isSome && (jv ys o).isSome)=true→(Op.eqFields (d+2) xs ys fs).run P w=.ok ((fs.map (fun f=>(f.offset,xV P f.type))).all fun o=>jv xs o == jv ys o) w
 | [],_,_=>by simp [Op.eqFields]
 | f :: fs,h1,h2=>by
  simp only [List.all_cons,lu,pz,eZ] at h1 h2
  obtain ⟨⟨hn,hk⟩,h1⟩:=h1
  obtain ⟨⟨hx,hy⟩,h2⟩:=h2
  have ih:=Qg (w:=w) (d:=d) fs (by simpa using h1) h2
  have fin:∀ (x y:aj) (r:Bool),(part f.type xs f.offset).run P w=.ok x w→(part f.type ys f.offset).run P w=.ok y w→(Op.equalIn (d+2) f.type x y).run P w=.ok r w→(jv xs (f.offset,xV P f.type) == jv ys (f.offset,xV P f.type))=r →
    (Op.eqFields (d+2) xs ys (f :: fs)).run P w=.ok (((f :: fs).map (fun f=>(f.offset,xV P f.type))).all fun o=>jv xs o == jv ys o) w:=by
   intro x y r p1 p2 p3 p4
   simp only [Op.eqFields,hn,ne_eq,not_false_eq_true,if_true,bZ,p1,p2,jT,p3,eZ,List.all_cons,p4]
   cases r with
   | true=>simp [ih,List.all_map]
   | false=>simp
  unfold PS at hk
  rcases hkd:xV P f.type with _|_|_|n
  ·rw [hkd] at hk hx hy
   have hu:P.underlying f.type=some (.int .i64):=by unfold xV at hkd;split at hkd <;> first|assumption|cases hkd
   obtain ⟨m,hm⟩:∃ m,jI xs f.offset=some m:=by cases h:jI xs f.offset with|some m=>exact ⟨m,rfl⟩|none=>simp [jv,h] at hx
   obtain ⟨m2,hm2⟩:∃ m,jI ys f.offset=some m:=by cases h:jI ys f.offset with|some m=>exact ⟨m,rfl⟩|none=>simp [jv,h] at hy
   refine fin _ _ _ (run_part_plain w hk (JO hm)) (run_part_plain w hk (JO hm2)) (run_equalIn_int w (d+1) f.type .i64 .i64 m m2 hu) ?_
   rw [hkd,ng]
   simp [jv,hm,hm2]
  ·rw [hkd] at hk hx hy
   have hu:P.underlying f.type=some .string:=by unfold xV at hkd;split at hkd <;> first|assumption|cases hkd
   obtain ⟨m,hm⟩:∃ m,xs[f.offset]?=some (.string m):=by
    simp only [jv] at hx
    split at hx
    ·rename_i s hs;exact ⟨s,hs⟩
    ·cases hx
   obtain ⟨m2,hm2⟩:∃ m,ys[f.offset]?=some (.string m):=by
    simp only [jv] at hy
    split at hy
    ·rename_i s hs;exact ⟨s,hs⟩
    ·cases hy
   refine fin _ _ _ (run_part_plain w hk hm) (run_part_plain w hk hm2) (run_equalIn_string w (d+1) f.type m m2 hu) ?_
   rw [hkd,ng]
   simp [jv,hm,hm2]
  ·rw [hkd] at hk hx hy
   obtain ⟨gs,hu⟩:∃ gs,P.underlying f.type=some (.struct gs):=by
    unfold xV at hkd
    split at hkd
    ·cases hkd
    ·cases hkd
    ·rename_i gs hg;exact ⟨gs,hg⟩
    ·cases hkd
   simp only [WT,lu,sI,pz] at hk
   obtain ⟨⟨⟨⟨k1,k2⟩,k3⟩,k4⟩,k5⟩:=hk
   obtain ⟨inf,Va⟩:=Option.isSome_iff_exists.1 k5
   obtain ⟨a,b,ha,hb⟩:∃ a b,jI xs f.offset=some a∧jI xs (f.offset+1)=some b:=by
    simp only [jv] at hx
    split at hx
    ·rename_i a b h1 h2;exact ⟨a,b,h1,h2⟩
    ·cases hx
   obtain ⟨a',b',ha',hb'⟩:∃ a b,jI ys f.offset=some a∧jI ys (f.offset+1)=some b:=by
    simp only [jv] at hy
    split at hy
    ·rename_i a b h1 h2;exact ⟨a,b,h1,h2⟩
    ·cases hy
   obtain ⟨e1,e2⟩:=UJ ha hb
   obtain ⟨e3,e4⟩:=UJ ha' hb'
   have hq:=Qf (P:=P) (w:=w) (d:=d) (xs:=xs.extract f.offset (f.offset+2)) (ys:=ys.extract f.offset (f.offset+2)) _ (by simpa only [lq,lu,pz] using k3) (by rw [k2];simp [e1,e2,e3,e4])
   rw [k2] at hq
   refine fin _ _ _ (Xw w hu Va k4 xs f.offset) (Xw w hu Va k4 ys f.offset) ((run_equalIn_struct w (d+1) f.type _ _ (akd hu) k1).trans hq) ?_
   rw [hkd,ng]
   simp [jv,ha,hb,ha',hb',e1,e2,e3,e4]
  ·rw [hkd] at hk;cases hk
section
variable {N:Nat} {D:List Deferred} {w0:World} {F:Nat→Prop} {G0 G:GH} {L:List (Nat × Obj)} {T:List (Nat × aj)}
variable {r:Option Nat} {P:Program} {ops:Array Oper} {Q:Exit→Act→World→Prop} {rest:List Oper} {a:Act} {w:World}
variable {d:Nat} {ty:TypeId} {pos:String} {aN:Array Edge} {g:Option (Nat × Bool)}
theorem XA {t yt:TypeId} {gN:List (Nat × Nat)} (he:FX P t gN) {x y:Operand} {xs ys:Array aj} (H:St N D w0 F G0 G L T a w) (hw:Region.wanted ⟨some d,.binOp .eql t x y yt,ty,pos,aN,g⟩ (yielded ops a.tmps)=true) (hx:ev T x=some (.agg xs)) (hy:ev T y=some (.agg ys))
  (hi:gN.all (fun o=>(jv xs o).isSome && (jv ys o).isSome)=true) (hd:Nat.blt d N=true)
  (k:∀ a',St N D w0 F G0 G L ((d,.bool (gN.all fun o=>jv xs o == jv ys o)) :: T) a' w→WL r P ops Q rest a' w):WL r P ops Q (⟨some d,.binOp .eql t x y yt,ty,pos,aN,g⟩ :: rest) a w:=by
 have h1:=Qg (P:=P) (w:=w) (d:=9997) (xs:=xs) (ys:=ys) _ he.ok (by rw [he.um];exact hi)
 rw [he.um] at h1
 refine fM (v:=.bool (gN.all fun o=>jv xs o == jv ys o)) (w':=w) hw rfl ?_ (k _ (H.put hd _ H.hp))
 simp only [execOp,H.ev hx,H.ev hy,bZ,run_eqGuard_agg w .eql t x y xs ys he.guard,jT,run_eql_struct,run_equalIn_struct w 9999 t xs ys he.und he.held,h1]
 rfl
theorem Lb {t yt:TypeId} {gN:List (Nat × Nat)} (he:FX P t gN) {x y:Operand} {xs ys:Array aj} (H:St N D w0 F G0 G L T a w) (hw:Region.wanted ⟨some d,.binOp .neq t x y yt,ty,pos,aN,g⟩ (yielded ops a.tmps)=true) (hx:ev T x=some (.agg xs)) (hy:ev T y=some (.agg ys))
  (hi:gN.all (fun o=>(jv xs o).isSome && (jv ys o).isSome)=true) (hd:Nat.blt d N=true)
  (k:∀ a',St N D w0 F G0 G L ((d,.bool (!(gN.all fun o=>jv xs o == jv ys o))) :: T) a' w→WL r P ops Q rest a' w):WL r P ops Q (⟨some d,.binOp .neq t x y yt,ty,pos,aN,g⟩ :: rest) a w:=by
 have h1:=Qg (P:=P) (w:=w) (d:=9997) (xs:=xs) (ys:=ys) _ he.ok (by rw [he.um];exact hi)
 rw [he.um] at h1
 refine fM (v:=.bool (!(gN.all fun o=>jv xs o == jv ys o))) (w':=w) hw rfl ?_ (k _ (H.put hd _ H.hp))
 simp only [execOp,H.ev hx,H.ev hy,bZ,run_eqGuard_agg w .neq t x y xs ys he.guard,jT,run_neq_struct,run_equalIn_struct w 9999 t xs ys he.und he.held,h1]
 rfl
end
end
section
open Go.RowKit
theorem Es:prog.underlying 49=some (.slice 55):=by kernel_rfl
theorem qE:Ty prog 55 6 56 [.int .i64 0,.string ⟨#[]⟩,.int .i64 0,.int .i64 0,.int .i64 0,.int .i64 0] true:=⟨by kernel_rfl,by kernel_rfl⟩
theorem TD:∀ args w,(callFunc 11 args).run prog w=.ok (.enter 11 args) w:=enters func11 rfl (by kernel_rfl)
theorem TU:∀ args w,(callFunc 51 args).run prog w=.ok (.enter 51 args) w:=enters func51 rfl (by kernel_rfl)
theorem Dq:bW prog 47 2 2:=⟨by kernel_rfl⟩
theorem ou:bW prog 47 3 3:=⟨by kernel_rfl⟩
theorem FM:Ty prog 45 2 16 [.int .i64 0,.int .i64 0] true:=⟨by kernel_rfl,by kernel_rfl⟩
theorem Qv:pq prog 55 [(0,1),(1,1),(2,2),(4,2)] [.int .i64 0,.string ⟨#[]⟩,.int .i64 0,.int .i64 0,.int .i64 0,.int .i64 0]:=⟨by kernel_rfl,by kernel_rfl⟩
theorem JJ:bW prog 55 2 2:=⟨by kernel_rfl⟩
theorem uh:bW prog 45 1 1:=⟨by kernel_rfl⟩
theorem JK:bW prog 55 3 4:=⟨by kernel_rfl⟩
theorem Ae:bW prog 45 0 0:=⟨by kernel_rfl⟩
mutual
theorem ZP (g:Int) (t:Nat):∀ (x:aA) (a:aY),a∈wO g t x→0≤a.at_∧a.at_≤(t+dh x.dat:Nat)
 | .mk k c i tx h fl r,a,ha=>by
  have h4:=oU (.mk k c i tx h fl r);dsimp only [aA.text,aA.head,aA.flow,aA.rows] at h4;rw [wO] at ha
  rcases kg.1 ha with ha|ha
  ·split at ha
   ·rw [rH.1 ha];dsimp only;omega
   cases ha
  rcases kg.1 ha with ha|ha
  ·split at ha
   ·have:=Jh i 0 fl a ha;omega
   cases ha
  split at ha
  ·have:=Sd r a ha;omega
  cases ha
theorem Jh (g:Int):∀ (t:Nat) (l:List aA) (a:aY),a∈dL g t l→0≤a.at_∧a.at_≤(t+bC l:Nat)
 | _,[],a,ha=>by rw [dL] at ha;cases ha
 | t,x :: l,a,ha=>by
  have h1:=PL x;rw [dL] at ha
  have hz:dh x.dat+bC l≤bC (x :: l):=by simp only [bC,eZ,eX];omega
  rcases kg.1 ha with ha|ha
  ·have:=ZP g t x a ha;omega
  have:=Jh g (t+n1 x) l a ha;omega
theorem Sd:∀ (l:List bO) (a:aY),a∈kY l→0≤a.at_∧a.at_≤(ig l:Nat)
 | [],a,ha=>by rw [kY] at ha;cases ha
 | x :: l,a,ha=>by
  rw [kY] at ha
  have hz:dh x.dat+ig l≤ig (x :: l):=by simp only [ig,eZ,eX];omega
  rcases kg.1 ha with ha|ha
  ·have:=ZQ x a ha;omega
  have:=Sd l a ha;omega
theorem ZQ:∀ (x:bO) (a:aY),a∈wQ x→0≤a.at_∧a.at_≤(dh x.dat:Nat)
 | .mk h cs,a,ha=>by
  have h4:=Bz (.mk h cs);dsimp only [bO.head,bO.cells] at h4;rw [wQ] at ha;have:=Sc cs a ha
  omega
theorem Sc:∀ (l:List bM) (a:aY),a∈nJ l→0≤a.at_∧a.at_≤(jm l:Nat)
 | [],a,ha=>by rw [nJ] at ha;cases ha
 | x :: l,a,ha=>by
  rw [nJ] at ha
  have hz:dh x.dat+jm l≤jm (x :: l):=by simp only [jm,eZ,eX];omega
  rcases kg.1 ha with ha|ha
  ·have:=ZO x a ha;omega
  have:=Sc l a ha;omega
theorem ZO:∀ (x:bM) (a:aY),a∈wN x→0≤a.at_∧a.at_≤(dh x.dat:Nat)
 | .mk i h fl,a,ha=>by
  have h4:=Bw (.mk i h fl);dsimp only [bM.head,bM.flow] at h4;rw [wN] at ha;have:=Jh i 0 fl a ha
  omega
end
theorem JE:FX prog 47 [(0,0),(1,0),(2,1),(3,2)]:=⟨by kernel_rfl,by kernel_rfl,by kernel_rfl,by kernel_rfl,by kernel_rfl⟩
theorem Jt {a b:ByteArray} (h:a.toList=b.toList):a=b:=by
 rw [ByteArray.toList_eq,ByteArray.toList_eq] at h
 cases a;cases b
 simpa using h
theorem Jk (x y:aY):([(0,0),(1,0),(2,1),(3,2)].all fun o=>jv (#[vi x.code,vi x.id,.string x.name,vi x.flow,vi x.at_]:Array aj) o == jv (#[vi y.code,vi y.id,.string y.name,vi y.flow,vi y.at_]:Array aj) o)=decide (x=y):=by
 rw [ng,decide_eq_true_iff,← aY.eq_iff]
 simp [jv,jI]
 intro _ _ _ _;exact ⟨Jt,fun h=>by rw [h]⟩
theorem Jl {acc:List ((Int × Int) × aj)} {A:List aY} {c:Int} {x:aY} (_h:tK acc A) (hc:¬ ¬ x.code=c) (hm:x∈A):(!decide ((iU A c x.id).getD mH=x))=!jE A c x:=by
 have hc:=mY.1 hc
 have hs:(iU A c x.id).isSome=true:=by
  unfold iU
  rw [List.find?_isSome];exact ⟨x,hm,by simp [hc]⟩
 obtain ⟨y,hy⟩:=Option.isSome_iff_exists.1 hs
 unfold jE
 rw [hy]
 simp [hc]
theorem Nt {A:List aY} {c:Int} {x:aY} (h:match iU A (c+1) x.id with|some e=>¬ (e.flow=x.flow∧x.at_ < e.at_)|none=>True):BM A c x=(x.flow,x.at_+1):=by
 unfold BM
 cases hf:iU A (c+1) x.id with
 | none=>rfl
 | some e=>rw [hf] at h;dsimp only;rw [ah h]
theorem adF {A:List aY} {c:Int} {x e:aY} (h:iU A (c+1) x.id=some e∧e.flow=x.flow∧x.at_ < e.at_):BM A c x=(e.flow,e.at_):=by
 unfold BM
 rw [h.1];dsimp only;rw [au h.2]
def FH (l:List kG):List aj:=(l.map kG.cells).flatten
theorem ajC (l:List kG) (x:kG):FH (l++[x])=FH l++x.cells:=by
 unfold FH
 rw [mZ,List.flatten_append]
 simp
theorem XU (G:GH):∀ l:List kG,fE G 6 (l.map kG.dat) (FH l)
 | []=>fE.nil
 | x :: l=>by
  have h1:fE G 6 [x.dat] x.cells:=by
   have:=(fE.nil (G:=G) (sz:=6)).snoc (q:=x.dat) (cs:=x.cells) (XY G x) rfl
   simpa using this
  rw [eZ,← List.singleton_append];exact h1.append (XU G l)
def wD (A:List aY) (c:Int) (k:Nat):List kG:=((A.take k).filter (jE A c)).map (Bn A c)
theorem XT {A:List aY} {c:Int} {k:Nat} (hk:k < A.length) (h:jE A c A[k]=false):wD A c (k+1)=wD A c k:=by
 unfold wD;rw [XV hk,ah (by rw [h];decide),mX]
theorem ajE {A:List aY} {c:Int} {k:Nat} (hk:k < A.length) (h:jE A c A[k]=true):wD A c (k+1)=wD A c k++[Bn A c A[k]]:=by
 unfold wD;rw [XV hk,au h]
theorem ajD (A:List aY) (c:Int) (k:Nat) (hk:k≤A.length):(wD A c k).length≤k:=by
 unfold wD
 rw [bQ];exact Nat.le_trans (List.length_filter_le ..) (by rw [List.length_take];omega)
theorem aav {P:Program} {f:FuncId} {args:Array aj} {w0:World} {G:GH} {e sz n:Nat} {xs:List aj} {rows:List (List Dat)} (hG:Hold G w0) (h:Calls P f args w0 (gH w0 G [] fun u _ L'=>dx e sz u n xs L')) (hl:rows.length=n) (hc:∀ G',fE G' sz rows xs) :
  Calls P f args w0 (bE w0 G fun u G'=>av G' (.sl sz rows) u):=by
 intro cs;obtain ⟨e1,w',fr,⟨v,G',L',rfl,hch,hrow⟩,h2,h3,h4⟩:=h cs;have hp0:Hp w0 (fun k=>k < w0.heap.size) G G ([]++[]) w0:=⟨rfl,rfl,rfl,bU _,fun _ h=>h,fun _ _=>rfl,hG,fun _ _ h=>h,fun _ _ h=>.inl h,fun _ h=>(by cases h),fun _ h=>(by cases h),fun _ h=>(by cases h),List.Pairwise.nil⟩;have hp1:=hp0.change hch;rw [kJ] at hp1;refine ⟨_,w',fr,?_,h2,h3,h4⟩
 rcases hrow.2 with ⟨rfl,h5,rfl⟩|⟨b,cap,cur,rfl,rfl,h5,h6,h7,h8⟩
 ·refine hp1.ret ?_;have:rows=[]:=List.eq_nil_of_length_eq_zero (by omega);subst this
  simp only [av]
  exact ⟨none,0,by simp,by simp,by simp [maxLen],fun h=>absurd rfl h⟩
 exact (hp1.giveUp 0 rfl).ret (av.eu (GH.Jj G' b _) hl h5 h6 h8 (hc _))
set_option maxHeartbeats 4000000 in
theorem ajF (G:GH) (w0:World) (hO:gX G [] w0) (D:mI) (l:List aA) (hv:av G (.sl 11 (l.map aA.dat)) (eD D.f)) (hok:eY l) (hz:bC l≤1073741824) (code:Int) (hc:0≤code∧code≤100) :
  Calls prog 37 #[D.val,vi code] w0 (gH w0 G [] fun u _ L'=>dx 55 6 u (zD (dL 0 0 l) code).length (FH (zD (dL 0 0 l) code)) L'):=by
 have hn:=wP 0 0 l;have UZ:=Jh 0 0 l;have hml:maxLen=9223372036854775807:=rfl;obtain ⟨A,hA⟩:∃ A,A=dL 0 0 l:=⟨_,rfl⟩;rw [← hA] at hn UZ ⊢;refine jO (N:=96) (T:=[(0,_),(1,_)]) func37 rfl ntmps37 rfl rfl hO ?_;intro a H;refine dB (fun _ K1=>?_);refine eU (cs:=[_,_,_,_,_,_,_,_,_,_,_]) H wn rfl rfl rfl ?_;clear H;intro b2 a w hb2 H;refine kH H (ak K1 rfl (SQ fun _ K2=>?_));clear H K1;intro a H;obtain ⟨Ga,hma,hb',H⟩:=H.dP;have hga:=fun j v hj=>xq hb' 0 D.cells rfl j v hj;replace hv:=hv.mono hma;refine pE ?_;refine bD ru (cs:=D.cells) H wn rfl rfl (fun j v hj=>H.hp.aI (hga j v hj)) rfl ?_;clear H;intro a H;refine s_call TD H wn rfl (Wh _ _ H.ro D l hv hok (by omega)) rfl ?_;clear H;rintro v14 FY a w hr OH H;rw [← hA] at hr;obtain ⟨vA,n14,c14,rfl⟩:=hr.form;have Vl:=hr.len;rw [bQ] at Vl;subst Vl;refine kH H (aU K2 rfl (SR fun _ K3=>Rm rfl ?_));clear H K2;intro a H;refine s_call TU H wn rfl (Uz _ _ H.ro A _ hr (by omega)) rfl ?_;clear H;rintro v16 rF a w ⟨bm,acc,rfl,sQ,hfm⟩ rQ H;replace hr:=hr.mono rQ;refine kH H (ak K3 rfl (SR fun _ K4=>ak K4 rfl (SQ fun _ K5=>SR fun _ K6=>Rm rfl (Rl kF rfl (Rm rfl (Kz K6 (SB ?_)))))));clear H K3 K4 K6;intro a H;skip;refine eT (ι:=Nat × aj × OL × GH) (Tc:=[(1,_),(6,_),(17,_),(18,_)]) (Lc:=[]) (fun gh=>[(7,gh.2.1),(19,vi gh.1)]) (fun gh=>[]++gh.2.2.1) (fun gh=>gh.2.2.2) (fun gh=>gh.1≤A.length∧dx 55 6 gh.2.1 (wD A code gh.1).length (FH (wD A code gh.1)) gh.2.2.1∧(∀ b o,rF b=some o→gh.2.2.2 b=some o)) (fun gh=>A.length - gh.1) ((0,.slice none 0 0,[],rF)) (by exact (H).sub ⟨rfl,rfl,rfl,rfl,rfl,rfl,aD⟩) ?_ ?_
 ·exact ⟨iy _,dx.nil,fun _ _ h=>h⟩
 clear H;intro gh a w hI H;obtain ⟨k,v7,Lo,g⟩:=gh;dsimp only at hI H;obtain ⟨hk,hrw,hgm⟩:=hI;have hsl:=ajD A code k hk;obtain ⟨v7A,v7c,rfl,-,-⟩:=hrw.shape;dsimp only [lca,bg] at H;refine kP H (SR fun _ K7=>Rc rfl (Kz K7 (SQ fun _ K8=>Cd rfl ?_ ?_))) <;> clear H K7
 ·intro h20 a H
  try have Ef:=dT h20
  have hk2:k < A.length:=by omega
  obtain ⟨b,o,rfl,hrow⟩:=BJ (hr.mono hgm) hk2;obtain ⟨ha0,ha1⟩:=UZ A[k] (iL hk2);have hbg:=hgm _ _ sQ;refine kP H (Kc K8 (SQ fun _ K9=>SB (SR fun _ aT=>Ri kF gq rfl rfl ?_)));clear H K8;intro a H;refine bD gq (cs:=A[k].cells) H wn rfl rfl (fun j v hj=>H.hp.aI (hrow j v hj)) rfl ?_;clear H;intro a H;refine eB gq H wn rfl ?_;clear H;intro b9 a w ze H;refine bH gq 0 (vs:=[_,_,_,_,_]) _ H wn rfl rfl rfl rfl rfl rfl rfl rfl ?_;clear H;intro w H;dsimp only [List.set,setRow] at H;refine aT _ _ ?_;clear aT;refine bA (fun _ bq=>?_);refine bA (fun _ bF=>?_)
  by_cases c0:¬ A[k].code=code
  ·skip;refine dI hmx [[],[0],[],[0,1,2],(ra 0 4),(ra 0 5),(ra 0 5),(ra 0 5),[0,1,2,3,4,7],[0,1,2,3,4,6,7,8],(ra 0 10),(ra 0 5),(ra 0 12),(ra 0 13)] [] (by kernel_rfl) [_,vi A[k].code,_,_,_,undef,undef,undef,undef,undef,undef,undef,undef,_] H (aF (Z0 rfl (Rf jr rfl)) (Z1 0 23 rfl (Ro aC 0 rfl)) (Z0 rfl (Rm rfl)) (Z2 1 24 2 25 rfl (Rc rfl)) (aF (Z1 3 26 rfl (Rm rfl)) (aL (j:=4) (by kernel_rfl) (fun _ _ _ _ _ h=>h) rfl rfl rfl rfl rfl (fun _ _ h=>aM h (aG (aB c0))) rfl (fun _=>rfl)) (aL (j:=4) (by kernel_rfl) (fun _ _ _ _ _ h=>h) rfl rfl rfl rfl rfl (fun _ _ h=>aM h (aG (aB c0))) rfl (fun _=>rfl)) (aL (j:=4) (by kernel_rfl) (fun _ _ _ _ _ h=>h) rfl rfl rfl rfl rfl (fun _ _ h=>aM h (aG (aB c0))) rfl (fun _=>rfl)) (aF (aL (j:=4) (by kernel_rfl) (fun _ _ _ _ _ h=>h) rfl rfl rfl rfl rfl (fun _ _ h=>aM h (aG (aB c0))) rfl (fun _=>rfl)) (aL (j:=4) (by kernel_rfl) (fun _ _ _ _ _ h=>h) rfl rfl rfl rfl rfl (fun _ _ h=>aM h (aG (aB c0))) rfl (fun _=>rfl)) (aL (j:=4) (by kernel_rfl) (fun _ _ _ _ _ h=>h) rfl rfl rfl rfl rfl (fun _ _ h=>aM h (aG (aB c0))) rfl (fun _=>rfl)) (aL (j:=4) (by kernel_rfl) (fun _ _ _ _ _ h=>h) rfl rfl rfl rfl rfl (fun _ _ h=>aM h (aG (aB c0))) rfl (fun _=>rfl)) (aS (aL (j:=4) (by kernel_rfl) (fun _ _ _ _ _ h=>h) rfl rfl rfl rfl rfl (fun _ _ h=>aM h (aG (aB c0))) rfl (fun _=>rfl)) (aS (Z2 4 27 12 35 rfl (Pt (aB c0) rfl)) bX))))) ?_
   clear H;intro a w G Ar H hv;have H:=H.aR (hv 13 36 rfl rfl) rfl;clear hv;refine aH ⟨rfl,?_⟩;refine bF _ _ ?_;clear bF;refine uQ H rfl rfl ?_;refine dU ?_;refine K9 _ _ ?_;clear K9;refine kP H (SC (Rd rfl (Rm rfl ?_)));clear H;intro a H;refine aH ?_;refine cu ((k+1,_,Lo,_)) (by exact (H.dK (Pl:=[_]) (cB:=[]) [] (by decide) rfl).sub ⟨rfl,rfl,rfl,rfl,rfl,rfl,aD⟩) ?_ ?_
   ·(try dsimp only);exact ⟨by omega,by rw [XT hk2 (by first|(simp [jE,c0];done)|(simpa using uX))];exact hrw,fun b o h=>Ar b o (hgm b o h)⟩
   first|omega|(dsimp only;omega)
  skip;refine dI hmx [[],[0],[],[0,1,2],(ra 0 4),(ra 0 5),(ra 0 5),(ra 0 5),[0,1,2,3,4,7],[0,1,2,3,4,6,7,8],(ra 0 10),(ra 0 5),(ra 0 12),(ra 0 13)] [] (by kernel_rfl) [_,vi A[k].code,_,_,_,_,_,_,vi A[k].id,.agg #[vi code,vi A[k].id],((iU A code A[k].id).getD mH).val,A[k].val,.bool (!jE A code A[k]),_] H (aF (Z0 rfl (Rf jr rfl)) (Z1 0 23 rfl (Ro aC 0 rfl)) (Z0 rfl (Rm rfl)) (Z2 1 24 2 25 rfl (Rc rfl)) (aF (Z1 3 26 rfl (Rm rfl)) (Z1 4 27 rfl (YM (aO c0) rfl)) (Z1 4 27 rfl (YM (aO c0) rfl)) (Z1 4 27 rfl (YF nM (aO c0) rfl)) (aF (Z2 7 30 4 27 rfl (YO aC 0 (aO c0) rfl)) ?_ ?_ ?_ (aS ?_ (aS (Z2 4 27 12 35 rfl (Pf (aO c0) rfl)) bX))))) ?_
  ·refine qg 6 29 8 31 4 27 rfl rfl fun _ a w G1 hG HT H fin=>?_;refine iT Bo [_,_] H (wg H rfl rfl (aO c0)) rfl rfl rfl rfl ?_;clear H;intro a H;exact fin H iJ rfl
  ·refine qg 5 28 9 32 4 27 rfl rfl fun _ a w G1 hG HT H fin=>?_;refine KY (ky:=(code,A[k].id)) (zv:=mH.val) (l:=acc) zL yS (by kernel_rfl) H (wg H rfl rfl (aO c0)) rfl rfl (H.ro _ _ (hG _ _ hbg)) rfl ?_;clear H;intro a H;rw [AZ hfm] at H;exact fin H iJ rfl
  ·refine dR 4 27 rfl rfl fun _ a w G1 hG HT H fin=>?_;refine bD gq (cs:=[_,_,_,_,_]) H (wg H rfl rfl (aO c0)) rfl rfl (H.hp.dS 0 rfl rfl) rfl ?_;clear H;intro a H;exact fin H iJ rfl
  ·refine qg 10 33 11 34 4 27 rfl rfl fun _ a w G1 hG HT H fin=>?_;refine Lb JE H (wg H rfl rfl (aO c0)) rfl rfl rfl rfl ?_;clear H;intro a H;rw [Jk] at H;exact fin H iJ (by show _=_;first|rfl|exact aG (Jl hfm c0 (iL hk2)))
  clear H;intro a w G Ar H hv;have H:=H.aR (hv 13 36 rfl rfl) rfl;clear hv;refine aH ⟨rfl,?_⟩;refine bF _ _ ?_;clear bF;refine kr H rfl ?_ ?_
  ·intro uX
   try have p36:=dT uX
   refine dU ?_;refine K9 _ _ ?_;clear K9;refine kP H (SC (Rd rfl (Rm rfl ?_)));clear H;intro a H;refine aH ?_;refine cu ((k+1,_,Lo,_)) (by exact (H.dK (Pl:=[_]) (cB:=[]) [] (by decide) rfl).sub ⟨rfl,rfl,rfl,rfl,rfl,rfl,aD⟩) ?_ ?_
   ·(try dsimp only);exact ⟨by omega,by rw [XT hk2 (by first|(simp [jE,c0];done)|(simpa using uX))];exact hrw,fun b o h=>Ar b o (hgm b o h)⟩
   first|omega|(dsimp only;omega)
  intro uX
  try have p36:=dF uX
  have hst:jE A code A[k]=true:=by simpa using uX
  refine kP H (Kc bq (SR fun _ bJ=>aP nM aC 0 rfl rfl (aP Dq fZ 0 rfl rfl (Rf ou rfl ?_))));clear H bq;intro a H;refine bD FM (cs:=[_,_]) H wn rfl rfl (H.hp.dS 0 rfl rfl) rfl ?_;clear H;intro a H;refine kH H (Rf ou rfl ?_);clear H;intro a H;refine bD FM (cs:=[_,_]) H wn rfl rfl (H.hp.dS 0 rfl rfl) rfl ?_;clear H;intro a H;refine iT Qv [_,_,_,_,_,_] H wn rfl rfl rfl rfl ?_;clear H;intro a H;refine eB qE H wn rfl ?_;clear H;intro b10 a w Hl H;refine bH qE 0 (vs:=[_,_,_,_,_,_]) _ H wn rfl rfl rfl rfl rfl rfl rfl rfl ?_;clear H;intro w H;dsimp only [List.set,setRow] at H;refine bJ _ _ ?_;clear bJ;refine kP H (SR fun _ bN=>Rf JJ rfl (aP uh aC 0 rfl rfl (Rd rfl (Rf JJ rfl (Rf uh rfl ?_)))));clear H;intro a H;refine bH aC 0 (vs:=[_]) _ H wn rfl rfl rfl rfl rfl rfl rfl rfl ?_;clear H;intro w H;dsimp only [List.set,setRow] at H;refine bN _ _ ?_;clear bN;refine kP H (SR fun _ cK=>Rf JK rfl (aP uh aC 0 rfl rfl (Rd rfl (Rf JK rfl (Rf uh rfl ?_)))));clear H;intro a H;refine bH aC 0 (vs:=[_]) _ H wn rfl rfl rfl rfl rfl rfl rfl rfl ?_;clear H;intro w H;dsimp only [List.set,setRow] at H;refine cK _ _ ?_;clear cK;refine pF (ι:=Int × Int) (Tc:=[(1,_),(6,_),(7,_),(10,_),(17,_),(18,_),(19,_)]) (Lc:=[(_,_)]) (fun gh=>[]) (fun gh=>[(b10,.cells #[vi A[k].id,.string A[k].name,vi A[k].flow,vi (A[k].at_+1),vi gh.1,vi gh.2] 55 (0,0))]++Lo) (fun gh=>G) (fun gh=>(gh.1,gh.2)=BM A code A[k]) (by exact (H.dK (Pl:=[_,_]) (cB:=[_,_]) [1,0] (by decide) rfl).sub ⟨rfl,rfl,rfl,rfl,rfl,rfl,rfl,aD⟩) ?_ ?_
  ·skip;refine kP H (SR fun _ dw=>Rm rfl (Rm rfl (Rd rfl (aP nM aC 1 rfl rfl ?_))));clear H;intro a H;refine iT Bo [_,_] H wn rfl rfl rfl rfl ?_;clear H;intro a H;refine Iq (ky:=(code+1,A[k].id)) (zv:=mH.val) (l:=acc) zL yS (by kernel_rfl) H wn rfl rfl (H.ro _ _ (Ar _ _ hbg)) rfl ?_;clear H;intro a H;rw [AZ hfm,show (lG (code+1,A[k].id) acc).isSome=(iU A (code+1) A[k].id).isSome by rw [hfm,Option.isSome_map]] at H;obtain ⟨E,hE⟩:∃ E,E=iU A (code+1) A[k].id:=⟨_,rfl⟩;dsimp only at H;rw [← hE] at H;obtain ⟨q,hq⟩:∃ q,q=E.getD mH:=⟨_,rfl⟩;rw [← hq] at H;refine kH H (Rm rfl ?_);clear H;intro a H;(iterate 2 refine kN H wn rfl rfl rfl ?_;clear H;intro a H);refine eB gq H wn rfl ?_;clear H;intro b11 a w Dx H;refine bH gq 0 (vs:=[_,_,_,_,_]) _ H wn rfl rfl rfl rfl rfl rfl rfl rfl ?_;clear H;intro w H;dsimp only [List.set,setRow] at H;refine kH H (ak dw rfl (SR fun _ bY=>Rm rfl (Rm rfl (Sp 69 rfl ?_ ?_)))) <;> clear H dw
   ·intro iX a H
    try have p69:=dT iX
    refine kH H (YF ou iX rfl (YF Ae iX rfl (YO aC 0 iX rfl (YF ou iX rfl (YF Ae iX rfl (YO aC 2 iX rfl (YC iX rfl (Pt iX rfl (Rm rfl (Sp 78 rfl ?_ ?_)))))))))) <;> clear H
    ·intro jP a H
     try have Eh:=dT jP
     refine kH H (YF ou jP rfl (YF uh jP rfl (YO aC 0 jP rfl (YF ou jP rfl (YF uh jP rfl (YO aC 2 jP rfl (YC jP rfl (Pt jP rfl (Kz bY (Cd rfl ?_ ?_)))))))))) <;> clear H bY
     ·intro xH a H
      refine kP H (SC (Rf ou rfl ?_));clear H;intro a H;refine bD FM (cs:=[_,_]) H wn rfl rfl (H.hp.dS 0 rfl rfl) rfl ?_;clear H;intro a H;refine kH H (Rf JK rfl ?_);clear H;intro a H;refine bH FM 1 (vs:=[_,_]) _ H wn rfl rfl rfl rfl rfl rfl rfl rfl ?_;clear H;intro w H;dsimp only [List.set,setRow] at H;refine aH ?_;refine ⟨(q.flow,q.at_),by exact (H.dK (Pl:=[_,_,_]) (cB:=[_,_]) [2,1] (by decide) rfl).sub ⟨rfl,rfl,rfl,rfl,rfl,rfl,rfl,aD⟩,?_⟩;(try dsimp only);obtain ⟨e,he⟩:=Option.isSome_iff_exists.1 iX
      have hqe:q=e:=by rw [hq,he];rfl
      rw [hqe] at jP xH ⊢;exact (adF ⟨by rw [← hE,he],om jP,om xH⟩).symm
     intro xH a H
     try have W9:=dF xH
     refine gI ?_;refine ⟨(A[k].flow,A[k].at_+1),by exact (H.dK (Pl:=[_,_,_]) (cB:=[_,_]) [2,1] (by decide) rfl).sub ⟨rfl,rfl,rfl,rfl,rfl,rfl,rfl,aD⟩,?_⟩;(try dsimp only);refine (Nt ?_).symm;rw [← hE]
     cases hE2:E with
     | none=>trivial
     | some e =>
      have hqe:q=e:=by rw [hq,hE2];rfl
      dsimp only;rw [← hqe];rintro ⟨f1,f2⟩
      first|exact absurd f2 (of_decide_eq_false xH)|exact absurd f1 (of_decide_eq_false jP)|(rw [hE2] at iX;cases iX)
    intro jP a H
    try have Eh:=dF jP
    refine kH H (aX jP rfl (aQ jP rfl (aQ jP rfl (Pf jP rfl (Kz bY (Cf rfl rfl ?_))))));clear H bY;intro a H;refine gI ?_;refine ⟨(A[k].flow,A[k].at_+1),by exact (H.dK (Pl:=[_,_,_]) (cB:=[_,_]) [2,1] (by decide) rfl).sub ⟨rfl,rfl,rfl,rfl,rfl,rfl,rfl,aD⟩,?_⟩;(try dsimp only);refine (Nt ?_).symm;rw [← hE]
    cases hE2:E with
    | none=>trivial
    | some e =>
     have hqe:q=e:=by rw [hq,hE2];rfl
     dsimp only;rw [← hqe];rintro ⟨f1,f2⟩
     first|exact absurd f2 (of_decide_eq_false xH)|exact absurd f1 (of_decide_eq_false jP)|(rw [hE2] at iX;cases iX)
   intro iX a H
   try have p69:=dF iX
   refine kH H (aX iX rfl (aQ iX rfl (aQ iX rfl (Pf iX rfl (Rm rfl (aX rfl rfl (aQ rfl rfl (aQ rfl rfl (Pf rfl rfl (Kz bY (Cf rfl rfl ?_)))))))))));clear H bY;intro a H;refine gI ?_;refine ⟨(A[k].flow,A[k].at_+1),by exact (H.dK (Pl:=[_,_,_]) (cB:=[_,_]) [2,1] (by decide) rfl).sub ⟨rfl,rfl,rfl,rfl,rfl,rfl,rfl,aD⟩,?_⟩;(try dsimp only);refine (Nt ?_).symm;rw [← hE]
   cases hE2:E with
   | none=>trivial
   | some e =>
    have hqe:q=e:=by rw [hq,hE2];rfl
    dsimp only;rw [← hqe];rintro ⟨f1,f2⟩
    first|exact absurd f2 (of_decide_eq_false xH)|exact absurd f1 (of_decide_eq_false jP)|(rw [hE2] at iX;cases iX)
  clear H;intro gh a w hI H;obtain ⟨tf,ta⟩:=gh;dsimp only at hI H;have hend:=hI;dsimp only [lca,bg] at H;refine kP H (SC (Rm rfl ?_));clear H;intro a H;refine bD qE (cs:=[_,_,_,_,_,_]) H wn rfl rfl (H.hp.dS 1 rfl rfl) rfl ?_;clear H;intro a H;refine gQ Es qE [_,_,_,_,_,_] [_,_,_,_,_,_] H wn rfl rfl rfl rfl rfl (by intro i q h;match i,h with|0,h=>exact h|n+1,h=>simp at h) rfl rfl ?_;clear H;intro b92 a w alb H;refine nU (Li:=[_,_,_]) (Lo:=Lo) (news:=[vi A[k].id,.string A[k].name,vi A[k].flow,vi (A[k].at_+1),vi tf,vi ta]) Es qE rfl rfl H wn rfl rfl hrw rfl (H.hp.dS 0 rfl rfl) rfl (by omega) (by omega) rfl ?_;clear H;intro v93 ZB a w VD H;rw [show [vi A[k].id,Value.string A[k].name,vi A[k].flow,vi (A[k].at_+1),vi tf,vi ta]=(Bn A code A[k]).cells by simp only [Bn,kG.cells,← hend]] at VD;refine kH H (aU K9 rfl (SC (Rd rfl (Rm rfl ?_))));clear H K9;intro a H;refine aH ?_;refine cu ((k+1,v93,ZB,_)) (by exact (H.dK (Pl:=[_,_,_]) (cB:=[]) [] (by decide) rfl).sub ⟨rfl,rfl,rfl,rfl,rfl,rfl,aD⟩) ?_ ?_
  ·(try dsimp only);exact ⟨by omega,by rw [ajE hk2 hst,iA,ajC];exact VD,fun b o h=>Ar b o (hgm b o h)⟩
  first|omega|(dsimp only;omega)
 intro h20 a H
 try have Ef:=dF h20
 obtain rfl:k=A.length:=by omega
 have hall:wD A code A.length=zD A code:=by unfold wD zD;rw [wT]
 rw [hall] at hrw;refine dU ?_;refine K5 _ _ ?_;clear K5;exact kP H (SR fun _ dz=>Rm rfl (ak dz rfl (LR results37 rfl fun H=>H.hp.eP (by rw [hall];exact hrw))))
theorem ahU {G:GH} {w:World} (h:Hold G w):gX G [] w:=⟨h,fun _ h=>(by cases h),fun _ h=>(by cases h),List.Pairwise.nil⟩
theorem ajG (G:GH) (w0:World) (hG:Hold G w0) (D:mI) (l:List aA) (hv:av G (.sl 11 (l.map aA.dat)) (eD D.f)) (hok:eY l) (hz:bC l≤1073741824) (code:Int) (hc:0≤code∧code≤100) :
  Calls prog 37 #[D.val,vi code] w0 (bE w0 G fun u G'=>av G' (.sl 6 ((zD (dL 0 0 l) code).map kG.dat)) u) :=
 aav hG (ajF G w0 (ahU hG) D l hv hok hz code hc) (by simp) fun _=>XU _ _
end
end Go.Proofs.YteopmoocmoigcaaGreat
