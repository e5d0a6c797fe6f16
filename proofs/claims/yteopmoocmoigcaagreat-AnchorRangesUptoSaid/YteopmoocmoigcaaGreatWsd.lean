/-
  What the claim stands on, part 4: Nck Cid Mt Ehd Hdr Hea Frm Itc Vis Okd Ubf Av16 Mz Vn15 Sp16 Cl Avi16 Gco Lst16 En Spn16 Ml16 Dn Ms16 Fd16 Par It Div Rc.
-/
import Derived.Test.YteopmoocmoigcaaGreatWsc
namespace Go.Proofs.YteopmoocmoigcaaGreat
open Go.Proofs.Tryz
section
open Go.RowKit
theorem yx:prog.underlying 145=some (.map 3 4):=by kernel_rfl
theorem CX:Ty prog 176 3 32 [.int .i64 0,.string ⟨#[]⟩,.int .i64 0] true:=⟨by kernel_rfl,by kernel_rfl⟩
theorem ahA:oK prog 147 [(0,1),(1,1),(2,1),(3,1),(4,1),(5,1)] [.map none,.map none,.map none,.map none,.map none,.int .i64 0]:=⟨by kernel_rfl,by kernel_rfl⟩
theorem Ig:bO prog 38 3 7:=⟨by kernel_rfl⟩
theorem Fe:bO prog 147 0 0:=⟨by kernel_rfl⟩
theorem Gd:Ty prog 114 1 8 [.map none] false:=⟨by kernel_rfl,by kernel_rfl⟩
theorem RS:bO prog 147 1 1:=⟨by kernel_rfl⟩
theorem yj:Ty prog 145 1 8 [.map none] false:=⟨by kernel_rfl,by kernel_rfl⟩
theorem LK:bO prog 38 2 6:=⟨by kernel_rfl⟩
theorem Bc:Ty prog 30 1 24 [.slice none 0 0] false:=⟨by kernel_rfl,by kernel_rfl⟩
theorem Bg:prog.underlying 30=some (.slice 176):=by kernel_rfl
theorem Fg:bO prog 147 2 2:=⟨by kernel_rfl⟩
theorem RX:bO prog 176 0 0:=⟨by kernel_rfl⟩
structure eT where
 id:Int
 author:ByteArray
 time:Int
def eT.dat (x:eT):List Dat:=[li x.id,.lf (.string x.author),li x.time]
abbrev eT.cells (x:eT):List aj:=[vi x.id,.string x.author,vi x.time]
theorem agI {G:GH} {x:eT} {cs:List aj} (h:aW G x.dat cs):cs=x.cells:=by
 simp only [eT.dat,aW,av] at h
 obtain ⟨_,_,rfl,⟨rfl,_⟩,_,_,rfl,⟨rfl,_⟩,_,_,rfl,⟨rfl,_⟩,rfl⟩:=h
 rfl
theorem Od {G:GH} {l:List eT} {A:Option Addr} {n c k:Nat} (hv:av G (.sl 3 (l.map eT.dat)) (.slice A n c)) (hk:k < l.length):∃ b o,A=some ⟨b,o,none⟩∧(∀ j u,l[k].cells[j]?=some u→aJ G b (o+k*3+j)=some u):=by
 obtain ⟨A',c',he,_,_,hg⟩:=hv.slice
 injection he with e1 e2 e3
 subst e1;obtain ⟨b,o,cs,h1,h2,h3,h4⟩:=hg k l[k].dat (by simp [hk]);have:=agI h4;subst this;exact ⟨b,o,h1,h3⟩
abbrev fB (b ms ml mr mb mu:Nat) (n:Int):Nat × Obj:=(b,.cells #[.map (some ms),.map (some ml),.map (some mr),.map (some mb),.map (some mu),vi n] 147 (0,0))
def xR (l:List bG):List (Int × aj):=l.map fun s=>(s.id,vi s.kind)
def fC (l:List Int):List (Int × aj):=l.map fun k=>(k,.bool true)
structure rU (G:GH) (st:List bG) (li:List fH) (rv:List eT) (ms ml mr mu:Nat):Prop where
 sty:G ms=some (eY (xR st))
 wI:G ml=some (eY (fC (li.map fH.id)))
 rev:G mr=some (eY (fC (rv.map eT.id)))
 use:G mu=some (eY [])
theorem rU.mono {G G':GH} {st:List bG} {li:List fH} {rv:List eT} {ms ml mr mu:Nat} (h:rU G st li rv ms ml mr mu) (hm:∀ b o,G b=some o→G' b=some o):rU G' st li rv ms ml mr mu:=⟨hm _ _ h.sty,hm _ _ h.wI,hm _ _ h.rev,hm _ _ h.use⟩
def yD (l:List Int):Prop:=∀ (k:Nat) (h:k < l.length),l[k]∉l.take k
theorem afz {l:List bG} {k:Nat} (h:k < l.length):xR (l.take (k+1))=xR (l.take k)++[(l[k].id,vi l[k].kind)]:=by rw [xR,jF h,qy];rfl
theorem UM {l:List Int} {k:Nat} (h:k < l.length):fC (l.take (k+1))=fC (l.take k)++[(l[k],.bool true)]:=by rw [fC,jF h,qy];rfl
theorem afy {l:List bG} {k:Nat} (f:yD (l.map bG.id)) (h:k < l.length):pV l[k].id (xR (l.take k))=none:=by
 refine I9 ?_;have:=f k (by simpa using h)
 simpa [xR,List.map_take,List.map_map,Function.comp_def] using this
theorem UL {l:List Int} {k:Nat} (f:yD l) (h:k < l.length):pV l[k] (fC (l.take k))=none:=by
 refine I9 ?_;have:=f k h
 simpa [fC,List.map_map,Function.comp_def] using this
theorem afJ (G:GH) (w0:World) (hO:gH G [] w0) (D:mH) (st:List bG) (li:List fH) (rv:List eT) (hst:av G (.sl 6 (st.map bG.dat)) (fD D.s1)) (FH:av G (.sl 2 (li.map fH.dat)) (fD D.s2)) (wC:av G (.sl 3 (rv.map eT.dat)) (fD D.r))
  (f1:yD (st.map bG.id)) (f2:yD (li.map fH.id)) (f3:yD (rv.map eT.id)) (z1:st.length≤4294967296) (z2:li.length≤4294967296) (z3:rv.length≤4294967296) :
  Calls prog 57 #[D.val] w0 (fT w0 G [] fun u G' L'=>∃ b ms ml mr mb mu,u=(aH b 0)∧L'=[fB b ms ml mr mb mu 0,(mb,eY [])]∧rU G' st li rv ms ml mr mu):=by
 obtain ⟨df,dp,dd,dy,⟨rA,rn,rc⟩,⟨sA,sn,sc⟩,⟨lA,ln,lc⟩,d3,d4,ins,mv⟩:=D;dsimp only at hst FH wC
 obtain rfl:sn=st.length:=by have:=hst.len;simpa using this
 obtain rfl:ln=li.length:=by have:=FH.len;simpa using this
 obtain rfl:rn=rv.length:=by have:=wC.len;simpa using this
 have hml:maxLen=9223372036854775807:=rfl;refine jy (N:=64) (T:=[(0,_)]) func57 rfl ntmps57 rfl rfl hO ?_;intro a H;refine dw (fun _ K1=>?_);refine fu (cs:=[_,_,_,_,_,_,_,_,_,_,_]) H wn rfl rfl rfl ?_;clear H;intro b1 a w hb1 H;refine kH H (ak K1 rfl (SQ fun _ K2=>?_));clear H K1;intro a H;obtain ⟨Ga,hma,hb1',H⟩:=H.dJ
 have hc7:aJ Ga b1 7=some (.slice sA st.length sc):=by unfold aJ;rw [hb1'];rfl
 have hc8:aJ Ga b1 8=some (.slice lA li.length lc):=by unfold aJ;rw [hb1'];rfl
 have hc6:aJ Ga b1 6=some (.slice rA rv.length rc):=by unfold aJ;rw [hb1'];rfl
 replace hst:=hst.mono hma;replace FH:=FH.mono hma;replace wC:=wC.mono hma;refine nJ ?_;refine CV H wn rfl ?_;clear H;intro b10 a w MN H;refine CV H wn rfl ?_;clear H;intro b11 a w Iw H;refine CV H wn rfl ?_;clear H;intro b12 a w Ay H;refine CV H wn rfl ?_;clear H;intro b13 a w MO H;refine CV H wn rfl ?_;clear H;intro b14 a w MP H;refine kr ahA [_,_,_,_,_,_] H wn rfl rfl rfl rfl ?_;clear H;intro a H;refine fu (cs:=[_,_,_,_,_,_]) H wn rfl rfl rfl ?_;clear H;intro b16 a w aiO H;refine kH H (aS K2 rfl (SQ fun _ K3=>SR fun _ K4=>Rf Ig rfl (Rf LH rfl (Rg qR rfl (by assumption) ?_))));clear H K2;intro a H;refine kH H (Rl mF rfl (Rm rfl (Kz K4 (SB ?_))));clear H K4;intro a H;skip;refine fJ (ι:=Nat × GH) (Tc:=[(1,_),(3,_),(19,_),(20,_)]) (Lc:=[(_,_),(_,_),(_,_),(_,_),(_,_)]) (fun gh=>[(21,vi gh.1)]) (fun gh=>[(b10,eY (xR (st.take gh.1)))]) (fun gh=>gh.2) (fun gh=>gh.1≤st.length∧(∀ b o,Ga b=some o→gh.2 b=some o)) (fun gh=>st.length - gh.1) ((0,Ga)) (by exact (H).sub ⟨rfl,rfl,rfl,rfl,rfl,aC⟩) ?_ ?_
 ·exact ⟨jf _,fun _ _ h=>h⟩
 clear H;intro gh a w hI H;obtain ⟨k,g1⟩:=gh;dsimp only at hI H;obtain ⟨hk,Ea⟩:=hI;dsimp only [lca,bC] at H;refine kP H (SR fun _ K5=>Rc rfl (Kz K5 (SQ fun _ K6=>Cd rfl ?_ ?_))) <;> clear H K5
 ·intro h22 a H
  try have iT:=dT h22
  have hk2:k < st.length:=by omega
  obtain ⟨xb,xo,pA,pc,rfl,hrow,-,-⟩:=zO (hst.mono Ea) hk2;have hnew:=afy f1 hk2;refine kP H (Kc K6 (SQ fun _ K7=>SB (SR fun _ K8=>Ri mF jM rfl rfl ?_)));clear H K6;intro a H;refine bE jM (cs:=_) H wn rfl rfl (fun j v hj=>H.hp.aJ (hrow j v hj)) rfl ?_;clear H;intro a H;refine fq jM H wn rfl ?_;clear H;intro b5 a w hb5 H;refine bF jM 0 (vs:=[_,_,_,_,_,_]) _ H wn rfl rfl rfl rfl rfl rfl rfl rfl ?_;clear H;intro w H;dsimp only [List.set,setRow] at H;refine K8 _ _ ?_;clear K8;refine dI hmx [[],[0],[0,1],[0,1,2],[],[4],[],[6],(ra 0 8)] [8] (by kernel_rfl) [_,_,_,.map (some b10),_,vi st[k].id,_,vi st[k].kind] H (aB (Z0 rfl (Rm rfl)) (Z1 0 25 rfl (Rk rfl)) (Z1 1 26 rfl (Rf Fe rfl)) (Z1 2 27 rfl (Ro Gd 1 rfl)) (aB (Z0 rfl (Rf sH rfl)) (Z1 4 29 rfl (Ro aF 0 rfl)) (Z0 rfl (Rf uU rfl)) (Z1 6 31 rfl (Ro aF 0 rfl)) (aX (bH rfl) cO))) ?_
  clear H;intro a w G Av H hv;have H:=H.aV (hv 3 28 rfl rfl) rfl;have H:=H.aV (hv 5 30 rfl rfl) rfl;have H:=H.aV (hv 7 32 rfl rfl) rfl;clear hv;refine JA (i:=6) C9 mG H wn rfl rfl rfl rfl hnew ?_;clear H;intro w H;dsimp only [List.set,List.append,lca,bC] at H;rw [← afz hk2] at H;refine aI ⟨rfl,?_⟩;refine K7 _ _ ?_;clear K7;refine kP H (SC (Rd rfl (Rm rfl ?_)));clear H;intro a H;refine aI ?_;refine dN ((k+1,G)) (by exact (H.dX (Pl:=[_,_,_,_,_,_,_]) (dz:=[_,_,_,_,_,_]) [1,2,3,4,5,6] (by decide) rfl).sub ⟨rfl,rfl,rfl,rfl,rfl,aC⟩) ?_ ?_
  ·(try dsimp only);exact ⟨by omega,fun b o h=>Av b o (Ea b o h)⟩
  first|omega|(dsimp only;omega)
 intro h22 a H
 try have iT:=dF h22
 obtain rfl:k=st.length:=by omega
 rw [Ah] at H;have aja:=aL Ea hc8;refine eX ?_;refine K3 _ _ ?_;clear K3;refine kP H (SQ fun _ K9=>SR fun _ aT=>Rf Ig rfl (Rf LJ rfl (Rg CZ rfl (by assumption) ?_)));clear H;intro a H;refine kH H (Rl Da rfl (Rm rfl (Kz aT (SB ?_))));clear H aT;intro a H;skip;refine fJ (ι:=Nat × GH) (Tc:=[(1,_),(3,_),(36,_),(37,_)]) (Lc:=[(_,_),(_,_),(_,_),(_,_),(_,_)]) (fun gh=>[(38,vi gh.1)]) (fun gh=>[(b11,eY (fC ((li.map fH.id).take gh.1)))]) (fun gh=>gh.2) (fun gh=>gh.1≤li.length∧(∀ b o,g1 b=some o→gh.2 b=some o)) (fun gh=>li.length - gh.1) ((0,g1)) (by exact (H.dX (Pl:=[_,_,_,_,_,_]) (dz:=[_,_,_,_,_,_]) [0,1,2,3,5,4] (by decide) rfl).sub ⟨rfl,rfl,rfl,rfl,rfl,aC⟩) ?_ ?_
 ·exact ⟨jf _,fun _ _ h=>h⟩
 clear H;intro gh a w hI H;obtain ⟨k,g2⟩:=gh;dsimp only at hI H;obtain ⟨hk,IU⟩:=hI;dsimp only [lca,bC] at H;refine kP H (SR fun _ bD=>Rc rfl (Kz bD (SQ fun _ bK=>Cd rfl ?_ ?_))) <;> clear H bD
 ·intro lK a H
  try have p39:=dT lK
  have hk2:k < li.length:=by omega
  obtain ⟨xb,xo,B,d,rfl,hrow,-⟩:=ND ((FH.mono Ea).mono IU) hk2
  have hk3:k < (li.map fH.id).length:=by simpa using hk2
  have hnew:=UL f2 hk3
  have FD:(li.map fH.id)[k]=li[k].id:=by simp
  rw [FD] at hnew;refine kP H (Kc bK (SQ fun _ bT=>SB (SR fun _ bU=>Ri Da Et rfl rfl ?_)));clear H bK;intro a H;refine bE Et (cs:=_) H wn rfl rfl (fun j v hj=>H.hp.aJ (hrow j v hj)) rfl ?_;clear H;intro a H;refine fq Et H wn rfl ?_;clear H;intro b7 a w DZ H;refine bF Et 0 (vs:=[_,_]) _ H wn rfl rfl rfl rfl rfl rfl rfl rfl ?_;clear H;intro w H;dsimp only [List.set,setRow] at H;refine bU _ _ ?_;clear bU;refine dI hmx [[],[0],[0,1],[0,1,2],[],[4],(ra 0 6)] [6] (by kernel_rfl) [_,_,_,.map (some b11),_,vi li[k].id] H (aB (Z0 rfl (Rm rfl)) (Z1 0 42 rfl (Rk rfl)) (Z1 1 43 rfl (Rf RS rfl)) (Z1 2 44 rfl (Ro yj 1 rfl)) (aX (Z0 rfl (Rf RZ rfl)) (aX (Z1 4 46 rfl (Ro aF 0 rfl)) (aX (bH rfl) cO)))) ?_
  clear H;intro a w G pO H hv;have H:=H.aV (hv 3 45 rfl rfl) rfl;have H:=H.aV (hv 5 47 rfl rfl) rfl;clear hv;refine JA (i:=6) yx mG H wn rfl rfl rfl rfl hnew ?_;clear H;intro w H;dsimp only [List.set,List.append,lca,bC] at H;rw [← FD,← UM hk3] at H;refine aI ⟨rfl,?_⟩;refine bT _ _ ?_;clear bT;refine kP H (SC (Rd rfl (Rm rfl ?_)));clear H;intro a H;refine aI ?_;refine dN ((k+1,G)) (by exact (H.dX (Pl:=[_,_,_,_,_,_,_]) (dz:=[_,_,_,_,_,_]) [1,2,3,4,5,6] (by decide) rfl).sub ⟨rfl,rfl,rfl,rfl,rfl,aC⟩) ?_ ?_
  ·(try dsimp only);exact ⟨by omega,fun b o h=>pO b o (IU b o h)⟩
  first|omega|(dsimp only;omega)
 intro lK a H
 try have p39:=dF lK
 obtain rfl:k=li.length:=by omega
 rw [jG (by simp)] at H;have aiZ:=aL IU (aL Ea hc6);refine eX ?_;refine K9 _ _ ?_;clear K9;refine kP H (SQ fun _ dM=>SR fun _ dO=>Rf LK rfl (Rg Bc rfl (by assumption) ?_));clear H;intro a H;refine kH H (Rl Bg rfl (Rm rfl (Kz dO (SB ?_))));clear H dO;intro a H;skip;refine fJ (ι:=Nat × GH) (Tc:=[(3,_),(50,_),(51,_)]) (Lc:=[(_,_),(_,_),(_,_),(_,_),(_,_)]) (fun gh=>[(52,vi gh.1)]) (fun gh=>[(b12,eY (fC ((rv.map eT.id).take gh.1)))]) (fun gh=>gh.2) (fun gh=>gh.1≤rv.length∧(∀ b o,g2 b=some o→gh.2 b=some o)) (fun gh=>rv.length - gh.1) ((0,g2)) (by exact (H.dX (Pl:=[_,_,_,_,_,_]) (dz:=[_,_,_,_,_,_]) [0,1,2,4,5,3] (by decide) rfl).sub ⟨rfl,rfl,rfl,rfl,aC⟩) ?_ ?_
 ·exact ⟨jf _,fun _ _ h=>h⟩
 clear H;intro gh a w hI H;obtain ⟨k,g3⟩:=gh;dsimp only at hI H;obtain ⟨hk,Tw⟩:=hI;dsimp only [lca,bC] at H;refine kP H (SR fun _ dD=>Rc rfl (Kz dD (SQ fun _ eG=>Cd rfl ?_ ?_))) <;> clear H dD
 ·intro Mc a H
  try have p53:=dT Mc
  have hk2:k < rv.length:=by omega
  obtain ⟨xb,xo,rfl,hrow⟩:=Od (((wC.mono Ea).mono IU).mono Tw) hk2
  have hk3:k < (rv.map eT.id).length:=by simpa using hk2
  have hnew:=UL f3 hk3
  have FD:(rv.map eT.id)[k]=rv[k].id:=by simp
  rw [FD] at hnew;refine kP H (Kc eG (SQ fun _ gM=>SB (SR fun _ fG=>Ri Bg CX rfl rfl ?_)));clear H eG;intro a H;refine bE CX (cs:=_) H wn rfl rfl (fun j v hj=>H.hp.aJ (hrow j v hj)) rfl ?_;clear H;intro a H;refine fq CX H wn rfl ?_;clear H;intro b9 a w xI H;refine bF CX 0 (vs:=[_,_,_]) _ H wn rfl rfl rfl rfl rfl rfl rfl rfl ?_;clear H;intro w H;dsimp only [List.set,setRow] at H;refine fG _ _ ?_;clear fG;refine dI hmx [[],[0],[0,1],[0,1,2],[],[4],(ra 0 6)] [6] (by kernel_rfl) [_,_,_,.map (some b12),_,vi rv[k].id] H (aB (Z0 rfl (Rm rfl)) (Z1 0 56 rfl (Rk rfl)) (Z1 1 57 rfl (Rf Fg rfl)) (Z1 2 58 rfl (Ro yj 1 rfl)) (aX (Z0 rfl (Rf RX rfl)) (aX (Z1 4 60 rfl (Ro aF 0 rfl)) (aX (bH rfl) cO)))) ?_
  clear H;intro a w G Ca H hv;have H:=H.aV (hv 3 59 rfl rfl) rfl;have H:=H.aV (hv 5 61 rfl rfl) rfl;clear hv;refine JA (i:=6) yx mG H wn rfl rfl rfl rfl hnew ?_;clear H;intro w H;dsimp only [List.set,List.append,lca,bC] at H;rw [← FD,← UM hk3] at H;refine aI ⟨rfl,?_⟩;refine gM _ _ ?_;clear gM;refine kP H (SC (Rd rfl (Rm rfl ?_)));clear H;intro a H;refine aI ?_;refine dN ((k+1,G)) (by exact (H.dX (Pl:=[_,_,_,_,_,_,_]) (dz:=[_,_,_,_,_,_]) [1,2,3,4,5,6] (by decide) rfl).sub ⟨rfl,rfl,rfl,rfl,aC⟩) ?_ ?_
  ·(try dsimp only);exact ⟨by omega,fun b o h=>Ca b o (Tw b o h)⟩
  first|omega|(dsimp only;omega)
 intro Mc a H
 try have p53:=dF Mc
 obtain rfl:k=rv.length:=by omega
 rw [jG (by simp)] at H;refine eX ?_;refine dM _ _ ?_;clear dM;refine kP H (SR fun _ gN=>Rm rfl (ak gN rfl ?_));clear H gN;intro a H;refine cB ?_;have H:=H.dX (Pl:=[_,_,_,_,_,_]) (dz:=[_,_,_,_,_,_]) [3,4,5,1,0,2] (by decide) rfl;obtain ⟨Gs,hms,hs,H⟩:=H.dJ;obtain ⟨Gl,M9,hl,H⟩:=H.dJ;obtain ⟨Gr,hmr,hr,H⟩:=H.dJ;obtain ⟨Gu,hmu,hu,H⟩:=H.dJ;refine lv H results57 rfl ?_;exact H.hp.dW ⟨b16,b10,b11,b12,b13,b14,rfl,rfl,⟨hmu _ _ (hmr _ _ (M9 _ _ hs)),hmu _ _ (hmr _ _ hl),hmu _ _ hr,hu⟩⟩
end
section
open Go.RowKit
theorem abY:bO prog 147 4 4:=⟨by kernel_rfl⟩
theorem RU:bO prog 147 3 3:=⟨by kernel_rfl⟩
theorem CF (x:Int):∀ l:List Int,(pV x (fC l)).getD (.bool false)=.bool (decide (x∈l))
 | []=>rfl
 | k :: r=>by
  have ih:=CF x r;rw [fC,eU,pV]
  by_cases e:k=x
  ·subst e;simp
  rw [ah e,show (r.map fun k=>(k,Value.bool true))=fC r from rfl,ih]
  simp [show x≠k from fun h=>e h.symm]
def JD (st:List bG) (v:Int):Int:=((st.find? fun s=>decide (s.id=v)).map bG.kind).getD 0
theorem F4 (x:Int):∀ l:List bG,(pV x (xR l)).getD (vi 0)=vi (JD l x)
 | []=>rfl
 | s :: r=>by
  have ih:=F4 x r;rw [xR,eU,pV]
  by_cases e:s.id=x
  ·subst e;simp [JD]
  rw [ah e,show (r.map fun s=>(s.id,vi s.kind))=xR r from rfl,ih]
  simp [JD,e]
def ou (bq:List Int) (x:Int):Int:=if ¬ (1≤x∧x≤1073741824) then 18 else if x∈bq then 7 else 0
def jC (bq:List Int) (x:Int):List Int:=if ou bq x=0 then bq++[x] else bq
theorem afx (l:List Int) (x:Int):fC (l++[x])=fC l++[(x,.bool true)]:=by simp [fC]
theorem KI (G:GH) (L:OL) (w0:World) (st:List bG) (li:List fH) (rv:List eT) (b ms ml mr mb mu:Nat) (n:Int) (bq:List Int) (x:Int) (hck:rU G st li rv ms ml mr mu) (hO:gH G (fB b ms ml mr mb mu n :: (mb,eY (fC bq)) :: L) w0) :
  Calls prog 128 #[(aH b 0),vi x] w0 (fT w0 G (fB b ms ml mr mb mu n :: (mb,eY (fC bq)) :: L) fun u G' L'=>u=vi (ou bq x)∧L'=fB b ms ml mr mb mu n :: (mb,eY (fC (jC bq x))) :: L∧G=G'):=by
 refine jy (N:=29) (T:=[(0,_),(1,_)]) func128 rfl ntmps128 rfl rfl hO ?_;intro a H;refine kP H (SR fun _ K1=>ak K1 rfl (SQ fun _ K2=>SB (SR fun _ K3=>Rm rfl ?_)));clear H K1;intro a H;refine s_call tQ H wn rfl (uw _ _ H.ro x 1 1073741824) rfl ?_;clear H;rintro v7 _ a w ⟨rfl,rfl⟩ - H;refine kH H (Rn rfl (Rm rfl (Sp 9 rfl ?_ ?_))) <;> clear H
 ·intro h9 a H
  try have p9:=dT h9
  refine kH H (aY h9 rfl (aY h9 rfl (Pt h9 rfl (ak K3 rfl (Ct rfl rfl (SQ fun _ K4=>?_))))));clear H K3;intro a H
  have e:ou bq x=18:=by rw [ou,au (by first|(simp_all;done)|(simp_all;omega))]
  refine kP H (SC (aS K4 rfl ?_));clear H K4;intro a H;refine lr H results128 rfl ?_
  first
   | exact H.hp.dW ⟨by rw [e],by rw [jC,au e],rfl⟩
   | exact H.hp.dW ⟨by rw [e],by rw [jC,ah (by rw [e];decide)],rfl⟩
 intro h9 a H
 try have p9:=dF h9
 refine kH H (YM h9 rfl ?_);clear H;intro a H;refine qL H (wg H rfl rfl h9) rfl rfl ?_;clear H;intro a H;refine kH H (YF abY h9 rfl (YO yj 0 h9 rfl (YM h9 rfl ?_)));clear H;intro a H;refine wN (zv:=.bool false) yx mG (by kernel_rfl) H (wg H rfl rfl h9) rfl rfl (H.ro _ _ hck.use) rfl ?_;clear H;intro a H;rw [show (pV x []).getD (Value.bool false)=.bool false from rfl] at H;refine kH H (Pf h9 rfl (ak K3 rfl (Cd rfl ?_ ?_))) <;> clear H K3
 ·intro h5 a H
  try have p5:=dT h5
  refine aZ (fun _ K5=>?_)
  have e:ou bq x=18:=by rw [ou,au (by first|(simp_all;done)|(simp_all;omega))]
  refine kP H (SC (aS K5 rfl ?_));clear H K5;intro a H;refine lr H results128 rfl ?_
  first
   | exact H.hp.dW ⟨by rw [e],by rw [jC,au e],rfl⟩
   | exact H.hp.dW ⟨by rw [e],by rw [jC,ah (by rw [e];decide)],rfl⟩
 intro h5 a H
 try have p5:=dF h5
 have hin:decide (1≤x∧x≤1073741824)=true:=by simp_all
 refine kP H (SR fun _ K6=>Rm rfl (Rk rfl (aU RU yj 0 rfl rfl (Rm rfl ?_))));clear H;intro a H;refine wN (zv:=.bool false) yx mG (by kernel_rfl) H wn rfl rfl (H.hp.own _ (mM _ iH)) rfl ?_;clear H;intro a H;rw [CF] at H;refine kH H (ak K6 rfl (Cd rfl ?_ ?_)) <;> clear H K6
 ·intro dB a H
  refine aZ (fun _ K7=>?_)
  have e:ou bq x=7:=by rw [ou,ah (by simpa using hin),au (rY dB)]
  refine kP H (SC (aS K7 rfl ?_));clear H K7;intro a H;refine lr H results128 rfl ?_
  first
   | exact H.hp.dW ⟨by rw [e],by rw [jC,au e],rfl⟩
   | exact H.hp.dW ⟨by rw [e],by rw [jC,ah (by rw [e];decide)],rfl⟩
 intro dB a H
 have hx:x∉bq:=of_decide_eq_false dB;have hnew:pV x (fC bq)=none:=I9 (by simpa [fC,List.map_map,Function.comp_def] using hx)
 have e:ou bq x=0:=by rw [ou,ah (by simpa using hin),ah hx]
 refine kP H (Kc K2 (SR fun _ K8=>Rm rfl (Rk rfl (aU RU yj 0 rfl rfl (Rm rfl ?_)))));clear H K2;intro a H;refine JA (i:=1) yx mG H wn rfl rfl rfl rfl hnew ?_;clear H;intro w H;dsimp only [List.set] at H;rw [← afx] at H;refine K8 _ _ ?_;clear K8;refine kP H (SR fun _ K9=>ak K9 rfl ?_);clear H K9;intro a H;refine lr H results128 rfl ?_
 first
  | exact H.hp.dW ⟨by rw [e],by rw [jC,au e],rfl⟩
  | exact H.hp.dW ⟨by rw [e],by rw [jC,ah (by rw [e];decide)],rfl⟩
def mU (st:List bG) (wI:List Int) (key v:Int):Int :=
 if key=20∨key=1 then bS (decide (v≠0∧JD st v≠(if key=1 then 2 else 1))) 25 else if key=33 then bS (decide (v≠0∧v∉wI)) 26 else 0
theorem KJ (G:GH) (w0:World) (hG:Hold G w0) (st:List bG) (li:List fH) (rv:List eT) (b ms ml mr mb mu:Nat) (n:Int) (key v:Int) (hck:rU G st li rv ms ml mr mu) (hb:G b=some (fB b ms ml mr mb mu n).2) :
  Calls prog 91 #[(aH b 0),vi key,vi v] w0 (bA w0 G fun u G'=>u=vi (mU st (li.map fH.id) key v)∧G=G'):=by
 have hc0:aJ G b 0=some (.map (some ms)):=by unfold aJ;rw [hb];rfl
 have hc1:aJ G b 1=some (.map (some ml)):=by unfold aJ;rw [hb];rfl
 refine eN [(0,_),(1,_),(2,_)] func91 rfl ntmps91 rfl rfl hG ?_;intro a H;refine kP H (SR fun _ K1=>ak K1 rfl (SQ fun _ K2=>SR fun _ K3=>Rm rfl (Kz K3 (SB (SQ fun _ K4=>SR fun _ K5=>Rc rfl (ak K5 rfl (Cd rfl ?_ ?_))))))) <;> clear H K1 K3 K5
 ·intro h9 a H
  try have p9:=dT h9
  refine kP H (Kc K4 (Ct rfl h9 (SR fun _ K6=>ak K6 rfl (SQ fun _ K7=>SR fun _ K8=>Rm rfl (Rc rfl (Kz K8 (Cd rfl ?_ ?_))))))) <;> clear H K4 K6 K8
  ·intro eu a H
   try have oD:=dT eu
   refine kP H (SC (aS K7 rfl (SR fun _ K9=>Rm rfl (Rc rfl (Rm rfl (Sp 16 rfl ?_ ?_)))))) <;> clear H K7
   ·intro h16 a H
    try have p16:=dT h16
    refine kH H (YM h16 rfl ?_);clear H;intro a H;refine qL H (wg H rfl rfl h16) rfl rfl ?_;clear H;intro a H;refine kH H (YF Fe h16 rfl (YR Gd h16 rfl (by assumption) ?_));clear H;intro a H;refine kH H (YM h16 rfl ?_);clear H;intro a H;refine wN (zv:=vi 0) C9 mG (by kernel_rfl) H (wg H rfl rfl h16) rfl rfl (H.ro _ _ hck.sty) rfl ?_;clear H;intro a H;rw [F4] at H;refine kH H (YM h16 rfl (YC h16 rfl (Pt h16 rfl ?_)));clear H;intro a H;refine s_call iL H wn rfl (iN _ _ H.ro _ 25) rfl ?_;clear H;rintro v26 _ a w ⟨rfl,rfl⟩ - H;refine kH H (ak K9 rfl ?_);clear H K9;intro a H;refine lr H results91 rfl ?_
    exact H.rt ⟨aA vi (by unfold mU;(repeat' split) <;> first|rfl|(simp_all;done)|(exfalso;simp_all;done)|(congr 1;rw [nI];simp only [qY,qz,nY];exact ⟨fun h=>⟨p31,h⟩,fun h=>h.2⟩)),rfl⟩
   intro h16 a H
   try have p16:=dF h16
   refine kH H (aY h16 rfl (aY h16 rfl (aP h16 rfl (Pf h16 rfl ?_))));clear H;intro a H;refine s_call iL H wn rfl (iN _ _ H.ro _ 25) rfl ?_;clear H;rintro v26 _ a w ⟨rfl,rfl⟩ - H;refine kH H (ak K9 rfl ?_);clear H K9;intro a H;refine lr H results91 rfl ?_
   exact H.rt ⟨aA vi (by unfold mU;(repeat' split) <;> first|rfl|(simp_all;done)|(exfalso;simp_all;done)|(congr 1;rw [nI];simp only [qY,qz,nY];exact ⟨fun h=>⟨p31,h⟩,fun h=>h.2⟩)),rfl⟩
  intro eu a H
  try have oD:=dF eu
  refine kP H (Kc K7 (SR fun _ aT=>Rm rfl (Rc rfl (Rm rfl (Sp 16 rfl ?_ ?_))))) <;> clear H K7
  ·intro h16 a H
   try have p16:=dT h16
   refine kH H (YM h16 rfl ?_);clear H;intro a H;refine qL H (wg H rfl rfl h16) rfl rfl ?_;clear H;intro a H;refine kH H (YF Fe h16 rfl (YR Gd h16 rfl (by assumption) ?_));clear H;intro a H;refine kH H (YM h16 rfl ?_);clear H;intro a H;refine wN (zv:=vi 0) C9 mG (by kernel_rfl) H (wg H rfl rfl h16) rfl rfl (H.ro _ _ hck.sty) rfl ?_;clear H;intro a H;rw [F4] at H;refine kH H (YM h16 rfl (YC h16 rfl (Pt h16 rfl ?_)));clear H;intro a H;refine s_call iL H wn rfl (iN _ _ H.ro _ 25) rfl ?_;clear H;rintro v26 _ a w ⟨rfl,rfl⟩ - H;refine kH H (ak aT rfl ?_);clear H aT;intro a H;refine lr H results91 rfl ?_
   exact H.rt ⟨aA vi (by unfold mU;(repeat' split) <;> first|rfl|(simp_all;done)|(exfalso;simp_all;done)|(congr 1;rw [nI];simp only [qY,qz,nY];exact ⟨fun h=>⟨p31,h⟩,fun h=>h.2⟩)),rfl⟩
  intro h16 a H
  try have p16:=dF h16
  refine kH H (aY h16 rfl (aY h16 rfl (aP h16 rfl (Pf h16 rfl ?_))));clear H;intro a H;refine s_call iL H wn rfl (iN _ _ H.ro _ 25) rfl ?_;clear H;rintro v26 _ a w ⟨rfl,rfl⟩ - H;refine kH H (ak aT rfl ?_);clear H aT;intro a H;refine lr H results91 rfl ?_
  exact H.rt ⟨aA vi (by unfold mU;(repeat' split) <;> first|rfl|(simp_all;done)|(exfalso;simp_all;done)|(congr 1;rw [nI];simp only [qY,qz,nY];exact ⟨fun h=>⟨p31,h⟩,fun h=>h.2⟩)),rfl⟩
 intro h9 a H
 try have p9:=dF h9
 refine kP H (SC (Rc rfl (aS K4 rfl (Cd rfl ?_ ?_)))) <;> clear H K4
 ·intro h9 a H
  try have p9:=dT h9
  refine kP H (SR fun _ bD=>ak bD rfl (SQ fun _ bK=>SR fun _ bT=>Rm rfl (Rc rfl (Kz bT (Cd rfl ?_ ?_))))) <;> clear H bD bT
  ·intro eu a H
   try have oD:=dT eu
   refine kP H (SC (aS bK rfl (SR fun _ bU=>Rm rfl (Rc rfl (Rm rfl (Sp 16 rfl ?_ ?_)))))) <;> clear H bK
   ·intro h16 a H
    try have p16:=dT h16
    refine kH H (YM h16 rfl ?_);clear H;intro a H;refine qL H (wg H rfl rfl h16) rfl rfl ?_;clear H;intro a H;refine kH H (YF Fe h16 rfl (YR Gd h16 rfl (by assumption) ?_));clear H;intro a H;refine kH H (YM h16 rfl ?_);clear H;intro a H;refine wN (zv:=vi 0) C9 mG (by kernel_rfl) H (wg H rfl rfl h16) rfl rfl (H.ro _ _ hck.sty) rfl ?_;clear H;intro a H;rw [F4] at H;refine kH H (YM h16 rfl (YC h16 rfl (Pt h16 rfl ?_)));clear H;intro a H;refine s_call iL H wn rfl (iN _ _ H.ro _ 25) rfl ?_;clear H;rintro v26 _ a w ⟨rfl,rfl⟩ - H;refine kH H (ak bU rfl ?_);clear H bU;intro a H;refine lr H results91 rfl ?_
    exact H.rt ⟨aA vi (by unfold mU;(repeat' split) <;> first|rfl|(simp_all;done)|(exfalso;simp_all;done)|(congr 1;rw [nI];simp only [qY,qz,nY];exact ⟨fun h=>⟨p31,h⟩,fun h=>h.2⟩)),rfl⟩
   intro h16 a H
   try have p16:=dF h16
   refine kH H (aY h16 rfl (aY h16 rfl (aP h16 rfl (Pf h16 rfl ?_))));clear H;intro a H;refine s_call iL H wn rfl (iN _ _ H.ro _ 25) rfl ?_;clear H;rintro v26 _ a w ⟨rfl,rfl⟩ - H;refine kH H (ak bU rfl ?_);clear H bU;intro a H;refine lr H results91 rfl ?_
   exact H.rt ⟨aA vi (by unfold mU;(repeat' split) <;> first|rfl|(simp_all;done)|(exfalso;simp_all;done)|(congr 1;rw [nI];simp only [qY,qz,nY];exact ⟨fun h=>⟨p31,h⟩,fun h=>h.2⟩)),rfl⟩
  intro eu a H
  try have oD:=dF eu
  refine kP H (Kc bK (SR fun _ dM=>Rm rfl (Rc rfl (Rm rfl (Sp 16 rfl ?_ ?_))))) <;> clear H bK
  ·intro h16 a H
   try have p16:=dT h16
   refine kH H (YM h16 rfl ?_);clear H;intro a H;refine qL H (wg H rfl rfl h16) rfl rfl ?_;clear H;intro a H;refine kH H (YF Fe h16 rfl (YR Gd h16 rfl (by assumption) ?_));clear H;intro a H;refine kH H (YM h16 rfl ?_);clear H;intro a H;refine wN (zv:=vi 0) C9 mG (by kernel_rfl) H (wg H rfl rfl h16) rfl rfl (H.ro _ _ hck.sty) rfl ?_;clear H;intro a H;rw [F4] at H;refine kH H (YM h16 rfl (YC h16 rfl (Pt h16 rfl ?_)));clear H;intro a H;refine s_call iL H wn rfl (iN _ _ H.ro _ 25) rfl ?_;clear H;rintro v26 _ a w ⟨rfl,rfl⟩ - H;refine kH H (ak dM rfl ?_);clear H dM;intro a H;refine lr H results91 rfl ?_
   exact H.rt ⟨aA vi (by unfold mU;(repeat' split) <;> first|rfl|(simp_all;done)|(exfalso;simp_all;done)|(congr 1;rw [nI];simp only [qY,qz,nY];exact ⟨fun h=>⟨p31,h⟩,fun h=>h.2⟩)),rfl⟩
  intro h16 a H
  try have p16:=dF h16
  refine kH H (aY h16 rfl (aY h16 rfl (aP h16 rfl (Pf h16 rfl ?_))));clear H;intro a H;refine s_call iL H wn rfl (iN _ _ H.ro _ 25) rfl ?_;clear H;rintro v26 _ a w ⟨rfl,rfl⟩ - H;refine kH H (ak dM rfl ?_);clear H dM;intro a H;refine lr H results91 rfl ?_
  exact H.rt ⟨aA vi (by unfold mU;(repeat' split) <;> first|rfl|(simp_all;done)|(exfalso;simp_all;done)|(congr 1;rw [nI];simp only [qY,qz,nY];exact ⟨fun h=>⟨p31,h⟩,fun h=>h.2⟩)),rfl⟩
 intro h9 a H
 try have p9:=dF h9
 refine kP H (SR fun _ dO=>Rc rfl (ak dO rfl (Cd rfl ?_ ?_))) <;> clear H dO
 ·intro h27 a H
  try have p27:=dT h27
  refine kP H (SR fun _ dD=>Rm rfl (Rc rfl (Rm rfl (Sp 31 rfl ?_ ?_)))) <;> clear H
  ·intro h31 a H
   try have p31:=dT h31
   refine kH H (YM h31 rfl ?_);clear H;intro a H;refine qL H (wg H rfl rfl h31) rfl rfl ?_;clear H;intro a H;refine kH H (YF RS h31 rfl (YR yj h31 rfl (by assumption) ?_));clear H;intro a H;refine kH H (YM h31 rfl ?_);clear H;intro a H;refine wN (zv:=.bool false) yx mG (by kernel_rfl) H (wg H rfl rfl h31) rfl rfl (H.ro _ _ hck.wI) rfl ?_;clear H;intro a H;rw [CF] at H;refine kH H (YN h31 rfl (Pt h31 rfl ?_));clear H;intro a H;refine s_call iL H wn rfl (iN _ _ H.ro _ 26) rfl ?_;clear H;rintro v40 _ a w ⟨rfl,rfl⟩ - H;refine kH H (ak dD rfl ?_);clear H dD;intro a H;refine lr H results91 rfl ?_
   exact H.rt ⟨aA vi (by unfold mU;(repeat' split) <;> first|rfl|(simp_all;done)|(exfalso;simp_all;done)|(congr 1;rw [nI];simp only [qY,qz,nY];exact ⟨fun h=>⟨p31,h⟩,fun h=>h.2⟩)),rfl⟩
  intro h31 a H
  try have p31:=dF h31
  refine kH H (aY h31 rfl (aP h31 rfl (aP h31 rfl (Pf h31 rfl ?_))));clear H;intro a H;refine s_call iL H wn rfl (iN _ _ H.ro _ 26) rfl ?_;clear H;rintro v40 _ a w ⟨rfl,rfl⟩ - H;refine kH H (ak dD rfl ?_);clear H dD;intro a H;refine lr H results91 rfl ?_
  exact H.rt ⟨aA vi (by unfold mU;(repeat' split) <;> first|rfl|(simp_all;done)|(exfalso;simp_all;done)|(congr 1;rw [nI];simp only [qY,qz,nY];exact ⟨fun h=>⟨p31,h⟩,fun h=>h.2⟩)),rfl⟩
 intro h27 a H
 try have p27:=dF h27
 refine kP H (Kc K2 (SR fun _ eG=>ak eG rfl ?_));clear H K2 eG;intro a H;refine lr H results91 rfl ?_
 exact H.rt ⟨aA vi (by unfold mU;(repeat' split) <;> first|rfl|(simp_all;done)|(exfalso;simp_all;done)|(congr 1;rw [nI];simp only [qY,qz,nY];exact ⟨fun h=>⟨p31,h⟩,fun h=>h.2⟩)),rfl⟩
end
section
open Go.RowKit
section
variable {N:Nat} {D:List Deferred} {w0:World} {F:Nat→Prop} {G0 G G':GH} {L L':OL} {T:List (Nat × aj)}
variable {r:Option Nat} {P:Program} {ops:Array Oper} {Q:Exit→Act→World→Prop} {rest:List Oper} {a:Act} {w w':World}
theorem zX {ι:Type} {Tc:List (Nat × aj)} {l:List Oper} (k:Nat) (Tv:ι→List (Nat × aj)) (Pr:ι→Prop) (_:St N D w0 F G0 G L Tc a w)
  (h1:(∀ i a w,Pr i→St N D w0 F G0 G L (Tv i++Tc) a w→WL r P ops Q (l.drop k) a w)→WL r P ops Q l a w)
  (h2:∀ i a w,Pr i→St N D w0 F G0 G L (Tv i++Tc) a w→WL r P ops Q (l.drop k) a w):WL r P ops Q l a w:=h1 h2
theorem Change.back (h:Change w w' G G' L L'):Change w w' G G L L' :=
 ⟨h.os,h.tape,h.output,h.size,h.fr,fun _ _ h=>h,fun _ _ h=>.inl h,⟨fun k o hk=>h.owns.ro k o (h.gm k o hk),h.owns.own,fun p hp=>(by
  have hs:=h.owns.sep p hp
  cases hg:G p.1 with
  | none=>rfl
  | some o=>have:=h.gm _ _ hg;rw [hs] at this;cases this),h.owns.nd⟩,h.lx⟩
theorem fT.back {R:aj→GH→OL→Prop} {R':aj→OL→Prop} (hR:∀ v G' L',R v G' L'→R' v L') {e:Ending} (h:fT w G L R e w'):fT w G L (fun v G' L'=>G=G'∧R' v L') e w':=by
 obtain ⟨v,G',L',rfl,hc,hr⟩:=h
 exact ⟨v,G,L',rfl,hc.back,rfl,hR _ _ _ hr⟩
theorem Calls.Yu {f:FuncId} {args:Array aj} {R:aj→GH→OL→Prop} {R':aj→OL→Prop} (h:Calls P f args w (fT w G L R)) (hR:∀ v G' L',R v G' L'→R' v L'):Calls P f args w (fT w G L fun v G' L'=>G=G'∧R' v L') :=
 h.mono fun _ _=>fT.back hR
theorem bA.back {R:aj→GH→Prop} {e:Ending} (h:bA w G R e w'):bA w G (fun v G'=>(∃ g,R v g)∧G=G') e w':=by
 obtain ⟨v,G',rfl,hb,hX,hr⟩:=h
 exact ⟨v,G,rfl,hb,⟨fun _ _ h=>h,fun _ _ h=>.inl h,fun k o hk=>hX.2.2 k o (hX.1 k o hk)⟩,⟨G',hr⟩,rfl⟩
theorem Qq {f:FuncId} {args:Array aj} {R:aj→GH→Prop} (h:Calls P f args w (bA w G R)):Calls P f args w (bA w G fun v G'=>(∃ g,R v g)∧G=G'):=h.mono fun _ _=>bA.back
theorem gH.add {b:Nat} {o:Obj} (h:gH G ((b,o) :: L) w):Hold (G.add b o) w:=fun k o' hk=>by
 unfold GH.add at hk
 split at hk
 ·next e=>cases hk;subst e;exact h.own _ iH
 ·exact h.ro k o' hk
theorem agy {b:Nat} {o:Obj} {R:aj→GH→Prop} {R':aj→Prop} (hO:gH G ((b,o) :: L) w) (hR:∀ v G',R v G'→R' v) {e:Ending} (h:bA w (G.add b o) R e w'):fT w G ((b,o) :: L) (fun v G' L'=>G=G'∧L'=(b,o) :: L∧R' v) e w':=by
 obtain ⟨v,G',rfl,hb,hX,hr⟩:=h
 exact ⟨v,G,_,rfl,(hO.hp.below hb).Wo,rfl,rfl,hR _ _ hr⟩
end
end
section
open Go.RowKit
theorem abM:GD prog 187 [(0,false),(1,false)]:=⟨by kernel_rfl,by kernel_rfl,by kernel_rfl,by kernel_rfl,by kernel_rfl⟩
theorem abN:GD prog 190 [(0,false),(1,false)]:=⟨by kernel_rfl,by kernel_rfl,by kernel_rfl,by kernel_rfl,by kernel_rfl⟩
theorem abO:GD prog 199 [(0,false),(1,false),(2,false),(3,true)]:=⟨by kernel_rfl,by kernel_rfl,by kernel_rfl,by kernel_rfl,by kernel_rfl⟩
theorem Z9:∀ args w,(callFunc 106 args).run prog w=.ok (.enter 106 args) w:=enters func106 rfl (by kernel_rfl)
theorem uV:bO prog 27 0 0:=⟨by kernel_rfl⟩
theorem Aj:bO prog 27 1 1:=⟨by kernel_rfl⟩
theorem aac:∀ args w,(callFunc 107 args).run prog w=.ok (.enter 107 args) w:=enters func107 rfl (by kernel_rfl)
theorem aad:∀ args w,(callFunc 108 args).run prog w=.ok (.enter 108 args) w:=enters func108 rfl (by kernel_rfl)
abbrev jd.cells (x:jd):List aj:=[vi x.rev,vi x.move]
abbrev iO.cells (x:iO):List aj:=[vi x.rev,vi x.key,vi x.before,.bool x.had]
theorem KR {G:GH} {x:jd} {cs:List aj} (h:aW G x.dat cs):cs=x.cells:=by
 simp only [jd.dat,aW,av] at h
 obtain ⟨_,_,rfl,⟨rfl,_⟩,_,_,rfl,⟨rfl,_⟩,rfl⟩:=h
 rfl
theorem Ny {G:GH} {x:iO} {cs:List aj} (h:aW G x.dat cs):cs=x.cells:=by
 simp only [iO.dat,aW,av] at h
 obtain ⟨_,_,rfl,⟨rfl,_⟩,_,_,rfl,⟨rfl,_⟩,_,_,rfl,⟨rfl,_⟩,_,_,rfl,⟨rfl,_⟩,rfl⟩:=h
 rfl
theorem gY.eq_iff (a b:gY):(a.key=b.key∧a.value=b.value)↔a=b:=by cases a;cases b;simp
theorem jd.eq_iff (a b:jd):(a.rev=b.rev∧a.move=b.move)↔a=b:=by cases a;cases b;simp
theorem iO.eq_iff (a b:iO):(a.rev=b.rev∧a.key=b.key∧a.before=b.before∧a.had=b.had)↔a=b:=by cases a;cases b;simp
instance:DecidableEq gY:=fun a b=>decidable_of_iff _ (gY.eq_iff a b)
instance:DecidableEq jd:=fun a b=>decidable_of_iff _ (jd.eq_iff a b)
instance:DecidableEq iO:=fun a b=>decidable_of_iff _ (iO.eq_iff a b)
theorem afI (a b:gY):(!([(0,false),(1,false)].all fun o=>jI #[vi a.key,vi a.value] o == jI #[vi b.key,vi b.value] o))=!decide (a=b):=by
 have h:=gY.eq_iff a b;rw [nI]
 simp only [qY,qz]
 rw [← h]
 simp [jI]
theorem afG (a b:jd):(!([(0,false),(1,false)].all fun o=>jI #[vi a.rev,vi a.move] o == jI #[vi b.rev,vi b.move] o))=!decide (a=b):=by
 have h:=jd.eq_iff a b;rw [nI]
 simp only [qY,qz]
 rw [← h]
 simp [jI]
theorem afH (a b:iO):(!([(0,false),(1,false),(2,false),(3,true)].all fun o=>jI #[vi a.rev,vi a.key,vi a.before,.bool a.had] o == jI #[vi b.rev,vi b.key,vi b.before,.bool b.had] o))=!decide (a=b):=by
 have h:=iO.eq_iff a b;rw [nI]
 simp only [qY,qz]
 rw [← h]
 simp [jI]
theorem abK (G:GH) (w0:World) (hG:Hold G w0) (A B:List gY) (v u:aj) (hv:av G (.sl 2 (A.map gY.dat)) v) (hu:av G (.sl 2 (B.map gY.dat)) u) :
  Calls prog 106 #[v,u] w0 (bA w0 G fun r G'=>r=.bool (decide (A=B))):=by
 obtain ⟨vA,vc,rfl,hc1,hc2,hg⟩:=hv.slice;obtain ⟨uA,uc,rfl,hd1,hd2,hh⟩:=hu.slice;have hml:maxLen=9223372036854775807:=rfl;(iterate 2 rw [bX] at *);refine eN [(0,_),(1,_)] func106 rfl ntmps106 rfl rfl hG ?_;intro a H;refine kP H (SR fun _ K1=>ak K1 rfl (SQ fun _ K2=>SR fun _ K3=>Rm rfl (Rl nT rfl (Rm rfl (Rl nT rfl (Rc rfl (Kz K3 (Cd rfl ?_ ?_)))))))) <;> clear H K1 K3
 ·intro h10 a H
  try have lC:=dT h10
  exact kP H (SR fun _ K4=>ak K4 rfl (LR results106 rfl fun H=>H.rt (aG (iE fun e=>absurd (aA List.length e) (by omega)).symm)))
 intro h10 a H
 try have lC:=dF h10
 refine kP H (Kc K2 (SQ fun _ K5=>SR fun _ K6=>Rm rfl (Rl nT rfl (Rm rfl (Kz K6 (SB ?_))))));clear H K2 K6;intro a H;skip;refine fJ (ι:=Nat × GH) (Tc:=[(0,_),(1,_),(12,_)]) (Lc:=[]) (fun gh=>[(13,vi gh.1)]) (fun gh=>[]) (fun gh=>gh.2) (fun gh=>gh.1≤A.length∧A.take gh.1=B.take gh.1∧(∀ b o,G b=some o→gh.2 b=some o)) (fun gh=>A.length - gh.1) ((0,G)) (by exact (H).sub ⟨rfl,rfl,rfl,rfl,aC⟩) ?_ ?_
 ·exact ⟨by omega,rfl,fun _ _ h=>h⟩
 clear H;intro gh a w hI H;obtain ⟨k,g⟩:=gh;dsimp only at hI H;obtain ⟨hk,hsame,hgm⟩:=hI;dsimp only [lca,bC] at H;refine kP H (SR fun _ K7=>Rc rfl (Kz K7 (SQ fun _ K8=>Cd rfl ?_ ?_))) <;> clear H K7
 ·intro dY a H
  try have mQ:=dT dY
  have hk2:k < A.length:=by omega
  have hk3:k < B.length:=by omega
  obtain ⟨b1,o1,cs1,rfl,SY,FP,hr1⟩:=hg k A[k].dat (by simp [hk2]);obtain rfl:=NW hr1;obtain ⟨b2,o2,cs2,rfl,S9,hrow2,hr2⟩:=hh k B[k].dat (by simp [hk3]);obtain rfl:=NW hr2;refine kP H (Kc K8 (SQ fun _ K9=>SB (SR fun _ aT=>Rm rfl (ak aT rfl (SQ fun _ bD=>?_)))));clear H K8 aT;intro a H;refine dI hmx [[],[],[0,1],[0,1,2],[],[],[4,5],[4,5,6],(ra 0 8)] [] (by kernel_rfl) [_,_,_,.agg A[k].cells.toArray,_,_,_,.agg B[k].cells.toArray,.bool (!decide (A[k]=B[k]))] H (aB (Z0 rfl (Rm rfl)) (Z0 rfl (Rm rfl)) (Z2 0 16 1 17 rfl (Ri nT mD rfl rfl)) ?_ (aB (Z0 rfl (Rm rfl)) (Z0 rfl (Rm rfl)) (Z2 4 20 5 21 rfl (Ri nT mD rfl rfl)) ?_ (aX ?_ cO))) ?_
  ·refine bY 2 18 rfl rfl fun _ a w G1 hG HT H fin=>?_;refine bE mD (cs:=A[k].cells) H wn rfl rfl (fun j v hj=>H.hp.aJ (aL hG (aL hgm (FP j v hj)))) rfl ?_;clear H;intro a H;exact fin H iJ rfl
  ·refine bY 6 22 rfl rfl fun _ a w G1 hG HT H fin=>?_;refine bE mD (cs:=B[k].cells) H wn rfl rfl (fun j v hj=>H.hp.aJ (aL hG (aL hgm (hrow2 j v hj)))) rfl ?_;clear H;intro a H;exact fin H iJ rfl
  ·refine bL 3 19 7 23 rfl rfl fun _ a w G1 hG HT H fin=>?_;refine Oi (.inr rfl) abM H wn rfl rfl rfl rfl ?_;clear H;intro a H;exact fin H iJ (aG (afI A[k] B[k]))
  clear H;intro a w G iQ H hv;have H:=H.aV (hv 8 24 rfl rfl) rfl;clear hv;refine aI ⟨rfl,?_⟩;refine bD _ _ ?_;clear bD;refine kZ H rfl ?_ ?_
  ·intro dL
   exact kP H (SR fun _ bK=>ak bK rfl (LR results106 rfl fun H=>H.rt (aG (iE fun e=>absurd dL (by subst e;simp)).symm)))
  intro dL
  try have jQ:=dF dL
  have hsm:A[k]=B[k]:=by simpa using dL
  refine kP H (Kc K9 (SC (Rd rfl (Rm rfl ?_))));clear H K9;intro a H;refine aI ?_;refine dN ((k+1,G)) (by exact (H).sub ⟨rfl,rfl,rfl,rfl,aC⟩) ?_ ?_
  ·(try dsimp only);exact ⟨by omega,by rw [jF hk2,jF hk3,hsame,hsm],fun b o h=>iQ b o (hgm b o h)⟩
  first|omega|(dsimp only;omega)
 intro dY a H
 try have mQ:=dF dY
 refine eX ?_;refine K5 _ _ ?_;clear K5;exact kP H (SR fun _ bT=>ak bT rfl (LR results106 rfl fun H=>H.rt (aG (jO (by rw [jG (by omega),jG (by omega)] at hsame;exact hsame)).symm)))
theorem abI (G:GH) (w0:World) (hG:Hold G w0) (A B:List jd) (v u:aj) (hv:av G (.sl 2 (A.map jd.dat)) v) (hu:av G (.sl 2 (B.map jd.dat)) u) :
  Calls prog 107 #[v,u] w0 (bA w0 G fun r G'=>r=.bool (decide (A=B))):=by
 obtain ⟨vA,vc,rfl,hc1,hc2,hg⟩:=hv.slice;obtain ⟨uA,uc,rfl,hd1,hd2,hh⟩:=hu.slice;have hml:maxLen=9223372036854775807:=rfl;(iterate 2 rw [bX] at *);refine eN [(0,_),(1,_)] func107 rfl ntmps107 rfl rfl hG ?_;intro a H;refine kP H (SR fun _ K1=>ak K1 rfl (SQ fun _ K2=>SR fun _ K3=>Rm rfl (Rl oZ rfl (Rm rfl (Rl oZ rfl (Rc rfl (Kz K3 (Cd rfl ?_ ?_)))))))) <;> clear H K1 K3
 ·intro h10 a H
  try have lC:=dT h10
  exact kP H (SR fun _ K4=>ak K4 rfl (LR results107 rfl fun H=>H.rt (aG (iE fun e=>absurd (aA List.length e) (by omega)).symm)))
 intro h10 a H
 try have lC:=dF h10
 refine kP H (Kc K2 (SQ fun _ K5=>SR fun _ K6=>Rm rfl (Rl oZ rfl (Rm rfl (Kz K6 (SB ?_))))));clear H K2 K6;intro a H;skip;refine fJ (ι:=Nat × GH) (Tc:=[(0,_),(1,_),(12,_)]) (Lc:=[]) (fun gh=>[(13,vi gh.1)]) (fun gh=>[]) (fun gh=>gh.2) (fun gh=>gh.1≤A.length∧A.take gh.1=B.take gh.1∧(∀ b o,G b=some o→gh.2 b=some o)) (fun gh=>A.length - gh.1) ((0,G)) (by exact (H).sub ⟨rfl,rfl,rfl,rfl,aC⟩) ?_ ?_
 ·exact ⟨by omega,rfl,fun _ _ h=>h⟩
 clear H;intro gh a w hI H;obtain ⟨k,g⟩:=gh;dsimp only at hI H;obtain ⟨hk,hsame,hgm⟩:=hI;dsimp only [lca,bC] at H;refine kP H (SR fun _ K7=>Rc rfl (Kz K7 (SQ fun _ K8=>Cd rfl ?_ ?_))) <;> clear H K7
 ·intro dY a H
  try have mQ:=dT dY
  have hk2:k < A.length:=by omega
  have hk3:k < B.length:=by omega
  obtain ⟨b1,o1,cs1,rfl,SY,FP,hr1⟩:=hg k A[k].dat (by simp [hk2]);obtain rfl:=KR hr1;obtain ⟨b2,o2,cs2,rfl,S9,hrow2,hr2⟩:=hh k B[k].dat (by simp [hk3]);obtain rfl:=KR hr2;refine kP H (Kc K8 (SQ fun _ K9=>SB (SR fun _ aT=>Rm rfl (ak aT rfl (SQ fun _ bD=>?_)))));clear H K8 aT;intro a H;refine dI hmx [[],[],[0,1],[0,1,2],[],[],[4,5],[4,5,6],(ra 0 8)] [] (by kernel_rfl) [_,_,_,.agg A[k].cells.toArray,_,_,_,.agg B[k].cells.toArray,.bool (!decide (A[k]=B[k]))] H (aB (Z0 rfl (Rm rfl)) (Z0 rfl (Rm rfl)) (Z2 0 16 1 17 rfl (Ri oZ uI rfl rfl)) ?_ (aB (Z0 rfl (Rm rfl)) (Z0 rfl (Rm rfl)) (Z2 4 20 5 21 rfl (Ri oZ uI rfl rfl)) ?_ (aX ?_ cO))) ?_
  ·refine bY 2 18 rfl rfl fun _ a w G1 hG HT H fin=>?_;refine bE uI (cs:=A[k].cells) H wn rfl rfl (fun j v hj=>H.hp.aJ (aL hG (aL hgm (FP j v hj)))) rfl ?_;clear H;intro a H;exact fin H iJ rfl
  ·refine bY 6 22 rfl rfl fun _ a w G1 hG HT H fin=>?_;refine bE uI (cs:=B[k].cells) H wn rfl rfl (fun j v hj=>H.hp.aJ (aL hG (aL hgm (hrow2 j v hj)))) rfl ?_;clear H;intro a H;exact fin H iJ rfl
  ·refine bL 3 19 7 23 rfl rfl fun _ a w G1 hG HT H fin=>?_;refine Oi (.inr rfl) abN H wn rfl rfl rfl rfl ?_;clear H;intro a H;exact fin H iJ (aG (afG A[k] B[k]))
  clear H;intro a w G iQ H hv;have H:=H.aV (hv 8 24 rfl rfl) rfl;clear hv;refine aI ⟨rfl,?_⟩;refine bD _ _ ?_;clear bD;refine kZ H rfl ?_ ?_
  ·intro dL
   exact kP H (SR fun _ bK=>ak bK rfl (LR results107 rfl fun H=>H.rt (aG (iE fun e=>absurd dL (by subst e;simp)).symm)))
  intro dL
  try have jQ:=dF dL
  have hsm:A[k]=B[k]:=by simpa using dL
  refine kP H (Kc K9 (SC (Rd rfl (Rm rfl ?_))));clear H K9;intro a H;refine aI ?_;refine dN ((k+1,G)) (by exact (H).sub ⟨rfl,rfl,rfl,rfl,aC⟩) ?_ ?_
  ·(try dsimp only);exact ⟨by omega,by rw [jF hk2,jF hk3,hsame,hsm],fun b o h=>iQ b o (hgm b o h)⟩
  first|omega|(dsimp only;omega)
 intro dY a H
 try have mQ:=dF dY
 refine eX ?_;refine K5 _ _ ?_;clear K5;exact kP H (SR fun _ bT=>ak bT rfl (LR results107 rfl fun H=>H.rt (aG (jO (by rw [jG (by omega),jG (by omega)] at hsame;exact hsame)).symm)))
theorem abJ (G:GH) (w0:World) (hG:Hold G w0) (A B:List iO) (v u:aj) (hv:av G (.sl 4 (A.map iO.dat)) v) (hu:av G (.sl 4 (B.map iO.dat)) u) :
  Calls prog 108 #[v,u] w0 (bA w0 G fun r G'=>r=.bool (decide (A=B))):=by
 obtain ⟨vA,vc,rfl,hc1,hc2,hg⟩:=hv.slice;obtain ⟨uA,uc,rfl,hd1,hd2,hh⟩:=hu.slice;have hml:maxLen=9223372036854775807:=rfl;(iterate 2 rw [bX] at *);refine eN [(0,_),(1,_)] func108 rfl ntmps108 rfl rfl hG ?_;intro a H;refine kP H (SR fun _ K1=>ak K1 rfl (SQ fun _ K2=>SR fun _ K3=>Rm rfl (Rl sW rfl (Rm rfl (Rl sW rfl (Rc rfl (Kz K3 (Cd rfl ?_ ?_)))))))) <;> clear H K1 K3
 ·intro h10 a H
  try have lC:=dT h10
  exact kP H (SR fun _ K4=>ak K4 rfl (LR results108 rfl fun H=>H.rt (aG (iE fun e=>absurd (aA List.length e) (by omega)).symm)))
 intro h10 a H
 try have lC:=dF h10
 refine kP H (Kc K2 (SQ fun _ K5=>SR fun _ K6=>Rm rfl (Rl sW rfl (Rm rfl (Kz K6 (SB ?_))))));clear H K2 K6;intro a H;skip;refine fJ (ι:=Nat × GH) (Tc:=[(0,_),(1,_),(12,_)]) (Lc:=[]) (fun gh=>[(13,vi gh.1)]) (fun gh=>[]) (fun gh=>gh.2) (fun gh=>gh.1≤A.length∧A.take gh.1=B.take gh.1∧(∀ b o,G b=some o→gh.2 b=some o)) (fun gh=>A.length - gh.1) ((0,G)) (by exact (H).sub ⟨rfl,rfl,rfl,rfl,aC⟩) ?_ ?_
 ·exact ⟨by omega,rfl,fun _ _ h=>h⟩
 clear H;intro gh a w hI H;obtain ⟨k,g⟩:=gh;dsimp only at hI H;obtain ⟨hk,hsame,hgm⟩:=hI;dsimp only [lca,bC] at H;refine kP H (SR fun _ K7=>Rc rfl (Kz K7 (SQ fun _ K8=>Cd rfl ?_ ?_))) <;> clear H K7
 ·intro dY a H
  try have mQ:=dT dY
  have hk2:k < A.length:=by omega
  have hk3:k < B.length:=by omega
  obtain ⟨b1,o1,cs1,rfl,SY,FP,hr1⟩:=hg k A[k].dat (by simp [hk2]);obtain rfl:=Ny hr1;obtain ⟨b2,o2,cs2,rfl,S9,hrow2,hr2⟩:=hh k B[k].dat (by simp [hk3]);obtain rfl:=Ny hr2;refine kP H (Kc K8 (SQ fun _ K9=>SB (SR fun _ aT=>Rm rfl (ak aT rfl (SQ fun _ bD=>?_)))));clear H K8 aT;intro a H;refine dI hmx [[],[],[0,1],[0,1,2],[],[],[4,5],[4,5,6],(ra 0 8)] [] (by kernel_rfl) [_,_,_,.agg A[k].cells.toArray,_,_,_,.agg B[k].cells.toArray,.bool (!decide (A[k]=B[k]))] H (aB (Z0 rfl (Rm rfl)) (Z0 rfl (Rm rfl)) (Z2 0 16 1 17 rfl (Ri sW uJ rfl rfl)) ?_ (aB (Z0 rfl (Rm rfl)) (Z0 rfl (Rm rfl)) (Z2 4 20 5 21 rfl (Ri sW uJ rfl rfl)) ?_ (aX ?_ cO))) ?_
  ·refine bY 2 18 rfl rfl fun _ a w G1 hG HT H fin=>?_;refine bE uJ (cs:=A[k].cells) H wn rfl rfl (fun j v hj=>H.hp.aJ (aL hG (aL hgm (FP j v hj)))) rfl ?_;clear H;intro a H;exact fin H iJ rfl
  ·refine bY 6 22 rfl rfl fun _ a w G1 hG HT H fin=>?_;refine bE uJ (cs:=B[k].cells) H wn rfl rfl (fun j v hj=>H.hp.aJ (aL hG (aL hgm (hrow2 j v hj)))) rfl ?_;clear H;intro a H;exact fin H iJ rfl
  ·refine bL 3 19 7 23 rfl rfl fun _ a w G1 hG HT H fin=>?_;refine Oi (.inr rfl) abO H wn rfl rfl rfl rfl ?_;clear H;intro a H;exact fin H iJ (aG (afH A[k] B[k]))
  clear H;intro a w G iQ H hv;have H:=H.aV (hv 8 24 rfl rfl) rfl;clear hv;refine aI ⟨rfl,?_⟩;refine bD _ _ ?_;clear bD;refine kZ H rfl ?_ ?_
  ·intro dL
   exact kP H (SR fun _ bK=>ak bK rfl (LR results108 rfl fun H=>H.rt (aG (iE fun e=>absurd dL (by subst e;simp)).symm)))
  intro dL
  try have jQ:=dF dL
  have hsm:A[k]=B[k]:=by simpa using dL
  refine kP H (Kc K9 (SC (Rd rfl (Rm rfl ?_))));clear H K9;intro a H;refine aI ?_;refine dN ((k+1,G)) (by exact (H).sub ⟨rfl,rfl,rfl,rfl,aC⟩) ?_ ?_
  ·(try dsimp only);exact ⟨by omega,by rw [jF hk2,jF hk3,hsame,hsm],fun b o h=>iQ b o (hgm b o h)⟩
  first|omega|(dsimp only;omega)
 intro dY a H
 try have mQ:=dF dY
 refine eX ?_;refine K5 _ _ ?_;clear K5;exact kP H (SR fun _ bT=>ak bT rfl (LR results108 rfl fun H=>H.rt (aG (jO (by rw [jG (by omega),jG (by omega)] at hsame;exact hsame)).symm)))
theorem gW.eq_iff (a b:gW):(((a.props=b.props∧a.marks.ins=b.marks.ins)∧a.marks.move=b.marks.move)∧a.marks.cu=b.marks.cu)∧a.marks.layers=b.marks.layers↔a=b:=by
 obtain ⟨p,i,m,d,l⟩:=a;obtain ⟨p2,i2,m2,d2,l2⟩:=b
 simp [and_assoc]
instance:DecidableEq gW:=fun a b=>decidable_of_iff _ (gW.eq_iff a b)
abbrev xJ (h:gW) (p d l:aj):aj:=.agg #[p,vi h.marks.ins,vi h.marks.move,d,l]
theorem abP (G:GH) (w0:World) (hG:Hold G w0) (x y:gW) (p d l p2 d2 l2:aj) (hx:ji G x p d l) (hy:ji G y p2 d2 l2) :
  Calls prog 73 #[xJ x p d l,xJ y p2 d2 l2] w0 (bA w0 G fun r G'=>r=.bool (decide (x=y))):=by
 obtain ⟨pA,pc,rfl,-,-,-⟩:=hx.props.slice;obtain ⟨dA,dc,rfl,-,-,-⟩:=hx.cu.slice;obtain ⟨lA,lc,rfl,-,-,-⟩:=hx.layers.slice;obtain ⟨pA2,pc2,rfl,-,-,-⟩:=hy.props.slice;obtain ⟨dA2,dc2,rfl,-,-,-⟩:=hy.cu.slice;obtain ⟨lA2,lc2,rfl,-,-,-⟩:=hy.layers.slice;have he:=gW.eq_iff x y;refine eN [(0,_),(1,_)] func73 rfl ntmps73 rfl rfl hG ?_;intro a H;refine dw (fun _ K1=>?_);refine fu (cs:=[_,_,_,_,_]) H wn rfl rfl rfl ?_;clear H;intro b2 a w hb2 H;refine fu (cs:=[_,_,_,_,_]) H wn rfl rfl rfl ?_;clear H;intro b3 a w hb3 H;refine kH H (ak K1 rfl (SR fun _ K2=>aU BO zR 1 rfl rfl (aU BO zR 0 rfl rfl ?_)));clear H K1;intro a H;refine s_call Z9 H wn rfl (abK _ _ H.ro x.props y.props _ _ hx.props hy.props) rfl ?_;clear H;rintro v9 G9 a w rfl wo H;refine kH H (Rm rfl (Sp 10 rfl ?_ ?_)) <;> clear H
 ·intro h10 a H
  try have lC:=dT h10
  refine kH H (YF sI h10 rfl (YF uV h10 rfl (YO aF 1 h10 rfl (YF sI h10 rfl (YF uV h10 rfl (YO aF 0 h10 rfl (YC h10 rfl (Pt h10 rfl (Rm rfl (Sp 19 rfl ?_ ?_)))))))))) <;> clear H
  ·intro h19 a H
   try have uE:=dT h19
   refine kH H (YF sI h19 rfl (YF Aj h19 rfl (YO aF 1 h19 rfl (YF sI h19 rfl (YF Aj h19 rfl (YO aF 0 h19 rfl (YC h19 rfl (Pt h19 rfl (Rm rfl (Sp 28 rfl ?_ ?_)))))))))) <;> clear H
   ·intro eO a H
    try have p28:=dT eO
    refine kH H (YF sI eO rfl (YF uW eO rfl (YO vE 1 eO rfl (YF sI eO rfl (YF uW eO rfl (YO vE 0 eO rfl ?_))))));clear H;intro a H;refine s_call aac H (wg H rfl rfl eO) rfl (abI _ _ H.ro x.marks.cu y.marks.cu _ _ (hx.cu.mono wo) (hy.cu.mono wo)) rfl ?_;clear H;rintro v35 O9 a w rfl Tn H;refine kH H (Pt eO rfl (Rm rfl (Sp 37 rfl ?_ ?_))) <;> clear H
    ·intro h37 a H
     try have p37:=dT h37
     refine kH H (YF sI h37 rfl (YF BN h37 rfl (YO CY 1 h37 rfl (YF sI h37 rfl (YF BN h37 rfl (YO CY 0 h37 rfl ?_))))));clear H;intro a H;refine s_call aad H (wg H rfl rfl h37) rfl (abJ _ _ H.ro x.marks.layers y.marks.layers _ _ ((hx.layers.mono wo).mono Tn) ((hy.layers.mono wo).mono Tn)) rfl ?_;clear H;rintro v44 G44 a w rfl ajk H;exact kH H (Pt h37 rfl (ak K2 rfl (LR results73 rfl fun H=>H.rt (aG (by simp_all)))))
    intro h37 a H
    try have p37:=dF h37
    exact kH H (aY h37 rfl (aP h37 rfl (aP h37 rfl (Pf h37 rfl (ak K2 rfl (LR results73 rfl fun H=>H.rt (aG (by simp_all))))))))
   intro eO a H
   try have p28:=dF eO
   exact kH H (aY eO rfl (aP eO rfl (aP eO rfl (Pf eO rfl (Rm rfl (aY rfl rfl (aP rfl rfl (aP rfl rfl (Pf rfl rfl (ak K2 rfl (LR results73 rfl fun H=>H.rt (aG (by simp_all)))))))))))))
  intro h19 a H
  try have uE:=dF h19
  exact kH H (aY h19 rfl (aP h19 rfl (aP h19 rfl (Pf h19 rfl (Rm rfl (aY rfl rfl (aP rfl rfl (aP rfl rfl (Pf rfl rfl (Rm rfl (aY rfl rfl (aP rfl rfl (aP rfl rfl (Pf rfl rfl (ak K2 rfl (LR results73 rfl fun H=>H.rt (aG (by simp_all))))))))))))))))))
 intro h10 a H
 try have lC:=dF h10
 exact kH H (aY h10 rfl (aP h10 rfl (aP h10 rfl (Pf h10 rfl (Rm rfl (aY rfl rfl (aP rfl rfl (aP rfl rfl (Pf rfl rfl (Rm rfl (aY rfl rfl (aP rfl rfl (aP rfl rfl (Pf rfl rfl (Rm rfl (aY rfl rfl (aP rfl rfl (aP rfl rfl (Pf rfl rfl (ak K2 rfl (LR results73 rfl fun H=>H.rt (aG (by simp_all)))))))))))))))))))))))
end
section
open Go.RowKit
theorem acf:bO prog 199 0 0:=⟨by kernel_rfl⟩
theorem yT:bO prog 199 1 1:=⟨by kernel_rfl⟩
theorem R5:bO prog 199 3 3:=⟨by kernel_rfl⟩
theorem DJ:bO prog 199 2 2:=⟨by kernel_rfl⟩
theorem LA:∀ args w,(callFunc 91 args).run prog w=.ok (.enter 91 args) w:=enters func91 rfl (by kernel_rfl)
structure gG where
 st:List bG
 wI:List Int
 En:List Int
abbrev aQ (st:List bG) (li:List fH) (rv:List eT):gG:=⟨st,li.map fH.id,rv.map eT.id⟩
theorem UC {G:GH} {l:List iO} {A:Option Addr} {n c k:Nat} (hv:av G (.sl 4 (l.map iO.dat)) (.slice A n c)) (hk:k < l.length):∃ b o,A=some ⟨b,o,none⟩∧(∀ j u,l[k].cells[j]?=some u→aJ G b (o+k*4+j)=some u):=by
 obtain ⟨A',c',he,_,_,hg⟩:=hv.slice
 injection he with e1 e2 e3
 subst e1;obtain ⟨b,o,cs,h1,h2,h3,h4⟩:=hg k l[k].dat (by simp [hk]);have:=Ny h4;subst this;exact ⟨b,o,h1,h3⟩
theorem QW {G:GH} {l:List jd} {A:Option Addr} {n c k:Nat} (hv:av G (.sl 2 (l.map jd.dat)) (.slice A n c)) (hk:k < l.length):∃ b o,A=some ⟨b,o,none⟩∧(∀ j u,l[k].cells[j]?=some u→aJ G b (o+k*2+j)=some u):=by
 obtain ⟨A',c',he,_,_,hg⟩:=hv.slice
 injection he with e1 e2 e3
 subst e1;obtain ⟨b,o,cs,h1,h2,h3,h4⟩:=hg k l[k].dat (by simp [hk]);have:=KR h4;subst this;exact ⟨b,o,h1,h3⟩
def zG (C:gG) (e:Int) (k:Nat) (x:iO) (pk:Int):Int :=
 if x.rev∉C.En then 22 else if xD e x.key=false then 4 else if 0 < k∧x.key < pk then 6 else if x.had=false then bS (decide (x.before≠0)) 21 else cZ [sF x.key x.before,mU C.st C.wI x.key x.before]
def Cy (C:gG) (e:Int) (l:List iO) (k:Nat):Int:=match l[k]? with|some x=>zG C e k x ((l[k - 1]?.map iO.key).getD 0)|none=>0
theorem aff (G:GH) (w0:World) (hG:Hold G w0) (st:List bG) (li:List fH) (rv:List eT) (b ms ml mr mb mu:Nat) (n:Int) (hck:rU G st li rv ms ml mr mu) (hb:G b=some (fB b ms ml mr mb mu n).2)
  (e:Int) (l:List iO) (v:aj) (hv:av G (.sl 4 (l.map iO.dat)) v) (k:Nat) (hk:k < l.length) :
  Calls prog 93 #[(aH b 0),vi e,v,vi k] w0 (bA w0 G fun u G'=>u=vi (Cy (aQ st li rv) e l k)):=by
 have hc2:aJ G b 2=some (.map (some mr)):=by unfold aJ;rw [hb];rfl
 obtain ⟨A,c,rfl,hl1,hl2,-⟩:=hv.slice;have hml:maxLen=9223372036854775807:=rfl;rw [bX] at *;obtain ⟨xb,xo,rfl,hrow⟩:=UC hv hk
 have hk1:k - 1 < l.length:=by omega
 obtain ⟨b',o',he',hrow'⟩:=UC hv hk1
 injection he' with he'
 injection he' with e1 e2
 subst e1;subst e2
 have he:Cy (aQ st li rv) e l k=zG (aQ st li rv) e k l[k] l[k - 1].key:=by unfold Cy;rw [gZ hk,gZ hk1];rfl
 obtain ⟨x,hx⟩:∃ x,x=l[k]:=⟨_,rfl⟩;obtain ⟨y,hy⟩:∃ y,y=l[k - 1]:=⟨_,rfl⟩;rw [← hx] at hrow he;rw [← hy] at hrow' he;have hq:=hrow' 1 _ rfl;refine eN [(0,_),(1,_),(2,_),(3,_)] func93 rfl ntmps93 rfl rfl hG ?_;intro a H;refine kP H (SR fun _ K1=>ak K1 rfl (SR fun _ K2=>Rm rfl (Rm rfl (Ri sW uJ rfl rfl ?_))));clear H K1;intro a H;refine bE uJ (cs:=x.cells) H wn rfl rfl (fun j v hj=>H.hp.aJ (hrow j v hj)) rfl ?_;clear H;intro a H;refine fq uJ H wn rfl ?_;clear H;intro b9 a w xI H;refine bF uJ 0 (vs:=[_,_,_,_]) _ H wn rfl rfl rfl rfl rfl rfl rfl rfl ?_;clear H;intro w H;dsimp only [List.set,setRow] at H;refine K2 _ _ ?_;clear K2;refine kP H (SQ fun _ K3=>SB (SQ fun _ K4=>?_));clear H;intro a H;refine dI hmx [[],[0],[0,1],[0,1,2],[],[4],(ra 0 6),(ra 0 7),(ra 0 8)] [8] (by kernel_rfl) [_,_,_,_,_,vi x.rev,.bool (decide (x.rev∈rv.map eT.id)),_] H (aB (Z0 rfl (Rm rfl)) (Z1 0 15 rfl (Rk rfl)) (Z1 1 16 rfl (Rf Fg rfl)) (X1 2 17 rfl fun hG=>Rg yj rfl (aL hG hc2)) (aB (Z0 rfl (Rf acf rfl)) (Z1 4 19 rfl (Ro aF 0 rfl)) ?_ (Z1 6 21 rfl (Rn rfl)) (aX (bH rfl) cO))) ?_
 ·refine bL 3 18 5 20 rfl rfl fun _ a w G1 hG HT H fin=>?_;refine wN (zv:=.bool false) yx mG (by kernel_rfl) H wn rfl rfl (H.ro _ _ (hG _ _ hck.rev)) rfl ?_;clear H;intro a H;rw [CF] at H;exact fin H iJ rfl
 clear H;intro a w G zm H hv;have H:=H.aV (hv 7 22 rfl rfl) rfl;clear hv;refine kH H (Ra rfl ?_);clear H;intro a H;refine aI ⟨rfl,?_⟩;refine K4 _ _ ?_;clear K4;refine kZ H rfl ?_ ?_
 ·intro dY
  try have mQ:=dT dY
  refine kP H (SR fun _ K5=>ak K5 rfl ?_);clear H K5;intro a H;refine lr H results93 rfl ?_
  exact H.rt (by rw [he];refine aA vi ?_;clear he hrow hrow' hq hx hy;unfold zG;(repeat' split) <;> first|rfl|(simp_all;done)|(exfalso;simp_all;done))
 intro dY
 try have mQ:=dF dY
 refine kP H (SR fun _ K6=>Rm rfl (aU yT aF 0 rfl rfl ?_));clear H;intro a H;refine s_call Q9 H wn rfl (Qq (Sn _ _ H.ro e x.key)) rfl ?_;clear H;rintro v27 _ a w ⟨⟨_,rfl⟩,rfl⟩ - H;refine kH H (Rn rfl (ak K6 rfl (Cd rfl ?_ ?_))) <;> clear H K6
 ·intro h23 a H
  try have xV:=dT h23
  refine kP H (SR fun _ K7=>ak K7 rfl ?_);clear H K7;intro a H;refine lr H results93 rfl ?_
  exact H.rt (by rw [he];refine aA vi ?_;clear he hrow hrow' hq hx hy;unfold zG;(repeat' split) <;> first|rfl|(simp_all;done)|(exfalso;simp_all;done))
 intro h23 a H
 try have xV:=dF h23
 refine aZ (fun _ K8=>?_);replace hq:=aL zm hq
 by_cases c0:0 < (k:Int)
 ·skip
  by_cases c1:x.key < y.key
  ·skip;refine dI hmx [[],[0],[0,1],[0,1,2],(ra 0 4),[0,1,2],[0,1,2],[0,1,2,6],[0,1,2,5,6,7],[0,1,2,5,6,7,8],[0,1,2,5,6,7,8,9],(ra 0 11),(ra 0 12),(ra 0 13)] [13] (by kernel_rfl) [_,_,_,_,vi x.key,_,_,vi ((k - 1:Nat):Int),_,_,_,_,_] H (aB (Z0 rfl (Rm rfl)) (Z1 0 30 rfl (Rc rfl)) (Z1 1 31 rfl (Rm rfl)) (Z1 2 32 rfl (YF yT (aD c0) rfl)) (aB (Z2 3 33 2 32 rfl (YO aF 0 (aD c0) rfl)) (Z1 2 32 rfl (YM (aD c0) rfl)) (Z1 2 32 rfl (YM (aD c0) rfl)) ?_ (aB (Z3 5 35 7 37 2 32 rfl (YI sW uJ (aD c0) rfl rfl)) (Z2 8 38 2 32 rfl (YF yT (aD c0) rfl)) (X2 9 39 2 32 rfl fun hG=>YR aF (aD c0) rfl (aL hG hq)) (Z3 4 34 10 40 2 32 rfl (YC (aD c0) rfl)) (aX (Z2 2 32 11 41 rfl (Pt (aD c0) rfl)) (aX (bH rfl) cO))))) ?_
   ·refine bL 6 36 2 32 rfl rfl fun _ a w G1 hG HT H fin=>?_;refine lT _ H (wg H rfl rfl (aD c0)) rfl rfl rfl (by omega) (by omega) rfl ?_;clear H;intro a H;exact fin H iJ (by show _=_;first|rfl|exact aA vi (by omega))
   clear H;intro a w G iQ H hv;have H:=H.aV (hv 12 42 rfl rfl) rfl;clear hv;refine kH H (Ra rfl ?_);clear H;intro a H;refine aI ⟨rfl,?_⟩;refine K8 _ _ ?_;clear K8;refine vM H rfl (aD c1) ?_;refine aZ (fun _ K9=>?_);have hz:0 < k∧x.key < y.key:=⟨by omega,c1⟩;refine kP H (SC (aS K9 rfl ?_));clear H K9;intro a H;refine lr H results93 rfl ?_
   exact H.rt (by rw [he];refine aA vi ?_;clear he hrow hrow' hq hx hy;unfold zG;(repeat' split) <;> first|rfl|(simp_all;done)|(exfalso;simp_all;done))
  skip;refine dI hmx [[],[0],[0,1],[0,1,2],(ra 0 4),[0,1,2],[0,1,2],[0,1,2,6],[0,1,2,5,6,7],[0,1,2,5,6,7,8],[0,1,2,5,6,7,8,9],(ra 0 11),(ra 0 12),(ra 0 13)] [13] (by kernel_rfl) [_,_,_,_,vi x.key,_,_,vi ((k - 1:Nat):Int),_,_,_,_,_] H (aB (Z0 rfl (Rm rfl)) (Z1 0 30 rfl (Rc rfl)) (Z1 1 31 rfl (Rm rfl)) (Z1 2 32 rfl (YF yT (aD c0) rfl)) (aB (Z2 3 33 2 32 rfl (YO aF 0 (aD c0) rfl)) (Z1 2 32 rfl (YM (aD c0) rfl)) (Z1 2 32 rfl (YM (aD c0) rfl)) ?_ (aB (Z3 5 35 7 37 2 32 rfl (YI sW uJ (aD c0) rfl rfl)) (Z2 8 38 2 32 rfl (YF yT (aD c0) rfl)) (X2 9 39 2 32 rfl fun hG=>YR aF (aD c0) rfl (aL hG hq)) (Z3 4 34 10 40 2 32 rfl (YC (aD c0) rfl)) (aX (Z2 2 32 11 41 rfl (Pt (aD c0) rfl)) (aX (bH rfl) cO))))) ?_
  ·refine bL 6 36 2 32 rfl rfl fun _ a w G1 hG HT H fin=>?_;refine lT _ H (wg H rfl rfl (aD c0)) rfl rfl rfl (by omega) (by omega) rfl ?_;clear H;intro a H;exact fin H iJ (by show _=_;first|rfl|exact aA vi (by omega))
  clear H;intro a w G iQ H hv;have H:=H.aV (hv 12 42 rfl rfl) rfl;clear hv;refine kH H (Ra rfl ?_);clear H;intro a H;refine aI ⟨rfl,?_⟩;refine K8 _ _ ?_;clear K8;refine lW H rfl (aM c1) ?_;refine aZ (fun _ aT=>?_)
  have hz:¬ (0 < k∧x.key < y.key):=by first|exact fun h=>c1 h.2|exact fun h=>c0 (by omega)
  refine kP H (SC (aU R5 wP 0 rfl rfl (Rn rfl (aS aT rfl (Cd rfl ?_ ?_))))) <;> clear H aT
  ·intro h43 a H
   try have p43:=dT h43
   refine kP H (SR fun _ bD=>aU DJ aF 0 rfl rfl (Rc rfl ?_));clear H;intro a H;refine s_call iL H wn rfl (iN _ _ H.ro _ 21) rfl ?_;clear H;rintro v50 _ a w ⟨rfl,rfl⟩ - H;refine kH H (ak bD rfl ?_);clear H bD;intro a H;refine lr H results93 rfl ?_
   exact H.rt (by rw [he];refine aA vi ?_;clear he hrow hrow' hq hx hy;unfold zG;(repeat' split) <;> first|rfl|(simp_all;done)|(exfalso;simp_all;done))
  intro h43 a H
  try have p43:=dF h43
  refine gI ?_;refine K3 _ _ ?_;clear K3;refine aZ (fun _ bK=>?_);replace hck:=(hck.mono zm).mono iQ;replace hb:=iQ _ _ (zm _ _ hb);refine dI hmx [[],[0],[],[2],(ra 0 4),[],[],[6],[],[8],(ra 0 10),(ra 0 11),(ra 0 12),(ra 0 13)] [11,12,13] (by kernel_rfl) [_,vi x.key,_,vi x.before,vi (sF x.key x.before),_,_,vi x.key,_,vi x.before,vi (mU st (li.map fH.id) x.key x.before)] H (aB (Z0 rfl (Rf yT rfl)) (Z1 0 51 rfl (Ro aF 0 rfl)) (Z0 rfl (Rf DJ rfl)) (Z1 2 53 rfl (Ro aF 0 rfl)) (aB ?_ (Z0 rfl (Rm rfl)) (Z0 rfl (Rf yT rfl)) (Z1 6 57 rfl (Ro aF 0 rfl)) (aB (Z0 rfl (Rf DJ rfl)) (Z1 8 59 rfl (Ro aF 0 rfl)) ?_ (bH rfl) (aX (bH rfl) (aX (bH rfl) cO))))) ?_
  ·refine bL 1 52 3 54 rfl rfl fun _ a w G1 hG HT H fin=>?_;refine s_call KX H wn rfl (KH _ _ H.ro x.key x.before) rfl ?_;clear H;rintro v55 GN a w rfl MC H;exact fin H MC (rfl)
  ·refine lU 5 56 7 58 9 60 rfl rfl fun _ a w G1 hG HT H fin=>?_;refine s_call LA H wn rfl (KJ _ _ H.ro st li rv b ms ml mr mb mu n x.key x.before (hck.mono hG) (hG _ _ hb)) rfl ?_;clear H;rintro v61 Ph a w ⟨rfl,-⟩ Fz H;exact fin H Fz (rfl)
  clear H;intro a w G pO H hv;have H:=H.aV (hv 4 55 rfl rfl) rfl;have H:=H.aV (hv 10 61 rfl rfl) rfl;clear hv;refine gV nA fU [_,_] [_,_] H wn rfl rfl rfl rfl rfl (by intro i q h;match i,h with|0,h=>exact h|1,h=>exact h|n+2,h=>simp at h) rfl rfl ?_;clear H;intro Yq a w ady H;obtain ⟨XB,adV,MU,H⟩:=H.dJ;refine s_call oh H wn rfl (om _ _ H.ro _ _ (vD MU)) rfl ?_;clear H;rintro v63 _ a w ⟨rfl,rfl⟩ - H;refine kH H (Ra rfl ?_);clear H;intro a H;refine aI ⟨rfl,?_⟩;refine bK _ _ ?_;clear bK;refine lr H results93 rfl ?_
  exact H.rt (by rw [he];refine aA vi ?_;clear he hrow hrow' hq hx hy;unfold zG;(repeat' split) <;> first|rfl|(simp_all;done)|(exfalso;simp_all;done))
 skip;refine dI hmx [[],[0],[0,1],[0,1,2],(ra 0 4),[0,1,2],[0,1,2],[0,1,2,6],[0,1,2,5,6,7],[0,1,2,5,6,7,8],[0,1,2,5,6,7,8,9],(ra 0 11),(ra 0 12),(ra 0 13)] [13] (by kernel_rfl) [_,_,_,undef,undef,undef,undef,undef,undef,undef,undef,undef,_] H (aB (Z0 rfl (Rm rfl)) (Z1 0 30 rfl (Rc rfl)) (Z1 1 31 rfl (Rm rfl)) (aN (j:=2) (by kernel_rfl) (fun _ _ _ _ _ h=>h) rfl rfl rfl rfl rfl (fun _ _ h=>aO h (aG (aM c0))) rfl (fun _=>rfl)) (aB (aN (j:=2) (by kernel_rfl) (fun _ _ _ _ _ h=>h) rfl rfl rfl rfl rfl (fun _ _ h=>aO h (aG (aM c0))) rfl (fun _=>rfl)) (aN (j:=2) (by kernel_rfl) (fun _ _ _ _ _ h=>h) rfl rfl rfl rfl rfl (fun _ _ h=>aO h (aG (aM c0))) rfl (fun _=>rfl)) (aN (j:=2) (by kernel_rfl) (fun _ _ _ _ _ h=>h) rfl rfl rfl rfl rfl (fun _ _ h=>aO h (aG (aM c0))) rfl (fun _=>rfl)) (aN (j:=2) (by kernel_rfl) (fun _ _ _ _ _ h=>h) rfl rfl rfl rfl rfl (fun _ _ h=>aO h (aG (aM c0))) rfl (fun _=>rfl)) (aB (aN (j:=2) (by kernel_rfl) (fun _ _ _ _ _ h=>h) rfl rfl rfl rfl rfl (fun _ _ h=>aO h (aG (aM c0))) rfl (fun _=>rfl)) (aN (j:=2) (by kernel_rfl) (fun _ _ _ _ _ h=>h) rfl rfl rfl rfl rfl (fun _ _ h=>aO h (aG (aM c0))) rfl (fun _=>rfl)) (aN (j:=2) (by kernel_rfl) (fun _ _ _ _ _ h=>h) rfl rfl rfl rfl rfl (fun _ _ h=>aO h (aG (aM c0))) rfl (fun _=>rfl)) (aN (j:=2) (by kernel_rfl) (fun _ _ _ _ _ h=>h) rfl rfl rfl rfl rfl (fun _ _ h=>aO h (aG (aM c0))) rfl (fun _=>rfl)) (aX (Z2 2 32 11 41 rfl (Pf (aM c0) rfl)) (aX (bH rfl) cO))))) ?_
 clear H;intro a w G iQ H hv;have H:=H.aV (hv 12 42 rfl rfl) rfl;clear hv;refine kH H (Ra rfl ?_);clear H;intro a H;refine aI ⟨rfl,?_⟩;refine K8 _ _ ?_;clear K8;refine lW H rfl rfl ?_;refine aZ (fun _ bT=>?_)
 have hz:¬ (0 < k∧x.key < y.key):=by first|exact fun h=>c1 h.2|exact fun h=>c0 (by omega)
 refine kP H (SC (aU R5 wP 0 rfl rfl (Rn rfl (aS bT rfl (Cd rfl ?_ ?_))))) <;> clear H bT
 ·intro h43 a H
  try have p43:=dT h43
  refine kP H (SR fun _ bU=>aU DJ aF 0 rfl rfl (Rc rfl ?_));clear H;intro a H;refine s_call iL H wn rfl (iN _ _ H.ro _ 21) rfl ?_;clear H;rintro v50 _ a w ⟨rfl,rfl⟩ - H;refine kH H (ak bU rfl ?_);clear H bU;intro a H;refine lr H results93 rfl ?_
  exact H.rt (by rw [he];refine aA vi ?_;clear he hrow hrow' hq hx hy;unfold zG;(repeat' split) <;> first|rfl|(simp_all;done)|(exfalso;simp_all;done))
 intro h43 a H
 try have p43:=dF h43
 refine gI ?_;refine K3 _ _ ?_;clear K3;refine aZ (fun _ dM=>?_);replace hck:=(hck.mono zm).mono iQ;replace hb:=iQ _ _ (zm _ _ hb);refine dI hmx [[],[0],[],[2],(ra 0 4),[],[],[6],[],[8],(ra 0 10),(ra 0 11),(ra 0 12),(ra 0 13)] [11,12,13] (by kernel_rfl) [_,vi x.key,_,vi x.before,vi (sF x.key x.before),_,_,vi x.key,_,vi x.before,vi (mU st (li.map fH.id) x.key x.before)] H (aB (Z0 rfl (Rf yT rfl)) (Z1 0 51 rfl (Ro aF 0 rfl)) (Z0 rfl (Rf DJ rfl)) (Z1 2 53 rfl (Ro aF 0 rfl)) (aB ?_ (Z0 rfl (Rm rfl)) (Z0 rfl (Rf yT rfl)) (Z1 6 57 rfl (Ro aF 0 rfl)) (aB (Z0 rfl (Rf DJ rfl)) (Z1 8 59 rfl (Ro aF 0 rfl)) ?_ (bH rfl) (aX (bH rfl) (aX (bH rfl) cO))))) ?_
 ·refine bL 1 52 3 54 rfl rfl fun _ a w G1 hG HT H fin=>?_;refine s_call KX H wn rfl (KH _ _ H.ro x.key x.before) rfl ?_;clear H;rintro v55 GN a w rfl MC H;exact fin H MC (rfl)
 ·refine lU 5 56 7 58 9 60 rfl rfl fun _ a w G1 hG HT H fin=>?_;refine s_call LA H wn rfl (KJ _ _ H.ro st li rv b ms ml mr mb mu n x.key x.before (hck.mono hG) (hG _ _ hb)) rfl ?_;clear H;rintro v61 Ph a w ⟨rfl,-⟩ Fz H;exact fin H Fz (rfl)
 clear H;intro a w G pO H hv;have H:=H.aV (hv 4 55 rfl rfl) rfl;have H:=H.aV (hv 10 61 rfl rfl) rfl;clear hv;refine gV nA fU [_,_] [_,_] H wn rfl rfl rfl rfl rfl (by intro i q h;match i,h with|0,h=>exact h|1,h=>exact h|n+2,h=>simp at h) rfl rfl ?_;clear H;intro Yq a w ady H;obtain ⟨XB,adV,MU,H⟩:=H.dJ;refine s_call oh H wn rfl (om _ _ H.ro _ _ (vD MU)) rfl ?_;clear H;rintro v63 _ a w ⟨rfl,rfl⟩ - H;refine kH H (Ra rfl ?_);clear H;intro a H;refine aI ⟨rfl,?_⟩;refine dM _ _ ?_;clear dM;refine lr H results93 rfl ?_
 exact H.rt (by rw [he];refine aA vi ?_;clear he hrow hrow' hq hx hy;unfold zG;(repeat' split) <;> first|rfl|(simp_all;done)|(exfalso;simp_all;done))
end
section
open Go.RowKit
theorem Es:Ty prog 140 1 8 [.pointer none] false:=⟨by kernel_rfl,by kernel_rfl⟩
theorem abB:∀ args w,(callFunc 93 args).run prog w=.ok (.enter 93 args) w:=enters func93 rfl (by kernel_rfl)
theorem Ev:Ty prog 27 4 64 [.int .i64 0,.int .i64 0,.slice none 0 0,.slice none 0 0] true:=⟨by kernel_rfl,by kernel_rfl⟩
theorem Fh:bO prog 190 0 0:=⟨by kernel_rfl⟩
theorem R4:bO prog 190 1 1:=⟨by kernel_rfl⟩
theorem abA:∀ args w,(callFunc 92 args).run prog w=.ok (.enter 92 args) w:=enters func92 rfl (by kernel_rfl)
theorem afe {G:GH} {st:List bG} {li:List fH} {rv:List eT} {b ms ml mr mb mu:Nat} {n:Int} (hck:rU G st li rv ms ml mr mu) (hb:G b=some (fB b ms ml mr mb mu n).2)
  {x3 x4 OP:Nat} {e:Int} {l:List iO} {v:aj} (h3:aJ G x3 0=some (aH b 0)) (h4:aJ G x4 0=some (vi e)) (h11:aJ G OP 3=some v) (hv:av G (.sl 4 (l.map iO.dat)) v) :
  ql (.func (.func 92) #[] #[(aH x3 0),(aH x4 0),(aH OP 0)]) G l.length (Cy (aQ st li rv) e l):=by
 intro k hk G1 w0 hm hG;refine lH (caps:=[(aH x3 0),(aH x4 0),(aH OP 0)]) abA ?_;replace h3:=aL hm h3;replace h4:=aL hm h4;replace h11:=aL hm h11;replace hv:=hv.mono hm;obtain ⟨vA,vn,vc,rfl⟩:=hv.form;refine eN [(0,_),(1,_),(2,_),(3,_)] func92 rfl ntmps92 rfl rfl hG ?_;intro a H;refine kP H (SR fun _ K1=>ak K1 rfl (SR fun _ K2=>Rg Es rfl (by assumption) ?_));clear H K1;intro a H;refine kH H (Rg aF rfl (by assumption) ?_);clear H;intro a H;refine kH H (Rf BN rfl (Rg CY rfl (by assumption) ?_));clear H;intro a H;refine kH H (Rm rfl ?_);clear H;intro a H;refine s_call abB H wn rfl (aff _ _ H.ro st li rv b ms ml mr mb mu n (hck.mono hm) (hm _ _ hb) e l _ hv k hk) rfl ?_;clear H;rintro v11 uL a w rfl Cc H;exact kH H (ak K2 rfl (LR results92 rfl fun H=>H.rt rfl))
def wL (C:gG) (l:List gY):Int:=cZ (l.map fun p=>mU C.st C.wI p.key p.value)
def jo (C:gG) (m:uM):Int:=if m.ins≠0∧m.ins∉C.En then 22 else if ¬ (0≤m.move∧m.move≤1073741824)∨(m.move≠0∧m.ins=0) then 21 else if 16 < (m.cu.length:Int) then 9 else 0
def vR (C:gG) (k:Nat) (x:jd) (pr:Int):Int:=if x.rev∉C.En then 22 else if 0 < k∧x.rev≤pr then 6 else if ¬ (0≤x.move∧x.move≤1073741824) then 21 else 0
def vQ (C:gG) (l:List jd) (k:Nat):Int:=match l[k]? with|some x=>vR C k x ((l[k - 1]?.map jd.rev).getD 0)|none=>0
def ig (C:gG) (e:Int) (h:gW):Int:=cZ [fZ e h.props,wL C h.props,jo C h.marks,jP (vQ C h.marks.cu) h.marks.cu.length,bS (decide (64 < (h.marks.layers.length:Int))) 9,jP (Cy C e h.marks.layers) h.marks.layers.length]
theorem adG {C:gG} {e:Int} {h:gW} (h1:fZ e h.props≠0):ig C e h=fZ e h.props:=by simp [ig,cZ,h1]
theorem adH {C:gG} {e:Int} {h:gW} (h1:fZ e h.props=0) (h2:wL C h.props≠0):ig C e h=wL C h.props:=by simp [ig,cZ,h1,h2]
theorem zx {C:gG} {e:Int} {h:gW} (h1:fZ e h.props=0) (h2:wL C h.props=0) (h3:jo C h.marks≠0):ig C e h=jo C h.marks:=by simp [ig,cZ,h1,h2,h3]
theorem adI {C:gG} {e:Int} {h:gW} (h1:fZ e h.props=0) (h2:wL C h.props=0) (h3:jo C h.marks=0) (h4:jP (vQ C h.marks.cu) h.marks.cu.length≠0):ig C e h=jP (vQ C h.marks.cu) h.marks.cu.length:=by simp [ig,cZ,h1,h2,h3,h4]
theorem adJ {C:gG} {e:Int} {h:gW} (h1:fZ e h.props=0) (h2:wL C h.props=0) (h3:jo C h.marks=0) (h4:jP (vQ C h.marks.cu) h.marks.cu.length=0) (h5:64 < (h.marks.layers.length:Int)):ig C e h=9:=by simp [ig,cZ,h1,h2,h3,h4,bS,h5]
theorem adK {C:gG} {e:Int} {h:gW} (h1:fZ e h.props=0) (h2:wL C h.props=0) (h3:jo C h.marks=0) (h4:jP (vQ C h.marks.cu) h.marks.cu.length=0) (h5:¬ 64 < (h.marks.layers.length:Int)):ig C e h=jP (Cy C e h.marks.layers) h.marks.layers.length:=by simp [ig,cZ,h1,h2,h3,h4,bS,h5];exact Eq.symm
theorem Vp {C:gG} {l:List gY} {k:Nat} (h:k < l.length):cZ ((l.map fun p=>mU C.st C.wI p.key p.value).drop k)=if mU C.st C.wI l[k].key l[k].value≠0 then mU C.st C.wI l[k].key l[k].value else cZ ((l.map fun p=>mU C.st C.wI p.key p.value).drop (k+1)):=by
 rw [Ik (by simpa using h)];simp
theorem adL (G:GH) (w0:World) (hG:Hold G w0) (st:List bG) (li:List fH) (rv:List eT) (b ms ml mr mb mu:Nat) (n:Int) (hck:rU G st li rv ms ml mr mu) (hb:G b=some (fB b ms ml mr mb mu n).2)
  (e:Int) (h:gW) (p d l:aj) (hh:ji G h p d l) (hz:oG h≤4294967296) :
  Calls prog 58 #[(aH b 0),vi e,xJ h p d l] w0 (bA w0 G fun u G'=>u=vi (ig (aQ st li rv) e h)):=by
 obtain ⟨pA,pc,rfl,-,-,-⟩:=hh.props.slice;obtain ⟨dA,dc,rfl,-,-,-⟩:=hh.cu.slice;obtain ⟨lA,lc,rfl,-,-,-⟩:=hh.layers.slice;have hml:maxLen=9223372036854775807:=rfl;have hzz:=Gp h;have hz1:=qO (h.props.map gY.dat);have hz2:=qO (h.marks.cu.map jd.dat);have hz3:=qO (h.marks.layers.map iO.dat)
 simp only [bX] at hh hz1 hz2 hz3 ⊢
 generalize oG h=zz at hz hzz
 refine eN [(0,_),(1,_),(2,_)] func58 rfl ntmps58 rfl rfl hG ?_;intro a H;refine dw (fun _ K1=>?_);refine fu (cs:=[_]) H wn rfl rfl rfl ?_;clear H;intro b3 a w hb3 H;refine fu (cs:=[_]) H wn rfl rfl rfl ?_;clear H;intro b4 a w hb4 H;refine fu (cs:=[_,_,_,_,_]) H wn rfl rfl rfl ?_;clear H;intro b5 a w hb5 H;refine kH H (ak K1 rfl (SQ fun _ K2=>SQ fun _ K3=>?_));clear H K1;intro a H;obtain ⟨XH,IQ,xH,H⟩:=H.dJ;obtain ⟨XG,D9,vZ,H⟩:=H.dJ;obtain ⟨Ga,AJ,zw,H⟩:=H.dJ;replace xH:=AJ _ _ (D9 _ _ xH);replace vZ:=AJ _ _ vZ;have hma:∀ b o,G b=some o→Ga b=some o:=fun b o h=>AJ _ _ (D9 _ _ (IQ _ _ h));clear AJ D9 IQ;replace hck:=hck.mono hma;replace hb:=hma _ _ hb;replace hh:=hh.mono hma
 have g3:aJ Ga b3 0=some (aH b 0):=by unfold aJ;rw [zw];rfl
 have g4:aJ Ga b4 0=some (vi e):=by unfold aJ;rw [vZ];rfl
 have g50:aJ Ga b5 0=some (.slice pA h.props.length pc):=by unfold aJ;rw [xH];rfl
 have g51:∀ (j:Nat) (u:aj),[vi h.marks.ins,vi h.marks.move,.slice dA h.marks.cu.length dc,.slice lA h.marks.layers.length lc][j]?=some u→aJ Ga b5 (1+j)=some u:=by
  intro j u hj
  unfold aJ;rw [xH]
  match j,hj with
  | 0,hj=>exact hj
  | 1,hj=>exact hj
  | 2,hj=>exact hj
  | 3,hj=>exact hj
  | n+4,hj=>simp at hj
 have hc2:aJ Ga b 2=some (.map (some mr)):=by unfold aJ;rw [hb];rfl
 refine kP H (SC (Rg aF rfl (by assumption) ?_));clear H;intro a H;refine kH H (Rf BO rfl (Rg zR rfl (by assumption) ?_));clear H;intro a H;refine s_call RI H wn rfl (Qq (Vk _ _ H.ro e h.props _ hh.props)) rfl ?_;clear H;rintro v17 _ a w ⟨⟨_,rfl⟩,rfl⟩ - H;refine kH H (aS K3 rfl (SR fun _ K4=>Rm rfl (Rc rfl (Kz K4 (Cd rfl ?_ ?_))))) <;> clear H K3 K4
 ·intro h19 a H
  try have uE:=dT h19
  refine aZ (fun _ K5=>?_);have hE:=adG (C:=aQ st li rv) (e:=e) (h:=h) uE;exact kP H (SC (Rm rfl (aS K5 rfl (LR results58 rfl fun H=>H.rt (by rw [hE])))))
 intro h19 a H
 try have uE:=dF h19
 have e1:fZ e h.props=0:=by simpa using uE
 refine kP H (Kc K2 (SQ fun _ K6=>SR fun _ K7=>Rf BO rfl (Rg zR rfl (by assumption) ?_)));clear H K2;intro a H;refine kH H (Rl nT rfl (Rm rfl (Kz K7 (SB ?_))));clear H K7;intro a H;skip;refine fJ (ι:=Nat) (Tc:=[(3,_),(4,_),(5,_),(22,_),(23,_)]) (Lc:=[]) (fun gh=>[(24,vi gh)]) (fun gh=>[]) (fun gh=>Ga) (fun gh=>gh≤h.props.length∧cZ ((h.props.map fun p=>mU st (li.map fH.id) p.key p.value).drop gh)=wL (aQ st li rv) h.props) (fun gh=>h.props.length - gh) (0) (by exact (H).sub ⟨rfl,rfl,rfl,rfl,rfl,rfl,aC⟩) ?_ ?_
 ·exact ⟨jf _,rfl⟩
 clear H;intro gh a w hI H;obtain ⟨k,hgh⟩:∃ x,x=gh:=⟨_,rfl⟩;subst hgh;obtain ⟨hk,heq⟩:=hI;dsimp only [lca,bC] at H;refine kP H (SR fun _ K8=>Rc rfl (Kz K8 (SQ fun _ K9=>Cd rfl ?_ ?_))) <;> clear H K8
 ·intro kW a H
  try have p25:=dT kW
  have hk2:k < h.props.length:=by omega
  obtain ⟨xb,xo,rfl,hrow⟩:=Jk hh.props hk2;refine kP H (Kc K9 (SQ fun _ aT=>SB (SR fun _ bD=>Ri nT mD rfl rfl ?_)));clear H K9;intro a H;refine bE mD (cs:=[_,_]) H wn rfl rfl (fun j v hj=>H.hp.aJ (hrow j v hj)) rfl ?_;clear H;intro a H;refine fq mD H wn rfl ?_;clear H;intro b9 a w xI H;refine bF mD 0 (vs:=[_,_]) _ H wn rfl rfl rfl rfl rfl rfl rfl rfl ?_;clear H;intro w H;dsimp only [List.set,setRow] at H;refine bD _ _ ?_;clear bD;refine kP H (SR fun _ bK=>Rg Es rfl (by assumption) ?_);clear H;intro a H;refine kH H (aU tT aF 0 rfl rfl (aU R3 aF 0 rfl rfl ?_));clear H;intro a H;refine s_call LA H wn rfl (KJ _ _ H.ro st li rv b ms ml mr mb mu n h.props[k].key h.props[k].value hck hb) rfl ?_;clear H;rintro v33 _ a w ⟨rfl,rfl⟩ - H;refine kH H (ak bK rfl (SR fun _ bT=>Rm rfl (Rc rfl (Kz bT (Cd rfl ?_ ?_))))) <;> clear H bK bT
  ·intro lY a H
   try have p35:=dT lY
   refine aZ (fun _ bU=>?_)
   have hr:wL (aQ st li rv) h.props=mU st (li.map fH.id) h.props[k].key h.props[k].value:=by rw [← heq];exact (Vp (C:=aQ st li rv) hk2).trans (au p35)
   have hE:=(adH (C:=aQ st li rv) (e:=e) (h:=h) e1 (by rw [hr];exact p35)).trans hr;exact kP H (SC (Rm rfl (aS bU rfl (LR results58 rfl fun H=>H.rt (by rw [hE])))))
  intro lY a H
  try have p35:=dF lY
  refine kP H (Kc aT (SC (Rd rfl (Rm rfl ?_))));clear H aT;intro a H;refine aI ?_;refine dN ((k+1)) (by exact (H.dX (Pl:=[_]) (dz:=[]) [] (by decide) rfl).sub ⟨rfl,rfl,rfl,rfl,rfl,rfl,aC⟩) ?_ ?_
  ·exact ⟨by omega,by rw [Vp (C:=aQ st li rv) hk2,ah (by simpa using p35)] at heq;exact heq⟩
  first|omega|(dsimp only;omega)
 intro kW a H
 try have p25:=dF kW
 refine eX ?_;refine K6 _ _ ?_;clear K6;refine aZ (fun _ dM=>?_)
 have e2:wL (aQ st li rv) h.props=0:=by rw [← heq,iK (by rw [bX];omega)];rfl
 refine kP H (SC (Rf sI rfl ?_));clear H;intro a H;refine bE Ev (cs:=[vi h.marks.ins,vi h.marks.move,.slice dA h.marks.cu.length dc,.slice lA h.marks.layers.length lc]) H wn rfl rfl (fun j v hj=>H.hp.aJ (g51 j v hj)) rfl ?_;clear H;intro a H;refine fq Ev H wn rfl ?_;clear H;intro b11 a w Iw H;refine bF Ev 0 (vs:=[_,_,_,_]) _ H wn rfl rfl rfl rfl rfl rfl rfl rfl ?_;clear H;intro w H;dsimp only [List.set,setRow] at H;obtain ⟨Gb,hmb,DY,H⟩:=H.dJ;replace hck:=hck.mono hmb;replace hb:=hmb _ _ hb;replace hh:=hh.mono hmb;replace g3:=aL hmb g3;replace g4:=aL hmb g4;replace hc2:=aL hmb hc2
 have q0:aJ Gb b11 0=some (vi h.marks.ins):=by unfold aJ;rw [DY];rfl
 have q1:aJ Gb b11 1=some (vi h.marks.move):=by unfold aJ;rw [DY];rfl
 have q2:aJ Gb b11 2=some (.slice dA h.marks.cu.length dc):=by unfold aJ;rw [DY];rfl
 have q3:aJ Gb b11 3=some (.slice lA h.marks.layers.length lc):=by unfold aJ;rw [DY];rfl
 have hcb:=afe hck hb g3 g4 q3 hh.layers;refine aI ?_;refine dM _ _ ?_;clear dM;refine sD (ι:=GH) (Tc:=[(3,_),(4,_),(11,_)]) (Lc:=[]) (fun gh=>[]) (fun gh=>[]) (fun gh=>gh) (fun gh=>jo (aQ st li rv) h.marks=0∧(∀ b o,Gb b=some o→gh b=some o)) (by exact (H).sub ⟨rfl,rfl,rfl,aC⟩) ?_ ?_
 ·skip;refine xq ?_;refine aZ (fun _ dO=>?_)
  by_cases c0:h.marks.ins≠0
  ·skip
   by_cases c1:h.marks.ins∉rv.map eT.id
   ·skip;refine dI hmx [[],[0],[0,1],[0,1,2],(ra 0 4),(ra 0 5),(ra 0 6),(ra 0 7),(ra 0 4),[0,1,2,3,8],(ra 0 10),(ra 0 11),(ra 0 12),(ra 0 13)] [13] (by kernel_rfl) [_,_,_,_,_,(aH b 0),_,_,_,_,.bool (decide (h.marks.ins∈rv.map eT.id)),.bool (decide (h.marks.ins∉rv.map eT.id)),_] H (aB (Z0 rfl (Rf uV rfl)) (X1 0 41 rfl fun hG=>Rg aF rfl (aL hG q0)) (Z1 1 42 rfl (Rc rfl)) (Z1 2 43 rfl (Rm rfl)) (aB (X1 3 44 rfl fun hG=>YR Es (aD c0) rfl (aL hG g3)) ?_ (Z2 5 46 3 44 rfl (YF Fg (aD c0) rfl)) (X2 6 47 3 44 rfl fun hG=>YR yj (aD c0) rfl (aL hG hc2)) (aB (Z1 3 44 rfl (YF uV (aD c0) rfl)) (X2 8 49 3 44 rfl fun hG=>YR aF (aD c0) rfl (aL hG q0)) ?_ ?_ (aX (Z2 3 44 11 52 rfl (Pt (aD c0) rfl)) (aX (bH rfl) cO))))) ?_
    ·refine bL 4 45 3 44 rfl rfl fun _ a w G1 hG HT H fin=>?_;refine qL H (wg H rfl rfl (aD c0)) rfl rfl ?_;clear H;intro a H;exact fin H iJ rfl
    ·refine lU 7 48 9 50 3 44 rfl rfl fun _ a w G1 hG HT H fin=>?_;refine wN (zv:=.bool false) yx mG (by kernel_rfl) H (wg H rfl rfl (aD c0)) rfl rfl (H.ro _ _ (hG _ _ hck.rev)) rfl ?_;clear H;intro a H;rw [CF] at H;exact fin H iJ rfl
    ·refine bL 10 51 3 44 rfl rfl fun _ a w G1 hG HT H fin=>?_;refine kH H (YN (aD c0) rfl ?_);clear H;intro a H;exact fin H iJ (by show _=_;first|rfl|exact aG decide_not.symm)
    clear H;intro a w G oN H hv;have H:=H.aV (hv 12 53 rfl rfl) rfl;clear hv;refine kH H (Ra rfl ?_);clear H;intro a H;refine aI ⟨rfl,?_⟩;refine dO _ _ ?_;clear dO;refine vM H rfl (aD c1) ?_;refine aZ (fun _ dD=>?_);have e3:jo (aQ st li rv) h.marks=22:=au ⟨c0,c1⟩;have hE:=(zx (C:=aQ st li rv) (e:=e) (h:=h) e1 e2 (by rw [e3];decide)).trans e3;exact kP H (SC (aS dD rfl (LR results58 rfl fun H=>H.rt (by rw [hE]))))
   skip;refine dI hmx [[],[0],[0,1],[0,1,2],(ra 0 4),(ra 0 5),(ra 0 6),(ra 0 7),(ra 0 4),[0,1,2,3,8],(ra 0 10),(ra 0 11),(ra 0 12),(ra 0 13)] [13] (by kernel_rfl) [_,_,_,_,_,(aH b 0),_,_,_,_,.bool (decide (h.marks.ins∈rv.map eT.id)),.bool (decide (h.marks.ins∉rv.map eT.id)),_] H (aB (Z0 rfl (Rf uV rfl)) (X1 0 41 rfl fun hG=>Rg aF rfl (aL hG q0)) (Z1 1 42 rfl (Rc rfl)) (Z1 2 43 rfl (Rm rfl)) (aB (X1 3 44 rfl fun hG=>YR Es (aD c0) rfl (aL hG g3)) ?_ (Z2 5 46 3 44 rfl (YF Fg (aD c0) rfl)) (X2 6 47 3 44 rfl fun hG=>YR yj (aD c0) rfl (aL hG hc2)) (aB (Z1 3 44 rfl (YF uV (aD c0) rfl)) (X2 8 49 3 44 rfl fun hG=>YR aF (aD c0) rfl (aL hG q0)) ?_ ?_ (aX (Z2 3 44 11 52 rfl (Pt (aD c0) rfl)) (aX (bH rfl) cO))))) ?_
   ·refine bL 4 45 3 44 rfl rfl fun _ a w G1 hG HT H fin=>?_;refine qL H (wg H rfl rfl (aD c0)) rfl rfl ?_;clear H;intro a H;exact fin H iJ rfl
   ·refine lU 7 48 9 50 3 44 rfl rfl fun _ a w G1 hG HT H fin=>?_;refine wN (zv:=.bool false) yx mG (by kernel_rfl) H (wg H rfl rfl (aD c0)) rfl rfl (H.ro _ _ (hG _ _ hck.rev)) rfl ?_;clear H;intro a H;rw [CF] at H;exact fin H iJ rfl
   ·refine bL 10 51 3 44 rfl rfl fun _ a w G1 hG HT H fin=>?_;refine kH H (YN (aD c0) rfl ?_);clear H;intro a H;exact fin H iJ (by show _=_;first|rfl|exact aG decide_not.symm)
   clear H;intro a w G oN H hv;have H:=H.aV (hv 12 53 rfl rfl) rfl;clear hv;refine kH H (Ra rfl ?_);clear H;intro a H;refine aI ⟨rfl,?_⟩;refine dO _ _ ?_;clear dO;refine lW H rfl (aM c1) ?_;refine aZ (fun _ eG=>?_)
   have hno:¬ (h.marks.ins≠0∧h.marks.ins∉(aQ st li rv).En):=by first|exact fun h=>c1 h.2|exact fun h=>c0 h.1
   replace q0:=aL oN q0;replace q1:=aL oN q1;replace q2:=aL oN q2;refine kP H (SC (Rf Aj rfl (Rg aF rfl (by assumption) ?_)));clear H;intro a H;refine s_call tQ H wn rfl (uw _ _ H.ro h.marks.move 0 1073741824) rfl ?_;clear H;rintro v57 _ a w ⟨rfl,rfl⟩ - H;refine kH H (Rn rfl (Rm rfl (Sp 59 rfl ?_ ?_))) <;> clear H
   ·intro gU a H
    try have p59:=dT gU
    refine kH H (aP gU rfl (aP gU rfl (Ku rfl (Ku rfl (Ku rfl (Ks gU rfl (Pt gU rfl (aS eG rfl (Ct rfl rfl (SQ fun _ gM=>?_))))))))));clear H eG;intro a H
    have e3:jo (aQ st li rv) h.marks=21:=by unfold jo;rw [ah hno,au (by first|(simp_all;done)|(simp_all;omega))]
    have hE:=(zx (C:=aQ st li rv) (e:=e) (h:=h) e1 e2 (by rw [e3];decide)).trans e3;exact kP H (SC (aS gM rfl (LR results58 rfl fun H=>H.rt (by rw [hE]))))
   intro gU a H
   try have p59:=dF gU
   refine kH H (YF Aj gU rfl (YR aF gU rfl (by assumption) ?_));clear H;intro a H;refine kH H (YC gU rfl (YM gU rfl (Sp 63 rfl ?_ ?_))) <;> clear H
   ·intro h63 a H
    try have p63:=dT h63
    refine kH H (YF uV h63 rfl (YR aF h63 rfl (by assumption) ?_));clear H;intro a H;refine kH H (YC h63 rfl (PT gU h63 rfl (Pf gU rfl (aS eG rfl (Cd rfl ?_ ?_))))) <;> clear H eG
    ·intro gP a H
     try have p54:=dT gP
     refine aZ (fun _ fG=>?_)
     have e3:jo (aQ st li rv) h.marks=21:=by unfold jo;rw [ah hno,au (by first|(simp_all;done)|(simp_all;omega))]
     have hE:=(zx (C:=aQ st li rv) (e:=e) (h:=h) e1 e2 (by rw [e3];decide)).trans e3;exact kP H (SC (aS fG rfl (LR results58 rfl fun H=>H.rt (by rw [hE]))))
    intro gP a H
    try have p54:=dF gP
    refine aZ (fun _ gN=>?_)
    have hn2:¬ (¬ (0≤h.marks.move∧h.marks.move≤1073741824)∨(h.marks.move≠0∧h.marks.ins=0)):=by first|(simp_all;done)|(simp_all;omega)
    refine kP H (SC (Rf uW rfl (Rg vE rfl (by assumption) ?_)));clear H;intro a H;refine kH H (Rl oZ rfl (Rc rfl (aS gN rfl (Cd rfl ?_ ?_)))) <;> clear H gN
    ·intro iM a H
     refine aZ (fun _ iY=>?_)
     have e3:jo (aQ st li rv) h.marks=9:=by unfold jo;rw [ah hno,ah hn2,au (by simpa using iM)]
     have hE:=(zx (C:=aQ st li rv) (e:=e) (h:=h) e1 e2 (by rw [e3];decide)).trans e3;exact kP H (SC (aS iY rfl (LR results58 rfl fun H=>H.rt (by rw [hE]))))
    intro iM a H
    have e3:jo (aQ st li rv) h.marks=0:=by unfold jo;rw [ah hno,ah hn2,ah (by simpa using iM)]
    refine gI ?_;refine ⟨_,by exact (H).sub ⟨rfl,rfl,rfl,aC⟩,?_⟩;exact ⟨e3,oN⟩
   intro h63 a H
   try have p63:=dF h63
   refine kH H (aY h63 rfl (PF gU h63 rfl (Pf gU rfl (aS eG rfl (Cf rfl rfl (SQ fun _ jX=>?_))))));clear H eG;intro a H
   have hn2:¬ (¬ (0≤h.marks.move∧h.marks.move≤1073741824)∨(h.marks.move≠0∧h.marks.ins=0)):=by first|(simp_all;done)|(simp_all;omega)
   refine kP H (SC (Rf uW rfl (Rg vE rfl (by assumption) ?_)));clear H;intro a H;refine kH H (Rl oZ rfl (Rc rfl (aS jX rfl (Cd rfl ?_ ?_)))) <;> clear H jX
   ·intro iM a H
    refine aZ (fun _ jT=>?_)
    have e3:jo (aQ st li rv) h.marks=9:=by unfold jo;rw [ah hno,ah hn2,au (by simpa using iM)]
    have hE:=(zx (C:=aQ st li rv) (e:=e) (h:=h) e1 e2 (by rw [e3];decide)).trans e3;exact kP H (SC (aS jT rfl (LR results58 rfl fun H=>H.rt (by rw [hE]))))
   intro iM a H
   have e3:jo (aQ st li rv) h.marks=0:=by unfold jo;rw [ah hno,ah hn2,ah (by simpa using iM)]
   refine gI ?_;refine ⟨_,by exact (H).sub ⟨rfl,rfl,rfl,aC⟩,?_⟩;exact ⟨e3,oN⟩
  skip;refine dI hmx [[],[0],[0,1],[0,1,2],(ra 0 4),(ra 0 5),(ra 0 6),(ra 0 7),(ra 0 4),[0,1,2,3,8],(ra 0 10),(ra 0 11),(ra 0 12),(ra 0 13)] [13] (by kernel_rfl) [_,_,_,_,undef,undef,undef,undef,undef,undef,undef,undef,_] H (aB (Z0 rfl (Rf uV rfl)) (X1 0 41 rfl fun hG=>Rg aF rfl (aL hG q0)) (Z1 1 42 rfl (Rc rfl)) (Z1 2 43 rfl (Rm rfl)) (aB (aN (j:=3) (by kernel_rfl) (fun _ _ _ _ _ h=>h) rfl rfl rfl rfl rfl (fun _ _ h=>aO h (aG (aM c0))) rfl (fun _=>rfl)) (aN (j:=3) (by kernel_rfl) (fun _ _ _ _ _ h=>h) rfl rfl rfl rfl rfl (fun _ _ h=>aO h (aG (aM c0))) rfl (fun _=>rfl)) (aN (j:=3) (by kernel_rfl) (fun _ _ _ _ _ h=>h) rfl rfl rfl rfl rfl (fun _ _ h=>aO h (aG (aM c0))) rfl (fun _=>rfl)) (aN (j:=3) (by kernel_rfl) (fun _ _ _ _ _ h=>h) rfl rfl rfl rfl rfl (fun _ _ h=>aO h (aG (aM c0))) rfl (fun _=>rfl)) (aB (aN (j:=3) (by kernel_rfl) (fun _ _ _ _ _ h=>h) rfl rfl rfl rfl rfl (fun _ _ h=>aO h (aG (aM c0))) rfl (fun _=>rfl)) (aN (j:=3) (by kernel_rfl) (fun _ _ _ _ _ h=>h) rfl rfl rfl rfl rfl (fun _ _ h=>aO h (aG (aM c0))) rfl (fun _=>rfl)) (aN (j:=3) (by kernel_rfl) (fun _ _ _ _ _ h=>h) rfl rfl rfl rfl rfl (fun _ _ h=>aO h (aG (aM c0))) rfl (fun _=>rfl)) (aN (j:=3) (by kernel_rfl) (fun _ _ _ _ _ h=>h) rfl rfl rfl rfl rfl (fun _ _ h=>aO h (aG (aM c0))) rfl (fun _=>rfl)) (aX (Z2 3 44 11 52 rfl (Pf (aM c0) rfl)) (aX (bH rfl) cO))))) ?_
  clear H;intro a w G oN H hv;have H:=H.aV (hv 12 53 rfl rfl) rfl;clear hv;refine kH H (Ra rfl ?_);clear H;intro a H;refine aI ⟨rfl,?_⟩;refine dO _ _ ?_;clear dO;refine lW H rfl rfl ?_;refine aZ (fun _ jw=>?_)
  have hno:¬ (h.marks.ins≠0∧h.marks.ins∉(aQ st li rv).En):=by first|exact fun h=>c1 h.2|exact fun h=>c0 h.1
  replace q0:=aL oN q0;replace q1:=aL oN q1;replace q2:=aL oN q2;refine kP H (SC (Rf Aj rfl (Rg aF rfl (by assumption) ?_)));clear H;intro a H;refine s_call tQ H wn rfl (uw _ _ H.ro h.marks.move 0 1073741824) rfl ?_;clear H;rintro v57 _ a w ⟨rfl,rfl⟩ - H;refine kH H (Rn rfl (Rm rfl (Sp 59 rfl ?_ ?_))) <;> clear H
  ·intro gU a H
   try have p59:=dT gU
   refine kH H (aP gU rfl (aP gU rfl (Ku rfl (Ku rfl (Ku rfl (Ks gU rfl (Pt gU rfl (aS jw rfl (Ct rfl rfl (SQ fun _ kC=>?_))))))))));clear H jw;intro a H
   have e3:jo (aQ st li rv) h.marks=21:=by unfold jo;rw [ah hno,au (by first|(simp_all;done)|(simp_all;omega))]
   have hE:=(zx (C:=aQ st li rv) (e:=e) (h:=h) e1 e2 (by rw [e3];decide)).trans e3;exact kP H (SC (aS kC rfl (LR results58 rfl fun H=>H.rt (by rw [hE]))))
  intro gU a H
  try have p59:=dF gU
  refine kH H (YF Aj gU rfl (YR aF gU rfl (by assumption) ?_));clear H;intro a H;refine kH H (YC gU rfl (YM gU rfl (Sp 63 rfl ?_ ?_))) <;> clear H
  ·intro h63 a H
   try have p63:=dT h63
   refine kH H (YF uV h63 rfl (YR aF h63 rfl (by assumption) ?_));clear H;intro a H;refine kH H (YC h63 rfl (PT gU h63 rfl (Pf gU rfl (aS jw rfl (Cd rfl ?_ ?_))))) <;> clear H jw
   ·intro gP a H
    try have p54:=dT gP
    refine aZ (fun _ kD=>?_)
    have e3:jo (aQ st li rv) h.marks=21:=by unfold jo;rw [ah hno,au (by first|(simp_all;done)|(simp_all;omega))]
    have hE:=(zx (C:=aQ st li rv) (e:=e) (h:=h) e1 e2 (by rw [e3];decide)).trans e3;exact kP H (SC (aS kD rfl (LR results58 rfl fun H=>H.rt (by rw [hE]))))
   intro gP a H
   try have p54:=dF gP
   refine aZ (fun _ iZ=>?_)
   have hn2:¬ (¬ (0≤h.marks.move∧h.marks.move≤1073741824)∨(h.marks.move≠0∧h.marks.ins=0)):=by first|(simp_all;done)|(simp_all;omega)
   refine kP H (SC (Rf uW rfl (Rg vE rfl (by assumption) ?_)));clear H;intro a H;refine kH H (Rl oZ rfl (Rc rfl (aS iZ rfl (Cd rfl ?_ ?_)))) <;> clear H iZ
   ·intro iM a H
    refine aZ (fun _ nD=>?_)
    have e3:jo (aQ st li rv) h.marks=9:=by unfold jo;rw [ah hno,ah hn2,au (by simpa using iM)]
    have hE:=(zx (C:=aQ st li rv) (e:=e) (h:=h) e1 e2 (by rw [e3];decide)).trans e3;exact kP H (SC (aS nD rfl (LR results58 rfl fun H=>H.rt (by rw [hE]))))
   intro iM a H
   have e3:jo (aQ st li rv) h.marks=0:=by unfold jo;rw [ah hno,ah hn2,ah (by simpa using iM)]
   refine gI ?_;refine ⟨_,by exact (H).sub ⟨rfl,rfl,rfl,aC⟩,?_⟩;exact ⟨e3,oN⟩
  intro h63 a H
  try have p63:=dF h63
  refine kH H (aY h63 rfl (PF gU h63 rfl (Pf gU rfl (aS jw rfl (Cf rfl rfl (SQ fun _ nV=>?_))))));clear H jw;intro a H
  have hn2:¬ (¬ (0≤h.marks.move∧h.marks.move≤1073741824)∨(h.marks.move≠0∧h.marks.ins=0)):=by first|(simp_all;done)|(simp_all;omega)
  refine kP H (SC (Rf uW rfl (Rg vE rfl (by assumption) ?_)));clear H;intro a H;refine kH H (Rl oZ rfl (Rc rfl (aS nV rfl (Cd rfl ?_ ?_)))) <;> clear H nV
  ·intro iM a H
   refine aZ (fun _ oI=>?_)
   have e3:jo (aQ st li rv) h.marks=9:=by unfold jo;rw [ah hno,ah hn2,au (by simpa using iM)]
   have hE:=(zx (C:=aQ st li rv) (e:=e) (h:=h) e1 e2 (by rw [e3];decide)).trans e3;exact kP H (SC (aS oI rfl (LR results58 rfl fun H=>H.rt (by rw [hE]))))
  intro iM a H
  have e3:jo (aQ st li rv) h.marks=0:=by unfold jo;rw [ah hno,ah hn2,ah (by simpa using iM)]
  refine gI ?_;refine ⟨_,by exact (H).sub ⟨rfl,rfl,rfl,aC⟩,?_⟩;exact ⟨e3,oN⟩
 clear H;intro gh a w hI H;obtain ⟨g,hgh⟩:∃ x,x=gh:=⟨_,rfl⟩;subst hgh;obtain ⟨e3,um⟩:=hI;replace hck:=hck.mono um;replace hb:=um _ _ hb;replace hh:=hh.mono um;replace g3:=aL um g3;replace q2:=aL um q2;replace q3:=aL um q3;replace hc2:=aL um hc2;replace hcb:=hcb.mono um;dsimp only [lca,bC] at H;refine kP H (SQ fun _ pE=>SR fun _ oJ=>Rf uW rfl (Rg vE rfl (by assumption) ?_));clear H;intro a H;refine kH H (Rl oZ rfl (Rm rfl (Kz oJ (SB ?_))));clear H oJ;intro a H;skip;refine fJ (ι:=Nat × GH) (Tc:=[(3,_),(4,_),(11,_),(75,_),(76,_)]) (Lc:=[]) (fun gh=>[(77,vi gh.1)]) (fun gh=>[]) (fun gh=>gh.2) (fun gh=>gh.1≤h.marks.cu.length∧cZ (((List.range h.marks.cu.length).map (vQ (aQ st li rv) h.marks.cu)).drop gh.1)=jP (vQ (aQ st li rv) h.marks.cu) h.marks.cu.length∧(∀ b o,g b=some o→gh.2 b=some o)) (fun gh=>h.marks.cu.length - gh.1) ((0,g)) (by exact (H).sub ⟨rfl,rfl,rfl,rfl,rfl,rfl,aC⟩) ?_ ?_
 ·exact ⟨jf _,rfl,fun _ _ h=>h⟩
 clear H;intro gh a w hI H;obtain ⟨k,g2⟩:=gh;dsimp only at hI H;obtain ⟨hk,heq,hgm⟩:=hI;dsimp only [lca,bC] at H;refine kP H (SR fun _ qU=>Rc rfl (Kz qU (SQ fun _ tC=>Cd rfl ?_ ?_))) <;> clear H qU
 ·intro lM a H
  try have NS:=dT lM
  have hk2:k < h.marks.cu.length:=by omega
  have hd2:=hh.cu.mono hgm;obtain ⟨xb,xo,rfl,hrow⟩:=QW hd2 hk2
  have hk1:k - 1 < h.marks.cu.length:=by omega
  obtain ⟨b',o',he',hrow'⟩:=QW hd2 hk1
  injection he' with he'
  injection he' with e1 e2
  subst e1;subst e2
  have hde:vQ (aQ st li rv) h.marks.cu k=vR (aQ st li rv) k h.marks.cu[k] h.marks.cu[k - 1].rev:=by unfold vQ;rw [gZ hk2,gZ hk1];rfl
  have hX:∀ v,vR (aQ st li rv) k h.marks.cu[k] h.marks.cu[k - 1].rev=v→v≠0→ig (aQ st li rv) e h=v:=fun v h1 h2=>by
   have h4:jP (vQ (aQ st li rv) h.marks.cu) h.marks.cu.length=v:=by rw [← heq,BI hk2,hde,h1,au h2]
   exact (adI e1 e2 e3 (by rw [h4];exact h2)).trans h4
  have hp:=hrow' 0 _ rfl;have g3':=aL hgm g3;have hc2':=aL hgm hc2;have q2':=aL hgm q2;refine kP H (Kc tC (SQ fun _ qm=>SB (SR fun _ vH=>Rm rfl (Ri oZ uI rfl rfl ?_))));clear H tC;intro a H;refine bE uI (cs:=h.marks.cu[k].cells) H wn rfl rfl (fun j v hj=>H.hp.aJ (hrow j v hj)) rfl ?_;clear H;intro a H;refine fq uI H wn rfl ?_;clear H;intro b13 a w MO H;refine kH H (Ra rfl ?_);clear H;intro a H;refine bF uI 0 (vs:=[_,_]) _ H wn rfl rfl rfl rfl rfl rfl rfl rfl ?_;clear H;intro w H;dsimp only [List.set,setRow] at H;refine vH _ _ ?_;clear vH;refine xq ?_;refine aZ (fun _ Bw=>?_);refine dI hmx [[],[0],[0,1],[0,1,2],[],[4],(ra 0 6),(ra 0 7),(ra 0 8)] [8] (by kernel_rfl) [_,_,_,_,_,vi h.marks.cu[k].rev,.bool (decide (h.marks.cu[k].rev∈rv.map eT.id)),_] H (aB (X0 rfl fun hG=>Rg Es rfl (aL hG g3')) (Z1 0 83 rfl (Rk rfl)) (Z1 1 84 rfl (Rf Fg rfl)) (X1 2 85 rfl fun hG=>Rg yj rfl (aL hG hc2')) (aB (Z0 rfl (Rf Fh rfl)) (Z1 4 87 rfl (Ro aF 0 rfl)) ?_ (Z1 6 89 rfl (Rn rfl)) (aX (bH rfl) cO))) ?_
  ·refine bL 3 86 5 88 rfl rfl fun _ a w G1 hG HT H fin=>?_;refine wN (zv:=.bool false) yx mG (by kernel_rfl) H wn rfl rfl (H.ro _ _ (hG _ _ (hgm _ _ hck.rev))) rfl ?_;clear H;intro a H;rw [CF] at H;exact fin H iJ rfl
  clear H;intro a w G DT H hv;have H:=H.aV (hv 7 90 rfl rfl) rfl;clear hv;refine kH H (Ra rfl ?_);clear H;intro a H;refine aI ⟨rfl,?_⟩;refine Bw _ _ ?_;clear Bw;refine kZ H rfl ?_ ?_
  ·intro sM
   refine aZ (fun _ Bz=>?_);have hE:=hX 22 (by unfold vR;rw [au (by simpa using sM)]) (by decide);exact kP H (SC (aS Bz rfl (LR results58 rfl fun H=>H.rt (by rw [hE]))))
  intro sM
  try have Vg:=dF sM
  have FI:¬ (h.marks.cu[k].rev∉(aQ st li rv).En):=by simpa using sM
  refine aZ (fun _ nW=>?_);replace hp:=aL DT hp;replace q2':=aL DT q2'
  by_cases c3:0 < (k:Int)
  ·skip
   by_cases c4:h.marks.cu[k].rev≤h.marks.cu[k - 1].rev
   ·skip;refine dI hmx [[],[0],[0,1],[0,1,2],(ra 0 4),[0,1,2],[0,1,2,5],[0,1,2],[0,1,2,7],[0,1,2,5,6,7,8],[0,1,2,5,6,7,8,9],([0,1,2]++ra 5 6),(ra 0 12),(ra 0 13),(ra 0 14)] [14] (by kernel_rfl) [_,_,_,_,vi h.marks.cu[k].rev,_,_,_,vi ((k - 1:Nat):Int),_,_,_,_,_] H (aB (Z0 rfl (Rm rfl)) (Z1 0 92 rfl (Rc rfl)) (Z1 1 93 rfl (Rm rfl)) (Z1 2 94 rfl (YF Fh (aD c3) rfl)) (aB (Z2 3 95 2 94 rfl (YO aF 0 (aD c3) rfl)) (Z1 2 94 rfl (YF uW (aD c3) rfl)) (X2 5 97 2 94 rfl fun hG=>YR vE (aD c3) rfl (aL hG q2')) (Z1 2 94 rfl (YM (aD c3) rfl)) (aB ?_ (Z3 6 98 8 100 2 94 rfl (YI oZ uI (aD c3) rfl rfl)) (Z2 9 101 2 94 rfl (YF Fh (aD c3) rfl)) (X2 10 102 2 94 rfl fun hG=>YR aF (aD c3) rfl (aL hG hp)) (aX (Z3 4 96 11 103 2 94 rfl (YC (aD c3) rfl)) (aX (Z2 2 94 12 104 rfl (Pt (aD c3) rfl)) (aX (bH rfl) cO)))))) ?_
    ·refine bL 7 99 2 94 rfl rfl fun _ a w G1 hG HT H fin=>?_;refine lT _ H (wg H rfl rfl (aD c3)) rfl rfl rfl (by omega) (by omega) rfl ?_;clear H;intro a H;exact fin H iJ (by show _=_;first|rfl|exact aA vi (by omega))
    clear H;intro a w G Iq H hv;have H:=H.aV (hv 13 105 rfl rfl) rfl;clear hv;refine kH H (Ra rfl ?_);clear H;intro a H;refine aI ⟨rfl,?_⟩;refine nW _ _ ?_;clear nW;refine vM H rfl (aD c4) ?_;refine aZ (fun _ Dh=>?_);have hz:0 < k∧h.marks.cu[k].rev≤h.marks.cu[k - 1].rev:=⟨by omega,c4⟩;have hE:=hX 6 (by unfold vR;rw [ah FI,au hz]) (by decide);exact kP H (SC (aS Dh rfl (LR results58 rfl fun H=>H.rt (by rw [hE]))))
   skip;refine dI hmx [[],[0],[0,1],[0,1,2],(ra 0 4),[0,1,2],[0,1,2,5],[0,1,2],[0,1,2,7],[0,1,2,5,6,7,8],[0,1,2,5,6,7,8,9],([0,1,2]++ra 5 6),(ra 0 12),(ra 0 13),(ra 0 14)] [14] (by kernel_rfl) [_,_,_,_,vi h.marks.cu[k].rev,_,_,_,vi ((k - 1:Nat):Int),_,_,_,_,_] H (aB (Z0 rfl (Rm rfl)) (Z1 0 92 rfl (Rc rfl)) (Z1 1 93 rfl (Rm rfl)) (Z1 2 94 rfl (YF Fh (aD c3) rfl)) (aB (Z2 3 95 2 94 rfl (YO aF 0 (aD c3) rfl)) (Z1 2 94 rfl (YF uW (aD c3) rfl)) (X2 5 97 2 94 rfl fun hG=>YR vE (aD c3) rfl (aL hG q2')) (Z1 2 94 rfl (YM (aD c3) rfl)) (aB ?_ (Z3 6 98 8 100 2 94 rfl (YI oZ uI (aD c3) rfl rfl)) (Z2 9 101 2 94 rfl (YF Fh (aD c3) rfl)) (X2 10 102 2 94 rfl fun hG=>YR aF (aD c3) rfl (aL hG hp)) (aX (Z3 4 96 11 103 2 94 rfl (YC (aD c3) rfl)) (aX (Z2 2 94 12 104 rfl (Pt (aD c3) rfl)) (aX (bH rfl) cO)))))) ?_
   ·refine bL 7 99 2 94 rfl rfl fun _ a w G1 hG HT H fin=>?_;refine lT _ H (wg H rfl rfl (aD c3)) rfl rfl rfl (by omega) (by omega) rfl ?_;clear H;intro a H;exact fin H iJ (by show _=_;first|rfl|exact aA vi (by omega))
   clear H;intro a w G Iq H hv;have H:=H.aV (hv 13 105 rfl rfl) rfl;clear hv;refine kH H (Ra rfl ?_);clear H;intro a H;refine aI ⟨rfl,?_⟩;refine nW _ _ ?_;clear nW;refine lW H rfl (aM c4) ?_;refine aZ (fun _ EG=>?_)
   have hz:¬ (0 < k∧h.marks.cu[k].rev≤h.marks.cu[k - 1].rev):=by first|exact fun h=>c4 h.2|exact fun h=>c3 (by omega)
   refine kP H (SC (aU R4 aF 0 rfl rfl ?_));clear H;intro a H;refine s_call tQ H wn rfl (uw _ _ H.ro h.marks.cu[k].move 0 1073741824) rfl ?_;clear H;rintro v109 _ a w ⟨rfl,rfl⟩ - H;refine kH H (Rn rfl (aS EG rfl (Cd rfl ?_ ?_))) <;> clear H EG
   ·intro vU a H
    try have NP:=dT vU
    refine aZ (fun _ GR=>?_);have hE:=hX 21 (by unfold vR;rw [ah FI,ah hz,au (by have h0:=vU;simp at h0;omega)]) (by decide);exact kP H (SC (aS GR rfl (LR results58 rfl fun H=>H.rt (by rw [hE]))))
   intro vU a H
   try have NP:=dF vU
   have M0:vR (aQ st li rv) k h.marks.cu[k] h.marks.cu[k - 1].rev=0:=by unfold vR;rw [ah FI,ah hz,ah (by have h0:=vU;simp at h0;omega)]
   have Mq:=fun b o h=>Iq b o (DT b o (hgm b o h));refine kP H (Kc qm (SC (Rd rfl (Rm rfl ?_))));clear H qm;intro a H;refine aI ?_;refine dN ((k+1,G)) (by exact (H.dX (Pl:=[_]) (dz:=[]) [] (by decide) rfl).sub ⟨rfl,rfl,rfl,rfl,rfl,rfl,aC⟩) ?_ ?_
   ·(try dsimp only);exact ⟨by omega,by rw [BI hk2,ah (by rw [hde];simpa using M0)] at heq;exact heq,Mq⟩
   first|omega|(dsimp only;omega)
  skip;refine dI hmx [[],[0],[0,1],[0,1,2],(ra 0 4),[0,1,2],[0,1,2,5],[0,1,2],[0,1,2,7],[0,1,2,5,6,7,8],[0,1,2,5,6,7,8,9],([0,1,2]++ra 5 6),(ra 0 12),(ra 0 13),(ra 0 14)] [14] (by kernel_rfl) [_,_,_,undef,undef,undef,undef,undef,undef,undef,undef,undef,undef,_] H (aB (Z0 rfl (Rm rfl)) (Z1 0 92 rfl (Rc rfl)) (Z1 1 93 rfl (Rm rfl)) (aN (j:=2) (by kernel_rfl) (fun _ _ _ _ _ h=>h) rfl rfl rfl rfl rfl (fun _ _ h=>aO h (aG (aM c3))) rfl (fun _=>rfl)) (aB (aN (j:=2) (by kernel_rfl) (fun _ _ _ _ _ h=>h) rfl rfl rfl rfl rfl (fun _ _ h=>aO h (aG (aM c3))) rfl (fun _=>rfl)) (aN (j:=2) (by kernel_rfl) (fun _ _ _ _ _ h=>h) rfl rfl rfl rfl rfl (fun _ _ h=>aO h (aG (aM c3))) rfl (fun _=>rfl)) (aN (j:=2) (by kernel_rfl) (fun _ _ _ _ _ h=>h) rfl rfl rfl rfl rfl (fun _ _ h=>aO h (aG (aM c3))) rfl (fun _=>rfl)) (aN (j:=2) (by kernel_rfl) (fun _ _ _ _ _ h=>h) rfl rfl rfl rfl rfl (fun _ _ h=>aO h (aG (aM c3))) rfl (fun _=>rfl)) (aB (aN (j:=2) (by kernel_rfl) (fun _ _ _ _ _ h=>h) rfl rfl rfl rfl rfl (fun _ _ h=>aO h (aG (aM c3))) rfl (fun _=>rfl)) (aN (j:=2) (by kernel_rfl) (fun _ _ _ _ _ h=>h) rfl rfl rfl rfl rfl (fun _ _ h=>aO h (aG (aM c3))) rfl (fun _=>rfl)) (aN (j:=2) (by kernel_rfl) (fun _ _ _ _ _ h=>h) rfl rfl rfl rfl rfl (fun _ _ h=>aO h (aG (aM c3))) rfl (fun _=>rfl)) (aN (j:=2) (by kernel_rfl) (fun _ _ _ _ _ h=>h) rfl rfl rfl rfl rfl (fun _ _ h=>aO h (aG (aM c3))) rfl (fun _=>rfl)) (aX (aN (j:=2) (by kernel_rfl) (fun _ _ _ _ _ h=>h) rfl rfl rfl rfl rfl (fun _ _ h=>aO h (aG (aM c3))) rfl (fun _=>rfl)) (aX (Z2 2 94 12 104 rfl (Pf (aM c3) rfl)) (aX (bH rfl) cO)))))) ?_
  clear H;intro a w G Iq H hv;have H:=H.aV (hv 13 105 rfl rfl) rfl;clear hv;refine kH H (Ra rfl ?_);clear H;intro a H;refine aI ⟨rfl,?_⟩;refine nW _ _ ?_;clear nW;refine lW H rfl rfl ?_;refine aZ (fun _ EH=>?_)
  have hz:¬ (0 < k∧h.marks.cu[k].rev≤h.marks.cu[k - 1].rev):=by first|exact fun h=>c4 h.2|exact fun h=>c3 (by omega)
  refine kP H (SC (aU R4 aF 0 rfl rfl ?_));clear H;intro a H;refine s_call tQ H wn rfl (uw _ _ H.ro h.marks.cu[k].move 0 1073741824) rfl ?_;clear H;rintro v109 _ a w ⟨rfl,rfl⟩ - H;refine kH H (Rn rfl (aS EH rfl (Cd rfl ?_ ?_))) <;> clear H EH
  ·intro vU a H
   try have NP:=dT vU
   refine aZ (fun _ GU=>?_);have hE:=hX 21 (by unfold vR;rw [ah FI,ah hz,au (by have h0:=vU;simp at h0;omega)]) (by decide);exact kP H (SC (aS GU rfl (LR results58 rfl fun H=>H.rt (by rw [hE]))))
  intro vU a H
  try have NP:=dF vU
  have M0:vR (aQ st li rv) k h.marks.cu[k] h.marks.cu[k - 1].rev=0:=by unfold vR;rw [ah FI,ah hz,ah (by have h0:=vU;simp at h0;omega)]
  have Mq:=fun b o h=>Iq b o (DT b o (hgm b o h));refine kP H (Kc qm (SC (Rd rfl (Rm rfl ?_))));clear H qm;intro a H;refine aI ?_;refine dN ((k+1,G)) (by exact (H.dX (Pl:=[_]) (dz:=[]) [] (by decide) rfl).sub ⟨rfl,rfl,rfl,rfl,rfl,rfl,aC⟩) ?_ ?_
  ·(try dsimp only);exact ⟨by omega,by rw [BI hk2,ah (by rw [hde];simpa using M0)] at heq;exact heq,Mq⟩
  first|omega|(dsimp only;omega)
 intro lM a H
 try have NS:=dF lM
 refine eX ?_;refine pE _ _ ?_;clear pE;refine aZ (fun _ EI=>?_);refine aZ (fun _ EJ=>?_)
 have e4:jP (vQ (aQ st li rv) h.marks.cu) h.marks.cu.length=0:=by rw [← heq,iK (by simp;omega)];rfl
 replace q3:=aL hgm q3;refine kP H (SC (Rf BN rfl (Rg CY rfl (by assumption) ?_)));clear H;intro a H;refine kH H (Rl sW rfl (Rc rfl (Kn EJ (Cd rfl ?_ ?_)))) <;> clear H EJ
 ·intro LZ a H
  try have NQ:=dT LZ
  refine aZ (fun _ GV=>?_);have hE:=adJ (C:=aQ st li rv) (e:=e) (h:=h) e1 e2 e3 e4 NQ;exact kP H (SC (aS GV rfl (LR results58 rfl fun H=>H.rt (by rw [hE]))))
 intro LZ a H
 try have NQ:=dF LZ
 refine gI ?_;refine EI _ _ ?_;clear EI;refine aZ (fun _ GX=>?_);have hE:=adK (C:=aQ st li rv) (e:=e) (h:=h) e1 e2 e3 e4 NQ;refine kP H (SC (Rf BN rfl (Rg CY rfl (by assumption) ?_)));clear H;intro a H;refine kH H (Rl sW rfl ?_);clear H;intro a H;refine oV H wn rfl rfl ?_;clear H;intro a H;refine s_call DF H wn rfl (ER _ _ H.ro h.marks.layers.length (Cy (aQ st li rv) e h.marks.layers) _ (by omega) (hcb.mono hgm)) rfl ?_;clear H;rintro ajI aiG a w rfl aiN H;exact kH H (aS GX rfl (LR results58 rfl fun H=>H.rt (by rw [hE])))
end
section
open Go.RowKit
theorem DR:bO prog 63 1 1:=⟨by kernel_rfl⟩
def codeOk (x:ay):Bool:=if x.kind=4 then decide (1≤x.code∧x.code≤3) else if x.kind=6 then decide (1≤x.code∧x.code≤2) else if x.kind=8 then decide (1≤x.code∧x.code≤4) else true
def xZ (x:ay):Bool:=decide (x.kind=8∧x.code=1)
def yB (x:ay):Bool:=decide (x.kind=1∨x.kind=5) || xZ x
def xS (x:ay):Bool:=decide (x.kind=6∨x.kind=7∨x.kind=8)
def xu (x:ay):Bool:=decide (x.kind=4∨x.kind=6∨x.kind=8)
def qE (s:ByteArray):Bool:=s.toList == (⟨#[]⟩:ByteArray).toList
def uZ (x:ay):Bool:=!xu x && decide (x.code≠0) || !xS x && decide (x.id≠0) || !yB x && !qE x.text || decide (x.kind≠6) && decide (0 < (x.flow.length:Int)) || decide (x.kind≠7) && decide (0 < (x.rows.length:Int))
def jH (x:ay):Int :=
 if (!decide (1≤x.kind∧x.kind≤8) || !codeOk x)=true then 3 else if uZ x=true then 15 else if nC x.text=false then 12 else if (decide (x.kind=1∨x.kind=5) && qE x.text)=true then 11
 else if (decide (x.kind=5) && decide (1024 < (x.text.size:Int)))=true then 10 else if (xZ x && !og x.text)=true then 13 else 0
theorem acR (G:GH) (w0:World) (hG:Hold G w0) (x:ay) (p d l:aj) (fA rA:Option Addr) (fc rc:Nat) (hs:x.text.size < 4611686018427387904) :
  Calls prog 127 #[.agg #[vi x.kind,vi x.code,vi x.id,.string x.text,p,vi x.head.marks.ins,vi x.head.marks.move,d,l,.slice fA x.flow.length fc,.slice rA x.rows.length rc]] w0 (bA w0 G fun u G'=>u=vi (jH x)∧G=G'):=by
 refine eN [(0,_)] func127 rfl ntmps127 rfl rfl hG ?_;intro a H;refine dw (fun _ K1=>?_);refine fu (cs:=[_,_,_,_,_,_,_,_,_,_,_]) H wn rfl rfl rfl ?_;clear H;intro b1 a w hb1 H;refine kH H (ak K1 rfl ?_);clear H K1;intro a H;refine sD (ι:=Bool) (Tc:=[(1,_)]) (Lc:=[(_,_)]) (fun gh=>[(3,.bool gh)]) (fun gh=>[]) (fun gh=>G) (fun gh=>gh=xZ x) (by exact (H).sub ⟨rfl,aC⟩) ?_ ?_
 ·skip;refine kP H (SC (aU jA aF 0 rfl rfl (Rc rfl (Rm rfl (Sp 11 rfl ?_ ?_))))) <;> clear H
  ·intro h11 a H
   try have nQ:=dT h11
   refine kH H (YF DR h11 rfl (YO aF 0 h11 rfl (YC h11 rfl (Pt h11 rfl (Ra rfl ?_)))));clear H;intro a H;refine aI ?_;refine ⟨_,by exact (H).sub ⟨rfl,rfl,aC⟩,?_⟩
   unfold xZ;first|(simp_all;done)
  intro h11 a H
  try have nQ:=dF h11
  refine kH H (aY h11 rfl (Pf h11 rfl (Ra rfl ?_)));clear H;intro a H;refine aI ?_;refine ⟨_,by exact (H).sub ⟨rfl,rfl,aC⟩,?_⟩
  unfold xZ;first|(simp_all;done)
 clear H;intro gh a w hI H;obtain ⟨st,hgh⟩:∃ x,x=gh:=⟨_,rfl⟩;subst hgh;have hst:=hI;dsimp only [lca,bC] at H;refine sD (ι:=Bool) (Tc:=[(1,_),(3,_)]) (Lc:=[(_,_)]) (fun gh=>[(4,.bool gh)]) (fun gh=>[]) (fun gh=>G) (fun gh=>gh=yB x) (by exact (H).sub ⟨rfl,rfl,aC⟩) ?_ ?_
 ·skip;refine kP H (SC (aU jA aF 0 rfl rfl (Rc rfl (Rm rfl (Sp 19 rfl ?_ ?_))))) <;> clear H
  ·intro h19 a H
   try have uE:=dT h19
   refine kH H (aY h19 rfl (Pt h19 rfl (Rm rfl (Ks rfl rfl (Pt rfl rfl (Ra rfl ?_))))));clear H;intro a H;refine aI ?_;refine ⟨_,by exact (H).sub ⟨rfl,rfl,rfl,aC⟩,?_⟩
   unfold yB;first|(simp_all;done)
  intro h19 a H
  try have uE:=dF h19
  refine kH H (YF jA h19 rfl (YO aF 0 h19 rfl (YC h19 rfl (Pf h19 rfl (Rm rfl (Sp 24 rfl ?_ ?_)))))) <;> clear H
  ·intro dL a H
   try have jQ:=dT dL
   refine kH H (Ks dL rfl (Pt dL rfl (Ra rfl ?_)));clear H;intro a H;refine aI ?_;refine ⟨_,by exact (H).sub ⟨rfl,rfl,rfl,aC⟩,?_⟩
   unfold yB;first|(simp_all;done)
  intro dL a H
  try have jQ:=dF dL
  refine kH H (YM dL rfl (Pf dL rfl (Ra rfl ?_)));clear H;intro a H;refine aI ?_;refine ⟨_,by exact (H).sub ⟨rfl,rfl,rfl,aC⟩,?_⟩
  unfold yB;first|(simp_all;done)
 clear H;intro gh a w hI H;obtain ⟨wd,hgh⟩:∃ x,x=gh:=⟨_,rfl⟩;subst hgh;have hwd:=hI;dsimp only [lca,bC] at H;refine sD (ι:=Bool) (Tc:=[(1,_),(3,_),(4,_)]) (Lc:=[(_,_)]) (fun gh=>[(5,.bool gh)]) (fun gh=>[]) (fun gh=>G) (fun gh=>gh=xS x) (by exact (H).sub ⟨rfl,rfl,rfl,aC⟩) ?_ ?_
 ·skip;refine kP H (SC (aU jA aF 0 rfl rfl (Rc rfl (Rm rfl (Sp 30 rfl ?_ ?_))))) <;> clear H
  ·intro pI a H
   try have p30:=dT pI
   refine kH H (aY pI rfl (Pt pI rfl (Rm rfl (aY rfl rfl (Pt rfl rfl (Ra rfl ?_))))));clear H;intro a H;refine aI ?_;refine ⟨_,by exact (H).sub ⟨rfl,rfl,rfl,rfl,aC⟩,?_⟩
   unfold xS;first|(simp_all;done)
  intro pI a H
  try have p30:=dF pI
  refine kH H (YF jA pI rfl (YO aF 0 pI rfl (YC pI rfl (Pf pI rfl (Rm rfl (Sp 35 rfl ?_ ?_)))))) <;> clear H
  ·intro lY a H
   try have p35:=dT lY
   refine kH H (aY lY rfl (Pt lY rfl (Ra rfl ?_)));clear H;intro a H;refine aI ?_;refine ⟨_,by exact (H).sub ⟨rfl,rfl,rfl,rfl,aC⟩,?_⟩
   unfold xS;first|(simp_all;done)
  intro lY a H
  try have p35:=dF lY
  refine kH H (YF jA lY rfl (YO aF 0 lY rfl (YC lY rfl (Pf lY rfl (Ra rfl ?_)))));clear H;intro a H;refine aI ?_;refine ⟨_,by exact (H).sub ⟨rfl,rfl,rfl,rfl,aC⟩,?_⟩
  unfold xS;first|(simp_all;done)
 clear H;intro gh a w hI H;obtain ⟨nm,hgh⟩:∃ x,x=gh:=⟨_,rfl⟩;subst hgh;have hnm:=hI;dsimp only [lca,bC] at H;refine kP H (SR fun _ K2=>ak K2 rfl ?_);clear H K2;intro a H;refine sD (ι:=Bool) (Tc:=[(1,_),(3,_),(4,_),(5,_)]) (Lc:=[(_,_)]) (fun gh=>[(6,.bool gh)]) (fun gh=>[]) (fun gh=>G) (fun gh=>gh=codeOk x) (by exact (H).sub ⟨rfl,rfl,rfl,rfl,aC⟩) ?_ ?_
 ·skip;refine kP H (SR fun _ K3=>aU jA aF 0 rfl rfl (Kz K3 (SB (SR fun _ K4=>Rc rfl (ak K4 rfl (Cd rfl ?_ ?_)))))) <;> clear H K3 K4
  ·intro BS a H
   try have p42:=dT BS
   refine kP H (SC (aU DR aF 0 rfl rfl ?_));clear H;intro a H;refine s_call tQ H wn rfl (uw _ _ H.ro x.code 1 3) rfl ?_;clear H;rintro v46 _ a w ⟨rfl,rfl⟩ - H;refine kH H (Ra rfl ?_);clear H;intro a H;refine aI ?_;refine ⟨_,by exact (H).sub ⟨rfl,rfl,rfl,rfl,rfl,aC⟩,?_⟩
   unfold codeOk;first|(simp_all;done)
  intro BS a H
  try have p42:=dF BS
  refine kP H (SR fun _ K5=>Rc rfl (ak K5 rfl (Cd rfl ?_ ?_))) <;> clear H K5
  ·intro h47 a H
   try have p47:=dT h47
   refine kP H (SC (aU DR aF 0 rfl rfl ?_));clear H;intro a H;refine s_call tQ H wn rfl (uw _ _ H.ro x.code 1 2) rfl ?_;clear H;rintro v51 _ a w ⟨rfl,rfl⟩ - H;refine kH H (Ra rfl ?_);clear H;intro a H;refine aI ?_;refine ⟨_,by exact (H).sub ⟨rfl,rfl,rfl,rfl,rfl,aC⟩,?_⟩
   unfold codeOk;first|(simp_all;done)
  intro h47 a H
  try have p47:=dF h47
  refine kP H (SR fun _ K6=>Rc rfl (ak K6 rfl (Cd rfl ?_ ?_))) <;> clear H K6
  ·intro lZ a H
   try have p52:=dT lZ
   refine kP H (SC (aU DR aF 0 rfl rfl ?_));clear H;intro a H;refine s_call tQ H wn rfl (uw _ _ H.ro x.code 1 4) rfl ?_;clear H;rintro v56 _ a w ⟨rfl,rfl⟩ - H;refine kH H (Ra rfl ?_);clear H;intro a H;refine aI ?_;refine ⟨_,by exact (H).sub ⟨rfl,rfl,rfl,rfl,rfl,aC⟩,?_⟩
   unfold codeOk;first|(simp_all;done)
  intro lZ a H
  try have p52:=dF lZ
  refine gI ?_;refine ⟨_,by exact (H).sub ⟨rfl,rfl,rfl,rfl,rfl,aC⟩,?_⟩
  unfold codeOk;first|(simp_all;done)
 clear H;intro gh a w hI H;obtain ⟨ck,hgh⟩:∃ x,x=gh:=⟨_,rfl⟩;subst hgh;have hck:=hI;dsimp only [lca,bC] at H;refine sD (ι:=Bool) (Tc:=[(1,_),(3,_),(4,_),(5,_),(6,_)]) (Lc:=[(_,_)]) (fun gh=>[(7,.bool gh)]) (fun gh=>[]) (fun gh=>G) (fun gh=>gh=xu x) (by exact (H).sub ⟨rfl,rfl,rfl,rfl,rfl,aC⟩) ?_ ?_
 ·skip;refine kP H (SC (aU jA aF 0 rfl rfl (Rc rfl (Rm rfl (Sp 60 rfl ?_ ?_))))) <;> clear H
  ·intro iP a H
   try have p60:=dT iP
   refine kH H (aY iP rfl (Pt iP rfl (Rm rfl (aY rfl rfl (Pt rfl rfl (Ra rfl ?_))))));clear H;intro a H;refine aI ?_;refine ⟨_,by exact (H).sub ⟨rfl,rfl,rfl,rfl,rfl,rfl,aC⟩,?_⟩
   unfold xu;first|(simp_all;done)
  intro iP a H
  try have p60:=dF iP
  refine kH H (YF jA iP rfl (YO aF 0 iP rfl (YC iP rfl (Pf iP rfl (Rm rfl (Sp 65 rfl ?_ ?_)))))) <;> clear H
  ·intro pJ a H
   try have p65:=dT pJ
   refine kH H (aY pJ rfl (Pt pJ rfl (Ra rfl ?_)));clear H;intro a H;refine aI ?_;refine ⟨_,by exact (H).sub ⟨rfl,rfl,rfl,rfl,rfl,rfl,aC⟩,?_⟩
   unfold xu;first|(simp_all;done)
  intro pJ a H
  try have p65:=dF pJ
  refine kH H (YF jA pJ rfl (YO aF 0 pJ rfl (YC pJ rfl (Pf pJ rfl (Ra rfl ?_)))));clear H;intro a H;refine aI ?_;refine ⟨_,by exact (H).sub ⟨rfl,rfl,rfl,rfl,rfl,rfl,aC⟩,?_⟩
  unfold xu;first|(simp_all;done)
 clear H;intro gh a w hI H;obtain ⟨cd,hgh⟩:∃ x,x=gh:=⟨_,rfl⟩;subst hgh;have hcd:=hI;dsimp only [lca,bC] at H;refine kP H (SQ fun _ K7=>SB (SR fun _ K8=>?_));clear H;intro a H;refine zX (ι:=Bool) (Tc:=[(1,_),(3,_),(4,_),(5,_),(7,_)]) 8 (fun (q0:Bool)=>[(78,.bool q0)]) (fun (q0:Bool)=>q0=(!decide (1≤x.kind∧x.kind≤8) || !codeOk x)) (by exact H.sub ⟨rfl,rfl,rfl,rfl,rfl,aC⟩) ?_ ?_
 ·intro SI;refine kH H (aU jA aF 0 rfl rfl ?_);clear H;intro a H;refine s_call tQ H wn rfl (uw _ _ H.ro x.kind 1 8) rfl ?_;clear H;rintro v73 _ a w ⟨rfl,rfl⟩ - H;refine kH H (Rn rfl (Rm rfl (Sp 75 rfl ?_ ?_))) <;> clear H
  ·intro Ar a H
   try have p75:=dT Ar
   refine kH H (aP Ar rfl (Pt Ar rfl ?_));clear H;intro a H;refine SI (_) _ _ ?_ (by exact H.sub ⟨rfl,rfl,rfl,rfl,rfl,rfl,aC⟩);rw [← hck];clear hst hwd hnm hck hcd;(try clear hq1);(try clear hq2);(try clear hq3);(try clear hq0);(try clear hq4);(try clear lg);(try clear lq);(try clear lu);simp_all
  intro Ar a H
  try have p75:=dF Ar
  refine kH H (YM Ar rfl (YN Ar rfl (Pf Ar rfl ?_)));clear H;intro a H;refine SI (_) _ _ ?_ (by exact H.sub ⟨rfl,rfl,rfl,rfl,rfl,rfl,aC⟩);rw [← hck];clear hst hwd hnm hck hcd;(try clear hq1);(try clear hq2);(try clear hq3);(try clear hq0);(try clear hq4);(try clear lg);(try clear lq);(try clear lu);simp_all
 clear H;intro q0 a w hI H;dsimp only [lca,bC] at H;simp only [yN,uQ];have hq0:=hI;refine kH H (ak K8 rfl (Cd rfl ?_ ?_)) <;> clear H K8
 ·intro uh a H
  refine aZ (fun _ K9=>?_)
  have e:jH x=3:=by unfold jH;rw [au (by rw [← hq0];exact uh)]
  exact kP H (SC (aS K9 rfl (LR results127 rfl fun H=>H.rt ⟨by rw [e],rfl⟩)))
 intro uh a H
 try have p70:=dF uh
 have f0:¬ (!decide (1≤x.kind∧x.kind≤8) || !codeOk x)=true:=by rw [← hq0,uh];decide
 refine dw (fun _ aT=>?_);refine zX (ι:=Bool) (Tc:=[(1,_),(3,_),(4,_),(5,_)]) 7 (fun (q1:Bool)=>[(86,.bool q1)]) (fun (q1:Bool)=>q1=(!xu x && decide (x.code≠0))) (by exact H.sub ⟨rfl,rfl,rfl,rfl,aC⟩) ?_ ?_
 ·intro SK;refine kH H (Rm rfl (Rn rfl (Rm rfl (Sp 82 rfl ?_ ?_)))) <;> clear H
  ·intro sM a H
   try have Vg:=dT sM
   refine kH H (YF DR sM rfl (YO aF 0 sM rfl (YC sM rfl (Pt sM rfl ?_))));clear H;intro a H;refine SK (_) _ _ ?_ (by exact H.sub ⟨rfl,rfl,rfl,rfl,rfl,aC⟩);rw [← hcd];clear hst hwd hnm hck hcd;(try clear hq1);(try clear hq2);(try clear hq3);(try clear hq0);(try clear hq4);(try clear lg);(try clear lq);(try clear lu);simp_all
  intro sM a H
  try have Vg:=dF sM
  refine kH H (aY sM rfl (Pf sM rfl ?_));clear H;intro a H;refine SK (_) _ _ ?_ (by exact H.sub ⟨rfl,rfl,rfl,rfl,rfl,aC⟩);rw [← hcd];clear hst hwd hnm hck hcd;(try clear hq1);(try clear hq2);(try clear hq3);(try clear hq0);(try clear hq4);(try clear lg);(try clear lq);(try clear lu);simp_all
 clear H;intro q1 a w hI H;dsimp only [lca,bC] at H;simp only [yN,uQ];have hq1:=hI;refine zX (ι:=Bool) (Tc:=[(1,_),(3,_),(4,_)]) 9 (fun (q2:Bool)=>[(95,.bool q2)]) (fun (q2:Bool)=>q2=(q1 || !xS x && decide (x.id≠0))) (by exact H.sub ⟨rfl,rfl,rfl,aC⟩) ?_ ?_
 ·intro MI;refine kH H (Rm rfl (Sp 87 rfl ?_ ?_)) <;> clear H
  ·intro h87 a H
   try have NU:=dT h87
   refine kH H (aY h87 rfl (Ku rfl (Ku rfl (Ku rfl (Ks h87 rfl (Pt h87 rfl ?_))))));clear H;intro a H;refine MI (_) _ _ ?_ (by exact H.sub ⟨rfl,rfl,rfl,rfl,aC⟩);rw [← hnm];clear hst hwd hnm hck hcd;(try clear hq1);(try clear hq2);(try clear hq3);(try clear hq0);(try clear hq4);(try clear lg);(try clear lq);(try clear lu);simp_all
  intro h87 a H
  try have NU:=dF h87
  refine kH H (YM h87 rfl (YN h87 rfl (YM h87 rfl (Sp 90 rfl ?_ ?_)))) <;> clear H
  ·intro zk a H
   try have p90:=dT zk
   refine kH H (YF Ak zk rfl (YO aF 0 zk rfl (YC zk rfl (PT h87 zk rfl (Pf h87 rfl ?_)))));clear H;intro a H;refine MI (_) _ _ ?_ (by exact H.sub ⟨rfl,rfl,rfl,rfl,aC⟩);rw [← hnm];clear hst hwd hnm hck hcd;(try clear hq1);(try clear hq2);(try clear hq3);(try clear hq0);(try clear hq4);(try clear lg);(try clear lq);(try clear lu);simp_all
  intro zk a H
  try have p90:=dF zk
  refine kH H (aY zk rfl (PF h87 zk rfl (Pf h87 rfl ?_)));clear H;intro a H;refine MI (_) _ _ ?_ (by exact H.sub ⟨rfl,rfl,rfl,rfl,aC⟩);rw [← hnm];clear hst hwd hnm hck hcd;(try clear hq1);(try clear hq2);(try clear hq3);(try clear hq0);(try clear hq4);(try clear lg);(try clear lq);(try clear lu);simp_all
 clear H;intro q2 a w hI H;dsimp only [lca,bC] at H;simp only [yN,uQ];have hq2:=hI;refine zX (ι:=Bool) (Tc:=[(1,_),(3,_)]) 9 (fun (q3:Bool)=>[(104,.bool q3)]) (fun (q3:Bool)=>q3=(q2 || !yB x && !qE x.text)) (by exact H.sub ⟨rfl,rfl,aC⟩) ?_ ?_
 ·intro MF;refine kH H (Rm rfl (Sp 96 rfl ?_ ?_)) <;> clear H
  ·intro pK a H
   try have F9:=dT pK
   refine kH H (aY pK rfl (Ku rfl (Ku rfl (Ku rfl (Ks pK rfl (Pt pK rfl ?_))))));clear H;intro a H;refine MF (_) _ _ ?_ (by exact H.sub ⟨rfl,rfl,rfl,aC⟩);rw [← hwd];clear hst hwd hnm hck hcd;(try clear hq1);(try clear hq2);(try clear hq3);(try clear hq0);(try clear hq4);(try clear lg);(try clear lq);(try clear lu);simp_all [qE]
  intro pK a H
  try have F9:=dF pK
  refine kH H (YM pK rfl (YN pK rfl (YM pK rfl (Sp 99 rfl ?_ ?_)))) <;> clear H
  ·intro zl a H
   try have p99:=dT zl
   refine kH H (YF uX zl rfl (YO gF 0 zl rfl ?_));clear H;intro a H;refine agU H (wg H rfl rfl zl) rfl rfl rfl ?_;clear H;intro a H;refine kH H (PT pK zl rfl (Pf pK rfl ?_));clear H;intro a H;refine MF (_) _ _ ?_ (by exact H.sub ⟨rfl,rfl,rfl,aC⟩);rw [← hwd];clear hst hwd hnm hck hcd;(try clear hq1);(try clear hq2);(try clear hq3);(try clear hq0);(try clear hq4);(try clear lg);(try clear lq);(try clear lu);simp_all [qE]
  intro zl a H
  try have p99:=dF zl
  refine kH H (aY zl rfl (PF pK zl rfl (Pf pK rfl ?_)));clear H;intro a H;refine MF (_) _ _ ?_ (by exact H.sub ⟨rfl,rfl,rfl,aC⟩);rw [← hwd];clear hst hwd hnm hck hcd;(try clear hq1);(try clear hq2);(try clear hq3);(try clear hq0);(try clear hq4);(try clear lg);(try clear lq);(try clear lu);simp_all [qE]
 clear H;intro q3 a w hI H;dsimp only [lca,bC] at H;simp only [yN,uQ];have hq3:=hI;refine zX (ι:=Bool) (Tc:=[(1,_),(3,_)]) 11 (fun (q4:Bool)=>[(115,.bool q4)]) (fun (q4:Bool)=>q4=(q3 || decide (x.kind≠6) && decide (0 < (x.flow.length:Int)))) (by exact H.sub ⟨rfl,rfl,aC⟩) ?_ ?_
 ·intro MG;refine kH H (Rm rfl (Sp 105 rfl ?_ ?_)) <;> clear H
  ·intro oo a H
   try have Ei:=dT oo
   refine kH H (aP oo rfl (aP oo rfl (Ku rfl (Ku rfl (Ku rfl (Ku rfl (Ks oo rfl (Pt oo rfl ?_))))))));clear H;intro a H;refine MG (_) _ _ ?_ (by exact H.sub ⟨rfl,rfl,rfl,aC⟩);clear hst hwd hnm hck hcd;(try clear hq1);(try clear hq2);(try clear hq3);(try clear hq0);(try clear hq4);(try clear lg);(try clear lq);(try clear lu);simp_all
  intro oo a H
  try have Ei:=dF oo
  refine kH H (YF jA oo rfl (YO aF 0 oo rfl (YC oo rfl (YM oo rfl (Sp 109 rfl ?_ ?_))))) <;> clear H
  ·intro vV a H
   try have afU:=dT vV
   refine kH H (YF yV vV rfl (YO iG 0 vV rfl (YL gD vV rfl (YC vV rfl (PT oo vV rfl (Pf oo rfl ?_))))));clear H;intro a H;refine MG (_) _ _ ?_ (by exact H.sub ⟨rfl,rfl,rfl,aC⟩);clear hst hwd hnm hck hcd;(try clear hq1);(try clear hq2);(try clear hq3);(try clear hq0);(try clear hq4);(try clear lg);(try clear lq);(try clear lu);simp_all
  intro vV a H
  try have afU:=dF vV
  refine kH H (aP vV rfl (aP vV rfl (PF oo vV rfl (Pf oo rfl ?_))));clear H;intro a H;refine MG (_) _ _ ?_ (by exact H.sub ⟨rfl,rfl,rfl,aC⟩);clear hst hwd hnm hck hcd;(try clear hq1);(try clear hq2);(try clear hq3);(try clear hq0);(try clear hq4);(try clear lg);(try clear lq);(try clear lu);simp_all
 clear H;intro q4 a w hI H;dsimp only [lca,bC] at H;simp only [yN,uQ];have hq4:=hI;refine zX (ι:=Bool) (Tc:=[(1,_),(3,_)]) 11 (fun (q5:Bool)=>[(126,.bool q5)]) (fun (q5:Bool)=>q5=uZ x) (by exact H.sub ⟨rfl,rfl,aC⟩) ?_ ?_
 ·intro MH;refine kH H (Rm rfl (Sp 116 rfl ?_ ?_)) <;> clear H
  ·intro h116 a H
   try have afW:=dT h116
   refine kH H (aP h116 rfl (aP h116 rfl (Ku rfl (Ku rfl (Ku rfl (Ku rfl (Ks h116 rfl (Pt h116 rfl ?_))))))));clear H;intro a H;refine MH (_) _ _ ?_ (by exact H.sub ⟨rfl,rfl,rfl,aC⟩);rw [show uZ x=(q4 || decide (x.kind≠7) && decide (0 < (x.rows.length:Int))) by rw [hq4,hq3,hq2,hq1];rfl];clear hq4;clear hst hwd hnm hck hcd;(try clear hq1);(try clear hq2);(try clear hq3);(try clear hq0);(try clear hq4);(try clear lg);(try clear lq);(try clear lu);simp_all
  intro h116 a H
  try have afW:=dF h116
  refine kH H (YF jA h116 rfl (YO aF 0 h116 rfl (YC h116 rfl (YM h116 rfl (Sp 120 rfl ?_ ?_))))) <;> clear H
  ·intro vW a H
   try have afX:=dT vW
   refine kH H (YF tY vW rfl (YO uK 0 vW rfl (YL nU vW rfl (YC vW rfl (PT h116 vW rfl (Pf h116 rfl ?_))))));clear H;intro a H;refine MH (_) _ _ ?_ (by exact H.sub ⟨rfl,rfl,rfl,aC⟩);rw [show uZ x=(q4 || decide (x.kind≠7) && decide (0 < (x.rows.length:Int))) by rw [hq4,hq3,hq2,hq1];rfl];clear hq4;clear hst hwd hnm hck hcd;(try clear hq1);(try clear hq2);(try clear hq3);(try clear hq0);(try clear hq4);(try clear lg);(try clear lq);(try clear lu);simp_all
  intro vW a H
  try have afX:=dF vW
  refine kH H (aP vW rfl (aP vW rfl (PF h116 vW rfl (Pf h116 rfl ?_))));clear H;intro a H;refine MH (_) _ _ ?_ (by exact H.sub ⟨rfl,rfl,rfl,aC⟩);rw [show uZ x=(q4 || decide (x.kind≠7) && decide (0 < (x.rows.length:Int))) by rw [hq4,hq3,hq2,hq1];rfl];clear hq4;clear hst hwd hnm hck hcd;(try clear hq1);(try clear hq2);(try clear hq3);(try clear hq0);(try clear hq4);(try clear lg);(try clear lq);(try clear lu);simp_all
 clear H;intro q5 a w hI H;dsimp only [lca,bC] at H;simp only [yN,uQ];have lg:=hI;refine kH H (ak aT rfl (Cd rfl ?_ ?_)) <;> clear H aT
 ·intro Au a H
  refine aZ (fun _ bD=>?_)
  have e:jH x=15:=by unfold jH;rw [ah f0,au (by rw [← lg];exact Au)]
  exact kP H (SC (aS bD rfl (LR results127 rfl fun H=>H.rt ⟨by rw [e],rfl⟩)))
 intro Au a H
 try have NT:=dF Au
 have f1:¬ uZ x=true:=by rw [← lg,Au];decide
 refine kP H (SR fun _ bK=>aU uX gF 0 rfl rfl ?_);clear H;intro a H;refine s_call Fa H wn rfl (Gn _ _ H.ro x.text hs) rfl ?_;clear H;rintro v130 _ a w ⟨rfl,rfl⟩ - H;refine kH H (Rn rfl (ak bK rfl (Cd rfl ?_ ?_))) <;> clear H bK
 ·intro h127 a H
  refine aZ (fun _ bT=>?_)
  have e:jH x=12:=by unfold jH;rw [ah f0,ah f1,au (by simpa using h127)]
  exact kP H (SC (aS bT rfl (LR results127 rfl fun H=>H.rt ⟨by rw [e],rfl⟩)))
 intro h127 a H
 try have ajE:=dF h127
 have f2:¬ nC x.text=false:=by simpa using h127
 refine dw (fun _ bU=>?_);refine zX (ι:=Bool) (Tc:=[(1,_),(3,_)]) 13 (fun (q6:Bool)=>[(145,.bool q6)]) (fun (q6:Bool)=>q6=(decide (x.kind=1∨x.kind=5) && qE x.text)) (by exact H.sub ⟨rfl,rfl,aC⟩) ?_ ?_
 ·intro MJ;refine kH H (aU jA aF 0 rfl rfl (Rc rfl (Rm rfl (Sp 136 rfl ?_ ?_)))) <;> clear H
  ·intro za a H
   try have afY:=dT za
   refine kH H (aY za rfl (Pt za rfl (Rm rfl ?_)));clear H;intro a H;refine oU uX H (wg H rfl rfl rfl) rfl rfl ?_;clear H;intro a H;refine ny gF H (wg H rfl rfl rfl) rfl (H.hp.mP 0 rfl rfl) rfl ?_;clear H;intro a H;refine AY H (wg H rfl rfl rfl) rfl rfl rfl ?_;clear H;intro a H;refine kH H (Pt rfl rfl ?_);clear H;intro a H;refine MJ (_) _ _ ?_ (by exact H.sub ⟨rfl,rfl,rfl,aC⟩);clear hst hwd hnm hck hcd;(try clear hq1);(try clear hq2);(try clear hq3);(try clear hq0);(try clear hq4);(try clear lg);(try clear lq);(try clear lu);simp_all [qE]
  intro za a H
  try have afY:=dF za
  refine kH H (YF jA za rfl (YO aF 0 za rfl (YC za rfl (Pf za rfl (Rm rfl (Sp 141 rfl ?_ ?_)))))) <;> clear H
  ·intro ze a H
   try have afZ:=dT ze
   refine kH H (YF uX ze rfl (YO gF 0 ze rfl ?_));clear H;intro a H;refine AY H (wg H rfl rfl ze) rfl rfl rfl ?_;clear H;intro a H;refine kH H (Pt ze rfl ?_);clear H;intro a H;refine MJ (_) _ _ ?_ (by exact H.sub ⟨rfl,rfl,rfl,aC⟩);clear hst hwd hnm hck hcd;(try clear hq1);(try clear hq2);(try clear hq3);(try clear hq0);(try clear hq4);(try clear lg);(try clear lq);(try clear lu);simp_all [qE]
  intro ze a H
  try have afZ:=dF ze
  refine kH H (aY ze rfl (Pf ze rfl ?_));clear H;intro a H;refine MJ (_) _ _ ?_ (by exact H.sub ⟨rfl,rfl,rfl,aC⟩);clear hst hwd hnm hck hcd;(try clear hq1);(try clear hq2);(try clear hq3);(try clear hq0);(try clear hq4);(try clear lg);(try clear lq);(try clear lu);simp_all [qE]
 clear H;intro q6 a w hI H;dsimp only [lca,bC] at H;simp only [yN,uQ];have lq:=hI;refine kH H (ak bU rfl (Cd rfl ?_ ?_)) <;> clear H bU
 ·intro Ap a H
  refine aZ (fun _ dM=>?_)
  have e:jH x=11:=by unfold jH;rw [ah f0,ah f1,ah f2,au (by rw [← lq];exact Ap)]
  exact kP H (SC (aS dM rfl (LR results127 rfl fun H=>H.rt ⟨by rw [e],rfl⟩)))
 intro Ap a H
 try have Vf:=dF Ap
 have f3:¬ (decide (x.kind=1∨x.kind=5) && qE x.text)=true:=by rw [← lq,Ap];decide
 refine dw (fun _ dO=>?_);refine zX (ι:=Bool) (Tc:=[(1,_),(3,_)]) 9 (fun (q7:Bool)=>[(155,.bool q7)]) (fun (q7:Bool)=>q7=(decide (x.kind=5) && decide (1024 < (x.text.size:Int)))) (by exact H.sub ⟨rfl,rfl,aC⟩) ?_ ?_
 ·intro SL;refine kH H (aU jA aF 0 rfl rfl (Rc rfl (Rm rfl (Sp 150 rfl ?_ ?_)))) <;> clear H
  ·intro vX a H
   try have aga:=dT vX
   refine kH H (YF uX vX rfl (YO gF 0 vX rfl ?_));clear H;intro a H;refine AZ fO H (wg H rfl rfl vX) rfl rfl ?_;clear H;intro a H;refine kH H (YC vX rfl (Pt vX rfl ?_));clear H;intro a H;refine SL (_) _ _ ?_ (by exact H.sub ⟨rfl,rfl,rfl,aC⟩);clear hst hwd hnm hck hcd;(try clear hq1);(try clear hq2);(try clear hq3);(try clear hq0);(try clear hq4);(try clear lg);(try clear lq);(try clear lu);simp_all
  intro vX a H
  try have aga:=dF vX
  refine kH H (aP vX rfl (aP vX rfl (Pf vX rfl ?_)));clear H;intro a H;refine SL (_) _ _ ?_ (by exact H.sub ⟨rfl,rfl,rfl,aC⟩);clear hst hwd hnm hck hcd;(try clear hq1);(try clear hq2);(try clear hq3);(try clear hq0);(try clear hq4);(try clear lg);(try clear lq);(try clear lu);simp_all
 clear H;intro q7 a w hI H;dsimp only [lca,bC] at H;simp only [yN,uQ];have lu:=hI;refine kH H (ak dO rfl (Cd rfl ?_ ?_)) <;> clear H dO
 ·intro Im a H
  refine aZ (fun _ dD=>?_)
  have e:jH x=10:=by unfold jH;rw [ah f0,ah f1,ah f2,ah f3,au (by rw [← lu];exact Im)]
  exact kP H (SC (aS dD rfl (LR results127 rfl fun H=>H.rt ⟨by rw [e],rfl⟩)))
 intro Im a H
 try have ajF:=dF Im
 have f4:¬ (decide (x.kind=5) && decide (1024 < (x.text.size:Int)))=true:=by rw [← lu,Im];decide
 refine dw (fun _ eG=>?_);refine zX (ι:=Bool) (Tc:=[]) 7 (fun (q8:Bool)=>[(163,.bool q8)]) (fun (q8:Bool)=>q8=(xZ x && !og x.text)) (by exact H.sub trivial) ?_ ?_
 ·intro SN;refine kH H (Rm rfl (Rm rfl (Sp 158 rfl ?_ ?_))) <;> clear H
  ·intro vY a H
   try have agb:=dT vY
   refine kH H (YF uX vY rfl (YO gF 0 vY rfl ?_));clear H;intro a H;refine s_call KW H (wg H rfl rfl vY) rfl (KO _ _ H.ro x.text hs) rfl ?_;clear H;rintro ajJ _ a w ⟨rfl,rfl⟩ - H;refine kH H (YN vY rfl (Pt vY rfl ?_));clear H;intro a H;refine SN (_) _ _ ?_ (by exact H.sub ⟨rfl,aC⟩);rw [← hst];clear hst hwd hnm hck hcd;(try clear hq1);(try clear hq2);(try clear hq3);(try clear hq0);(try clear hq4);(try clear lg);(try clear lq);(try clear lu);simp_all
  intro vY a H
  try have agb:=dF vY
  refine kH H (aP vY rfl (aP vY rfl (Pf vY rfl ?_)));clear H;intro a H;refine SN (_) _ _ ?_ (by exact H.sub ⟨rfl,aC⟩);rw [← hst];clear hst hwd hnm hck hcd;(try clear hq1);(try clear hq2);(try clear hq3);(try clear hq0);(try clear hq4);(try clear lg);(try clear lq);(try clear lu);simp_all
 clear H;intro q8 a w hI H;dsimp only [lca,bC] at H;simp only [yN,uQ];have hq8:=hI;refine kH H (ak eG rfl (Cd rfl ?_ ?_)) <;> clear H eG
 ·intro L8 a H
  refine aZ (fun _ gM=>?_)
  have e:jH x=13:=by unfold jH;rw [ah f0,ah f1,ah f2,ah f3,ah f4,au (by rw [← hq8];exact L8)]
  exact kP H (SC (aS gM rfl (LR results127 rfl fun H=>H.rt ⟨by rw [e],rfl⟩)))
 intro L8 a H
 refine gI ?_;refine K7 _ _ ?_;clear K7;refine aZ (fun _ fG=>?_)
 have e:jH x=0:=by unfold jH;rw [ah f0,ah f1,ah f2,ah f3,ah f4,ah (by rw [← hq8,L8];decide)]
 exact kP H (SC (aS fG rfl (LR results127 rfl fun H=>H.rt ⟨by rw [e],rfl⟩)))
end
section
open Go.RowKit
structure CS where
 n:Int
 bq:List Int
abbrev CR:=Int × CS
def fF (r:CR) (f:CS→CR):CR:=if r.1≠0 then r else f r.2
theorem ES {r:CR} {f:CS→CR} (h:r.1=0):fF r f=f r.2:=by rw [fF,ah (fun h'=>h' h)]
theorem Ho {r:CR} {f:CS→CR} (h:r.1≠0):fF r f=r:=by rw [fF,au h]
def jD (s:CS) (x:Int):CR:=(ou s.bq x,⟨s.n,jC s.bq x⟩)
def jR (body note:Bool) (t k i:Int) (s:CS):CR :=
 if k=3 then (bS (!body) 19,s) else if k=6 then fF (bS note 19,s) fun s=>jD s i else if k=7 then fF (bS (decide (4≤t)) 17,s) fun s=>jD s i else if k=8 then (bS (!decide (1≤i∧i≤1073741824)) 18,s) else (0,s)
def CU (C:gG) (h:gW) (n:Nat):Int:=cZ [ig C 9 h,bS (decide ((n:Int)=0)) 11,bS (decide (32 < (n:Int))) 9]
def kQ (n:Nat) (f:CS→CR) (s:CS):CR:=if n=0 then (11,s) else if 256 < n then (9,s) else f s
mutual
def dV (C:gG) (body note:Bool) (t:Int):ay→CS→CR
 | .mk k c i tx h f r,s =>
  fF (jH (.mk k c i tx h f r),s) fun s=>fF (jR body note t k i ⟨s.n+(if k=1 then tK tx else 1:Nat),s.bq⟩) fun s=>fF (ig C k h,s) fun s =>
   if k=6 then iR C false true t f s else if k=7 then kQ r.length (fun s=>iC C note (t+1) r s) s else (0,s)
def AX (C:gG) (note:Bool) (t:Int):bR→CS→CR
 | .mk h cs,s=>fF (CU C h cs.length,s) fun s=>qD C note t cs s
def cellC (C:gG) (note:Bool) (t:Int):bQ→CS→CR
 | .mk i h f,s=>fF (jD s i) fun s=>fF (ig C 10 h,s) fun s=>iR C false note t f s
def iR (C:gG) (body note:Bool) (t:Int):List ay→CS→CR
 | [],s=>(0,s)
 | x :: r,s=>fF (dV C body note t x s) fun s=>iR C body note t r s
def iC (C:gG) (note:Bool) (t:Int):List bR→CS→CR
 | [],s=>(0,s)
 | x :: r,s=>fF (AX C note t x s) fun s=>iC C note t r s
def qD (C:gG) (note:Bool) (t:Int):List bQ→CS→CR
 | [],s=>(0,s)
 | x :: r,s=>fF (cellC C note t x s) fun s=>qD C note t r s
end
theorem I7 (C:gG) (body note:Bool) (t:Int) (x:ay) (s:CS):dV C body note t x s=fF (jH x,s) fun s=>fF (jR body note t x.kind x.id ⟨s.n+(dK x:Nat),s.bq⟩) fun s=>fF (ig C x.kind x.head,s) fun s =>
  if x.kind=6 then iR C false true t x.flow s else if x.kind=7 then kQ x.rows.length (fun s=>iC C note (t+1) x.rows s) s else (0,s):=by cases x;rw [dV];rfl
theorem Jm (C:gG) (note:Bool) (t:Int) (x:bR) (s:CS):AX C note t x s=fF (CU C x.head x.cells.length,s) fun s=>qD C note t x.cells s:=by cases x;rw [AX];rfl
theorem Hu (C:gG) (note:Bool) (t:Int) (x:bQ) (s:CS):cellC C note t x s=fF (jD s x.id) fun s=>fF (ig C 10 x.head,s) fun s=>iR C false note t x.flow s:=by cases x;rw [cellC];rfl
def Up (s:CS) (z:Nat) (r:CR):Prop:=s.n≤r.2.n∧r.2.n≤s.n+z
theorem Up.and {s:CS} {z y q:Nat} {r:CR} {f:CS→CR} (h:Up s z r) (hq:z+y≤q) (hf:∀ s,Up s y (f s)):Up s q (fF r f):=by
 obtain ⟨h1,h2⟩:=h
 unfold fF
 split
 ·exact ⟨h1,by omega⟩
 obtain ⟨h3,h4⟩:=hf r.2;exact ⟨by omega,by omega⟩
theorem Up.zero (s:CS) (e:Int) (q:Nat):Up s q (e,s):=⟨Int.le_refl _,by dsimp only;omega⟩
theorem Up.le {s:CS} {z y:Nat} {r:CR} (h:Up s z r) (hq:z≤y):Up s y r:=⟨h.1,by have:=h.2;omega⟩
theorem Wx (s:CS) (x:Int) (q:Nat):Up s q (jD s x):=⟨Int.le_refl _,by dsimp only [jD];omega⟩
theorem ahY (body note:Bool) (t k i:Int) (s:CS) (q:Nat):Up s q (jR body note t k i s):=by
 unfold jR
 (repeat' split) <;> first|exact Up.zero _ _ _|exact (Up.zero _ _ 0).and (y:=0) (by omega) fun s=>Wx _ _ _
mutual
theorem Wy (C:gG) (body note:Bool) (t:Int):∀ (x:ay) (s:CS),Up s (cK x.dat) (dV C body note t x s)
 | .mk k c i tx h f r,s=>by
  have hz:=oH (.mk k c i tx h f r);have hf:=JV C false true t f;have hr:=Wz C note (t+1) r;rw [dV];obtain ⟨u,hu'⟩:∃ u,u=(if k=1 then tK tx else 1:Nat):=⟨_,rfl⟩
  have hu:u≤tx.size+1:=by
   have:=EY tx
   rw [hu'];split <;> omega
  rw [← hu'];dsimp only [ay.text,ay.flow,ay.rows,ay.head] at hz;refine (Up.zero s _ 0).and (Nat.le_of_eq (jN _)) fun s=>?_
  have h2:Up s (u) (jR body note t k i ⟨s.n+(u:Nat),s.bq⟩):=by
   obtain ⟨h3,h4⟩:=ahY body note t k i ⟨s.n+(u:Nat),s.bq⟩ 0;dsimp only at h3 h4;exact ⟨by omega,by omega⟩
  refine h2.and (y:=bg f+gT r) (by omega) fun s=>(Up.zero s _ 0).and (Nat.le_of_eq (jN _)) fun s=>?_
  by_cases h6:k=6
  ·rw [au h6];exact (hf s).le (by omega)
  rw [ah h6]
  by_cases h7:k=7
  ·rw [au h7]
   unfold kQ
   by_cases c1:r.length=0
   ·rw [au c1];exact Up.zero _ _ _
   rw [ah c1]
   by_cases c2:256 < r.length
   ·rw [au c2];exact Up.zero _ _ _
   rw [ah c2];exact (hr s).le (by omega)
  rw [ah h7];exact Up.zero _ _ _
theorem ahZ (C:gG) (note:Bool) (t:Int):∀ (x:bR) (s:CS),Up s (cK x.dat) (AX C note t x s)
 | .mk h cs,s=>by
  have hz:=zZ (.mk h cs);have hc:=Ww C note t cs;rw [Jm];dsimp only [bR.cells,bR.head] at hz ⊢;exact (Up.zero s _ 0).and (y:=iX cs) (by omega) fun s=>hc s
theorem ahX (C:gG) (note:Bool) (t:Int):∀ (x:bQ) (s:CS),Up s (cK x.dat) (cellC C note t x s)
 | .mk i h f,s=>by
  have hz:=zY (.mk i h f);have hf:=JV C false note t f;rw [Hu];dsimp only [bQ.flow,bQ.head,bQ.id] at hz ⊢;exact (Wx s _ 0).and (y:=bg f) (by omega) fun s=>(Up.zero s _ 0).and (Nat.le_of_eq (jN _)) fun s=>hf s
theorem JV (C:gG) (body note:Bool) (t:Int):∀ (l:List ay) (s:CS),Up s (bg l) (iR C body note t l s)
 | [],s=>by rw [iR];exact Up.zero _ _ _
 | x :: r,s=>by
  rw [iR];exact (Wy C body note t x s).and (y:=bg r) (by simp only [bg,eU,dZ];omega) fun s=>JV C body note t r s
theorem Wz (C:gG) (note:Bool) (t:Int):∀ (l:List bR) (s:CS),Up s (gT l) (iC C note t l s)
 | [],s=>by rw [iC];exact Up.zero _ _ _
 | x :: r,s=>by
  rw [iC];exact (ahZ C note t x s).and (y:=gT r) (by simp only [gT,eU,dZ];omega) fun s=>Wz C note t r s
theorem Ww (C:gG) (note:Bool) (t:Int):∀ (l:List bQ) (s:CS),Up s (iX l) (qD C note t l s)
 | [],s=>by rw [qD];exact Up.zero _ _ _
 | x :: r,s=>by
  rw [qD];exact (ahX C note t x s).and (y:=iX r) (by simp only [iX,eU,dZ];omega) fun s=>Ww C note t r s
end
def nR {α:Type} (f:α→CS→CR) (l:List α) (s:CS):Nat→CS
 | 0=>s
 | i+1=>match l[i]? with|some x=>(f x (nR f l s i)).2|none=>nR f l s i
def yR {α:Type} (f:α→CS→CR) (l:List α) (s:CS) (i:Nat):Int:=match l[i]? with|some x=>(f x (nR f l s i)).1|none=>0
theorem Ou {α:Type} (f:α→CS→CR) (x:α) (l:List α) (s:CS):∀ i,nR f (x :: l) s (i+1)=nR f l (f x s).2 i
 | 0=>rfl
 | i+1=>by
  have ih:=Ou f x l s i
  simp only [nR,List.getElem?_cons_succ] at ih ⊢
  rw [ih]
theorem abQ {α:Type} (f:α→CS→CR) (x:α) (l:List α) (s:CS) (i:Nat):yR f (x :: l) s (i+1)=yR f l (f x s).2 i:=by
 unfold yR
 simp only [List.getElem?_cons_succ,Ou]
theorem Yc (E:Nat→Int) (n:Nat):jP E (n+1)=if E 0≠0 then E 0 else jP (fun i=>E (i+1)) n:=by
 unfold jP
 rw [List.range_succ_eq_map,eU,cZ,List.map_map]
 rfl
theorem Ux (C:gG) (body note:Bool) (t:Int):∀ (l:List ay) (s:CS),(iR C body note t l s).1=jP (yR (dV C body note t) l s) l.length∧((iR C body note t l s).1=0→(iR C body note t l s).2=nR (dV C body note t) l s l.length)
 | [],s=>by rw [iR];exact ⟨rfl,fun _=>rfl⟩
 | x :: r,s=>by
  obtain ⟨h1,h2⟩:=Ux C body note t r (dV C body note t x s).2;have e0:yR (dV C body note t) (x :: r) s 0=(dV C body note t x s).1:=rfl;rw [iR,nG,Yc,e0,Ou]
  simp only [abQ]
  unfold fF
  split
  ·next h=>exact ⟨rfl,fun h0=>absurd h0 h⟩
  exact ⟨h1,h2⟩
theorem WA (C:gG) (body note:Bool) (t:Int) (l:List ay) (s:CS):∀ i,i≤l.length→s.n≤(nR (dV C body note t) l s i).n∧(nR (dV C body note t) l s i).n+(bg (l.drop i):Nat)≤s.n+(bg l:Nat)
 | 0,_=>⟨Int.le_refl _,Int.le_refl _⟩
 | i+1,hi=>by
  have hi':i < l.length:=hi;obtain ⟨h1,h2⟩:=WA C body note t l s i (by omega)
  have hs:nR (dV C body note t) l s (i+1)=(dV C body note t l[i] (nR (dV C body note t) l s i)).2:=by rw [nR,gZ hi']
  have hd:bg (l.drop i)=1+cK l[i].dat+bg (l.drop (i+1)):=by
   simp only [bg];rw [mK hi',eU,dZ]
  obtain ⟨h3,h4⟩:=Wy C body note t l[i] (nR (dV C body note t) l s i);rw [hs];exact ⟨by omega,by omega⟩
end
section
open Go.RowKit
mutual
/-- The ids in items, in document order. -/
def FX:ay→List Int
 | .mk k _ i _ _ f r=>(if k=6∨k=7 then [i] else [])++((if k=6 then zF f else [])++(if k=7 then Ed r else []))
def zF:List ay→List Int
 | []=>[]
 | x :: r=>FX x++zF r
def FY:bR→List Int
 | .mk _ c=>Ec c
def Ed:List bR→List Int
 | []=>[]
 | x :: r=>FY x++Ed r
def FV:bQ→List Int
 | .mk i _ f=>i :: zF f
def Ec:List bQ→List Int
 | []=>[]
 | x :: r=>FV x++Ec r
end
end
section
open Go.RowKit
theorem mZ {r:CR} {f:CS→CR} {s':CS} (h:fF r f=(0,s')):r.1=0∧f r.2=(0,s'):=by
 unfold fF at h
 split at h
 ·rename_i h1;rw [h] at h1;exact absurd rfl h1
 rename_i h1;exact ⟨mY.1 h1,h⟩
theorem QN {r:CR} (h:r.1=0):r=(0,r.2):=Prod.ext h rfl
structure jW (a b c:List Int):Prop where
 eq:c=a++b
 nd:a.Nodup→c.Nodup
 pos:∀ i∈b,1≤i∧i≤1073741824
theorem jW.nil (a:List Int):jW a [] a:=⟨by simp,fun h=>h,fun i h=>by cases h⟩
theorem jW.trans {a b c d e:List Int} (h:jW a b c) (g:jW c d e):jW a (b++d) e:=⟨by rw [g.eq,h.eq,qx],fun h1=>g.nd (h.nd h1),fun i hi=>(lV.1 hi).elim (h.pos i) (g.pos i)⟩
theorem jW.id {a:List Int} {x:Int} (h:ou a x=0):jW a [x] (jC a x):=by
 unfold jC
 rw [au h]
 unfold ou at h
 by_cases h1:1≤x∧x≤1073741824
 ·rw [ah (fun h'=>h' h1)] at h
  by_cases h2:x∈a
  ·rw [au h2] at h;cases h
  exact ⟨rfl,fun h3=>List.nodup_append.2 ⟨h3,by simp,fun u hu v hv=>by rw [qw.1 hv];exact fun e=>h2 (e ▸ hu)⟩,fun i hi=>by rw [qw.1 hi];exact h1⟩
 rw [au h1] at h;cases h
theorem jW.jD {s s':CS} {x:Int} (h:jD s x=(0,s')):jW s.bq [x] s'.bq:=by
 unfold Go.Proofs.YteopmoocmoigcaaGreat.jD at h
 injection h with h1 h2
 rw [← h2];exact jW.id h1
theorem agi {body note:Bool} {t k i:Int} {s s':CS} (h:jR body note t k i s=(0,s')):jW s.bq (if k=6∨k=7 then [i] else []) s'.bq:=by
 unfold jR at h
 by_cases h3:k=3
 ·rw [au h3] at h;injection h with _ h2;rw [ah (by omega),← h2];exact jW.nil _
 rw [ah h3] at h
 by_cases h6:k=6
 ·rw [au h6] at h;rw [au (.inl h6)];exact jW.jD (mZ h).2
 rw [ah h6] at h
 by_cases h7:k=7
 ·rw [au h7] at h;rw [au (.inr h7)];exact jW.jD (mZ h).2
 rw [ah h7] at h;rw [ah (by omega)]
 by_cases h8:k=8
 ·rw [au h8] at h;injection h with _ h2;rw [← h2];exact jW.nil _
 rw [ah h8] at h;injection h with _ h2;rw [← h2];exact jW.nil _
theorem Vr {n:Nat} {f:CS→CR} {s s':CS} (h:kQ n f s=(0,s')):n≠0∧f s=(0,s'):=by
 unfold kQ at h
 split at h
 ·cases h
 rename_i h1
 split at h
 ·cases h
 exact ⟨h1,h⟩
mutual
theorem abU (C:gG) (body note:Bool) (t:Int):∀ (x:ay) (s s':CS),dV C body note t x s=(0,s')→jW s.bq (FX x) s'.bq
 | .mk k c i tx h f r,s,s',e=>by
  have hf:=Ia C false true t f;have hr:=RQ C note (t+1) r;rw [dV] at e;obtain ⟨-,e⟩:=mZ e;obtain ⟨e1,e⟩:=mZ e;obtain ⟨-,e⟩:=mZ e;have h1:=agi (QN e1);rw [FX];refine h1.trans ?_
  by_cases h6:k=6
  ·rw [au h6] at e ⊢;rw [ah (show ¬ k=7 by omega),tH];exact hf _ _ e
  rw [ah h6] at e ⊢;rw [lG]
  by_cases h7:k=7
  ·rw [au h7] at e ⊢;exact hr _ _ (Vr e).2
  rw [ah h7] at e ⊢
  injection e with _ e
  rw [← e];exact jW.nil _
theorem abV (C:gG) (note:Bool) (t:Int):∀ (x:bR) (s s':CS),AX C note t x s=(0,s')→jW s.bq (FY x) s'.bq
 | .mk h cs,s,s',e=>by
  have hc:=RP C note t cs;rw [Jm] at e;rw [FY];exact hc _ _ (mZ e).2
theorem abT (C:gG) (note:Bool) (t:Int):∀ (x:bQ) (s s':CS),cellC C note t x s=(0,s')→jW s.bq (FV x) s'.bq
 | .mk i h f,s,s',e=>by
  have hf:=Ia C false note t f;rw [Hu] at e;dsimp only [bQ.id,bQ.head,bQ.flow] at e;obtain ⟨e1,e⟩:=mZ e;have h1:=jW.jD (s':=(jD s i).2) (Prod.ext e1 rfl);rw [FV];exact h1.trans (hf _ _ (mZ e).2)
theorem Ia (C:gG) (body note:Bool) (t:Int):∀ (l:List ay) (s s':CS),iR C body note t l s=(0,s')→jW s.bq (zF l) s'.bq
 | [],s,s',e=>by rw [iR] at e;injection e with _ e;rw [← e];exact jW.nil _
 | x :: r,s,s',e=>by
  rw [iR] at e;obtain ⟨e1,e⟩:=mZ e;rw [zF];exact (abU C body note t x s _ (Prod.ext e1 rfl)).trans (Ia C body note t r _ _ e)
theorem RQ (C:gG) (note:Bool) (t:Int):∀ (l:List bR) (s s':CS),iC C note t l s=(0,s')→jW s.bq (Ed l) s'.bq
 | [],s,s',e=>by rw [iC] at e;injection e with _ e;rw [← e];exact jW.nil _
 | x :: r,s,s',e=>by
  rw [iC] at e;obtain ⟨e1,e⟩:=mZ e;rw [Ed];exact (abV C note t x s _ (Prod.ext e1 rfl)).trans (RQ C note t r _ _ e)
theorem RP (C:gG) (note:Bool) (t:Int):∀ (l:List bQ) (s s':CS),qD C note t l s=(0,s')→jW s.bq (Ec l) s'.bq
 | [],s,s',e=>by rw [qD] at e;injection e with _ e;rw [← e];exact jW.nil _
 | x :: r,s,s',e=>by
  rw [qD] at e;obtain ⟨e1,e⟩:=mZ e;rw [Ec];exact (abT C note t x s _ (Prod.ext e1 rfl)).trans (RP C note t r _ _ e)
end
def gX (l:List ay):Prop:=∃ (C:gG) (body note:Bool) (t:Int) (s s':CS),iR C body note t l s=(0,s')
structure BG (x:ay):Prop where
 txt:nC x.text=true
 kd:1≤x.kind∧x.kind≤8
 rw0:x.kind≠7→x.rows=[]
 fl0:x.kind≠6→x.flow=[]
 fl:gX x.flow
 rw:∀ r∈x.rows,∀ c∈r.cells,gX c.flow
theorem afO:gX []:=⟨⟨[],[],[]⟩,false,false,0,⟨0,[]⟩,⟨0,[]⟩,by rw [iR]⟩
theorem acQ {x:ay} (h:jH x=0):nC x.text=true∧(1≤x.kind∧x.kind≤8)∧(x.kind≠7→x.rows=[])∧(x.kind≠6→x.flow=[]):=by
 unfold jH at h
 split at h
 ·cases h
 rename_i h1
 split at h
 ·cases h
 rename_i h2
 split at h
 ·cases h
 rename_i h3
 have hk:decide (1≤x.kind∧x.kind≤8)=true:=by
  cases hd:decide (1≤x.kind∧x.kind≤8)
  ·rw [hd] at h1;exact absurd rfl h1
  rfl
 refine ⟨by simpa using h3,rY hk,fun h7=>?_,fun h6=>?_⟩
 ·rw [Bool.not_eq_true] at h2
  unfold uZ at h2
  simp only [Bool.or_eq_false_iff] at h2
  have h4:=h2.2;rw [jO h7,Ag,qz] at h4;exact List.length_eq_zero_iff.1 (by omega)
 rw [Bool.not_eq_true] at h2
 unfold uZ at h2
 simp only [Bool.or_eq_false_iff] at h2
 have h4:=h2.1.2;rw [jO h6,Ag,qz] at h4;exact List.length_eq_zero_iff.1 (by omega)
theorem cells_ok {C:gG} {note:Bool} {t:Int}:∀ {l:List bQ} {s s':CS},qD C note t l s=(0,s')→∀ c∈l,gX c.flow
 | [],_,_,_,_,h=>by cases h
 | x :: r,s,s',e,c,h=>by
  rw [qD] at e;obtain ⟨e1,e⟩:=mZ e
  rcases lF.1 h with rfl|h
  ·have e2:cellC C note t c s=(0,(cellC C note t c s).2):=Prod.ext e1 rfl
   generalize (cellC C note t c s).2=s2 at e2
   rw [Hu] at e2;exact ⟨C,false,note,t,_,_,(mZ (mZ e2).2).2⟩
  exact cells_ok e c h
theorem Vs {C:gG} {note:Bool} {t:Int}:∀ {l:List bR} {s s':CS},iC C note t l s=(0,s')→∀ r∈l,∀ c∈r.cells,gX c.flow
 | [],_,_,_,_,h=>by cases h
 | x :: r,s,s',e,q,h=>by
  rw [iC] at e;obtain ⟨e1,e⟩:=mZ e
  rcases lF.1 h with rfl|h
  ·have e2:AX C note t q s=(0,(AX C note t q s).2):=Prod.ext e1 rfl
   generalize (AX C note t q s).2=s2 at e2
   rw [Jm] at e2;exact cells_ok (mZ e2).2
  exact Vs e q h
theorem gX.head {x:ay} {l:List ay} (h:gX (x :: l)):BG x∧gX l:=by
 obtain ⟨C,body,note,t,s,s',e⟩:=h;rw [iR] at e;obtain ⟨e1,e⟩:=mZ e;have e2:dV C body note t x s=(0,(dV C body note t x s).2):=Prod.ext e1 rfl
 generalize (dV C body note t x s).2=s2 at e2
 refine ⟨?_,⟨C,body,note,t,_,_,e⟩⟩;rw [I7] at e2;obtain ⟨f1,e2⟩:=mZ e2;(iterate 2 obtain ⟨-,e2⟩:=mZ e2);obtain ⟨h1,h2,h3,h4⟩:=acQ f1;refine ⟨h1,h2,h3,h4,?_,?_⟩
 ·by_cases h6:x.kind=6
  ·rw [au h6] at e2;exact ⟨_,_,_,_,_,_,e2⟩
  rw [h4 h6];exact afO
 by_cases h7:x.kind=7
 ·rw [ah (by omega),au h7] at e2;exact Vs (Vr e2).2
 rw [h3 h7];exact fun _ h=>by cases h
theorem gX.tail {x:ay} {l:List ay} (h:gX (x :: l)):gX l:=h.head.2
theorem gX.mem:∀ {l:List ay} {x:ay},gX l→x∈l→BG x
 | y :: l,x,h,hx=>by
  rcases lF.1 hx with rfl|hx
  ·exact h.head.1
  exact gX.mem h.head.2 hx
theorem BG.e {x:ay} (h:BG x):qg x=0:=by unfold qg EA;rw [au h.txt];split <;> rfl
theorem BG.n1 {x:ay} (h:BG x):n1 x=dK x:=by unfold Go.Proofs.YteopmoocmoigcaaGreat.n1;rw [au h.e]
theorem gX.div {l:List ay} (h:gX l):tO l=true:=by
 unfold tO
 rw [kF];exact fun x hx=>jO (h.mem hx).e
theorem gX.len {l:List ay} (h:gX l):wH l=gq l:=by unfold wH;rw [au h.div]
mutual
theorem ait (note:Bool) (t:Int):∀ x:ay,((zV note t x).map jv.id).Sublist (FX x)
 | .mk k c i tx h f r=>by
  have hf:=JX true t f;have hr:=WO note t r;rw [zV,FX]
  by_cases h6:k=6
  ·rw [au h6,au (.inl h6),au h6,ah (by omega),tH];exact List.Sublist.cons_cons _ hf
  rw [ah h6,ah h6,lG]
  by_cases h7:k=7
  ·rw [au h7,au h7,au (.inr h7)];exact List.Sublist.cons _ hr
  rw [ah h7];exact List.nil_sublist _
theorem JX (note:Bool) (t:Int):∀ l:List ay,((jr note t l).map jv.id).Sublist (zF l)
 | []=>by rw [jr];exact List.nil_sublist _
 | x :: l=>by
  rw [jr,zF,qy];exact (ait note t x).append (JX note t l)
theorem aiu (note:Bool) (t:Int):∀ x:bR,((zW note t x).map jv.id).Sublist (FY x)
 | .mk h cs=>by rw [zW,FY];exact WM note t cs
theorem WO (note:Bool) (t:Int):∀ l:List bR,((rR note t l).map jv.id).Sublist (Ed l)
 | []=>by rw [rR];exact List.nil_sublist _
 | x :: l=>by
  rw [rR,Ed,qy];exact (aiu note t x).append (WO note t l)
theorem ais (note:Bool) (t:Int):∀ x:bQ,((zU note t x).map jv.id).Sublist (FV x)
 | .mk i h f=>by rw [zU,FV];exact List.Sublist.cons_cons _ (JX note (t+1) f)
theorem WM (note:Bool) (t:Int):∀ l:List bQ,((sZ note t l).map jv.id).Sublist (Ec l)
 | []=>by rw [sZ];exact List.nil_sublist _
 | x :: l=>by
  rw [sZ,Ec,qy];exact (ais note t x).append (WM note t l)
end
structure Ac (l:List ay):Prop where
 ok:gX l
 nd:(zF l).Nodup
 pos:∀ i∈zF l,1≤i∧i≤1073741824
theorem Ac.of {C:gG} {body note:Bool} {t n:Int} {l:List ay} {s':CS} (h:iR C body note t l ⟨n,[]⟩=(0,s')):Ac l:=by
 have he:=Ia C body note t l _ _ h;have hn:=he.nd List.nodup_nil;rw [he.eq] at hn;exact ⟨⟨C,body,note,t,_,_,h⟩,by simpa using hn,he.pos⟩
theorem Ac.ids {l:List ay} (h:Ac l):((Ao l).map jv.id).Nodup:=by
 have hs:=JX false 0 l;rw [Ao,eU,List.nodup_cons];exact ⟨fun hm=>by have:=h.pos _ (hs.subset hm);dsimp only at this;omega,hs.nodup h.nd⟩
theorem acD {L:List jv} (hn:(L.map jv.id).Nodup) {F:jv} (hF:F∈L):L.find? (fun f=>decide (f.id=F.id))=some F:=by
 induction L with
 | nil=>cases hF
 | cons E L ih =>
  rw [eU,List.nodup_cons] at hn;rw [List.find?_cons]
  rcases lF.1 hF with rfl|hF
  ·simp
  have:E.id≠F.id:=fun e=>hn.1 (e ▸ List.mem_map_of_mem hF);rw [iE this];exact ih hn.2 hF
end
section
open Go.RowKit
def Ae (s:CS) (z:Nat) (r:CR):Prop:=r.2.bq.length≤s.bq.length+z
theorem Ae.and {s:CS} {z y q:Nat} {r:CR} {f:CS→CR} (h:Ae s z r) (hq:z+y≤q) (hf:∀ s,Ae s y (f s)):Ae s q (fF r f):=by
 unfold Ae at *
 unfold fF
 split
 ·omega
 have:=hf r.2
 omega
theorem Ae.zero (s:CS) (e:Int) (q:Nat):Ae s q (e,s):=by unfold Ae;dsimp only;omega
theorem aiA {l:List ay} {k:Nat} (hk:k < l.length):bg (l.drop k)=1+cK l[k].dat+bg (l.drop (k+1)):=by
 simp only [bg];rw [mK hk,eU,dZ]
end
section
open Go.RowKit
structure bZ where
 code:Int
 id:Int
 name:ByteArray
 flow:Int
 at_:Int
def bZ.dat (x:bZ):List Dat:=[li x.code,li x.id,.lf (.string x.name),li x.flow,li x.at_]
abbrev bZ.cells (x:bZ):List aj:=[vi x.code,vi x.id,.string x.name,vi x.flow,vi x.at_]
abbrev bZ.val (x:bZ):aj:=.agg #[vi x.code,vi x.id,.string x.name,vi x.flow,vi x.at_]
theorem Yg {G:GH} {x:bZ} {cs:List aj} (h:aW G x.dat cs):cs=x.cells:=by
 simp only [bZ.dat,aW,av] at h
 obtain ⟨_,_,rfl,⟨rfl,_⟩,_,_,rfl,⟨rfl,_⟩,_,_,rfl,⟨rfl,_⟩,_,_,rfl,⟨rfl,_⟩,_,_,rfl,⟨rfl,_⟩,rfl⟩:=h
 rfl
theorem Yh (G:GH) (x:bZ):aW G x.dat x.cells :=
 ⟨_,_,rfl,⟨rfl,rfl⟩,_,_,rfl,⟨rfl,rfl⟩,_,_,rfl,⟨rfl,rfl⟩,_,_,rfl,⟨rfl,rfl⟩,_,_,rfl,⟨rfl,rfl⟩,rfl⟩
mutual
def yI (g:Int) (t:Nat):ay→List bZ
 | .mk k c i tx _ f r=>(if k=8 then [⟨c,i,tx,g,(t:Int)⟩] else [])++((if k=6 then fK i 0 f else [])++(if k=7 then qo r else []))
/-- The anchors of a flow, and of those in it, in document order. -/
def fK (g:Int):Nat→List ay→List bZ
 | _,[]=>[]
 | t,x :: l=>yI g t x++fK g (t+n1 x) l
def qo:List bR→List bZ
 | []=>[]
 | x :: l=>yJ x++qo l
def yJ:bR→List bZ
 | .mk _ cs=>qW cs
def qW:List bQ→List bZ
 | []=>[]
 | x :: l=>yH x++qW l
def yH:bQ→List bZ
 | .mk i _ f=>fK i 0 f
end
theorem Qb (g:Int) (t:Nat) (x:ay):yI g t x=(if x.kind=8 then [⟨x.code,x.id,x.text,g,(t:Int)⟩] else [])++((if x.kind=6 then fK x.id 0 x.flow else [])++(if x.kind=7 then qo x.rows else [])):=by cases x;rw [yI];rfl
theorem X5 (x:bR):yJ x=qW x.cells:=by cases x;rw [yJ];rfl
theorem XW (x:bQ):yH x=fK x.id 0 x.flow:=by cases x;rw [yH];rfl
mutual
theorem X4 (g:Int) (t:Nat):∀ x:ay,(yI g t x).length≤cK x.dat
 | .mk k c i tx h fl r=>by
  have h4:=oH (.mk k c i tx h fl r);have hf:=Dq i 0 fl;have hr:=Qc r;dsimp only [ay.text,ay.head,ay.flow,ay.rows] at h4;rw [yI,nH,nH]
  split <;> split <;> split <;> simp only [nG,List.length_nil] <;> omega
theorem Dq (g:Int):∀ (t:Nat) (l:List ay),(fK g t l).length≤bg l
 | _,[]=>by simp [fK]
 | t,x :: l=>by
  have h1:=X4 g t x;have h2:=Dq g (t+n1 x) l;rw [fK,nH]
  simp only [bg,eU,dZ] at *;omega
theorem X6:∀ x:bR,(yJ x).length≤cK x.dat
 | .mk h cs=>by
  have h4:=zZ (.mk h cs);have hc:=Qa cs;dsimp only [bR.head,bR.cells] at h4;rw [yJ];omega
theorem Qc:∀ l:List bR,(qo l).length≤gT l
 | []=>by simp [qo]
 | x :: l=>by
  have h1:=X6 x;have h2:=Qc l;rw [qo,nH]
  simp only [gT,eU,dZ] at *;omega
theorem XY:∀ x:bQ,(yH x).length≤cK x.dat
 | .mk i h fl=>by
  have h4:=zY (.mk i h fl);have hf:=Dq i 0 fl;dsimp only [bQ.head,bQ.flow] at h4;rw [yH];omega
theorem Qa:∀ l:List bQ,(qW l).length≤iX l
 | []=>by simp [qW]
 | x :: l=>by
  have h1:=XY x;have h2:=Qa l;rw [qW,nH]
  simp only [iX,eU,dZ] at *;omega
end
theorem UZ (x:ay):n1 x+bg x.flow+gT x.rows < cK x.dat:=by
 have h1:=oH x;have h2:=EY x.text
 unfold n1 dK
 split <;> first|omega|(split <;> omega)
def BJ (a:bZ):AP:=fun args _=>args=[a.val]
def OZ (P:Program) (fv:aj) (Gi:GH) (xs:List AP) (J:Nat→GH→OL→Prop):Prop :=
 ∀ k args G L w,tq xs k args G→(∀ b o,Gi b=some o→G b=some o)→J k G L→gH G L w→rT P fv args w (fT w G L fun _ G' L'=>J (k+1) G' L')
end
section
open Go.RowKit
abbrev oz (p:Int × Int):aj:=.agg #[vi p.1,vi p.2]
def kg:Nat→List ((Int × Int) × aj)→List MapEntry
 | _,[]=>[]
 | i,(k,v) :: r=>⟨oz k,v,i⟩ :: kg (i+1) r
theorem UQ (x:(Int × Int) × aj):∀ (i:Nat) (l:List ((Int × Int) × aj)),kg i (l++[x])=kg i l++[⟨oz x.1,x.2,i+l.length⟩]
 | _,[]=>rfl
 | i,k :: r=>by
  rw [mJ,kg,UQ x (i+1) r,kg,mJ,nG,show i+1+r.length=i+(r.length+1) by omega]
def lS (x:Int × Int):List ((Int × Int) × aj)→Option aj
 | []=>none
 | (k,v) :: r=>if k=x then some v else lS x r
theorem Vu {P:Program} {kt:TypeId} (he:yC P kt [0,1]) (w:World) (p q:Int × Int):(Op.equal kt (oz p) (oz q)).run P w=.ok (decide (p=q)) w:=by
 have h1:=N9 (P:=P) (w:=w) (d:=9998) (xs:=#[vi p.1,vi p.2]) (ys:=#[vi q.1,vi q.2]) _ he.ok (by rw [he.sK];rfl)
 rw [he.sK] at h1
 have h2:=run_equalIn_struct w 9999 kt #[vi p.1,vi p.2] #[vi q.1,vi q.2] he.und he.held
 show (Op.equalIn 10000 kt (oz p) (oz q)).run P w=_
 rw [h2,h1]
 congr 1
 obtain ⟨a,b⟩:=p
 obtain ⟨c,d⟩:=q
 rw [nI]
 simp [jB]
theorem N8 {P:Program} {kt:TypeId} (he:yC P kt [0,1]) (w:World) (e:Bool) (p:Int × Int):(Instr.checkKey e 10000 kt (oz p)).run P w=.ok () w:=by
 show (Instr.checkKey e (9999+1) kt (oz p)).run P w=_
 have hok:=he.ok
 have hfl:=he.sK
 rw [Instr.checkKey]
 simp only [bW,run_underlying he.und,jE]
 rw [← Array.forIn_toList]
 have hall:∀ f∈(P.fieldsOf kt).toList,f.name ≠ "_"∧P.plainKey f.type=true∧P.underlying f.type=some (.int .i64)∧∃ m,(#[vi p.1,vi p.2]:Array aj)[f.offset]?=some (.int .i64 m):=by
  intro f hf
  have h1:=kF.1 hok f hf
  simp only [kG,nY] at h1
  refine ⟨h1.1.1,h1.1.2,?_,?_⟩
  ·have h2:=h1.2
   unfold FZ at h2
   split at h2
   ·assumption
   ·cases h2
  ·have:f.offset∈[0,1]:=by rw [← hfl];exact List.mem_map_of_mem hf
   simp only [lF,List.not_mem_nil,or_false] at this
   rcases this with h|h
   ·rw [h];exact ⟨p.1,rfl⟩
   ·rw [h];exact ⟨p.2,rfl⟩
 clear hok hfl
 generalize (P.fieldsOf kt).toList=fs at hall
 induction fs with
 | nil=>simp
 | cons f fs ih =>
  obtain ⟨hn,hp,hu,m,hm⟩:=hall f iH
  have p1:=run_part_plain w hp hm
  have p2:=MapKept.run_checkKey (P:=P) (w:=w) (k:=.int .i64 m) hu (by trivial) e 9998
  simp only [List.forIn_cons,bW,hn,ne_eq,not_false_eq_true,if_true,jE,p1,p2,oL]
  exact ih fun y hy=>hall y (mM _ hy)
theorem Vv {P:Program} {kt:TypeId} (he:yC P kt [0,1]) (w:World) (x:Int × Int):∀ (i j:Nat) (l:List ((Int × Int) × aj)),∃ an,(Instr.findAsking kt (oz x) (kg i l) j).run P w=.ok an w∧an.map (·.2)=lS x l
 | _,_,[]=>⟨none,by simp [kg,Instr.findAsking],rfl⟩
 | i,j,(k,v) :: r=>by
  obtain ⟨an,h1,h2⟩:=Vv he w x (i+1) (j+1) r
  by_cases e:k=x
  ·subst e
   exact ⟨some (j,v),by simp [kg,Instr.findAsking,Vu he,bW],by rw [lS,au rfl];rfl⟩
  ·exact ⟨an,by simp [kg,Instr.findAsking,Vu he,bW,show ¬ x=k from fun h=>e h.symm,h1],by rw [lS,ah e];exact h2⟩
theorem acB {P:Program} {kt:TypeId} (he:yC P kt [0,1]) (x:aj):∀ (l:List MapEntry) (j:Nat),l≠[]→Instr.findNow (.struct (P.fieldsOf kt)) x l j=none
 | [],_,h=>absurd rfl h
 | e :: l,j,_=>by simp [Instr.findNow,Instr.sameNow]
theorem Ob {P:Program} {kt:TypeId} (he:yC P kt [0,1]) (w:World) (x:Int × Int) (l:List ((Int × Int) × aj)):∃ an,(Instr.findKey kt (oz x) (kg 0 l)).run P w=.ok an w∧an.map (·.2)=lS x l:=by
 obtain ⟨an,h1,h2⟩:=Vv he w x 0 0 l
 refine ⟨an,?_,h2⟩
 unfold Instr.findKey
 simp only [bW,run_underlying he.und,jE]
 cases l with
 | nil=>simp only [kg,Instr.findAsking] at h1 ⊢;simpa [Instr.findNow] using h1
 | cons y l =>
  rw [acB he _ _ _ (by obtain ⟨k,v⟩:=y;simp [kg])]
  exact h1
abbrev AU (l:List ((Int × Int) × aj)):Obj:=.map (kg 0 l).toArray l.length
section
variable {N:Nat} {D:List Deferred} {w0:World} {F:Nat→Prop} {G0 G:GH} {L:OL} {T:List (Nat × aj)}
variable {r:Option Nat} {P:Program} {ops:Array Oper} {Q:Exit→Act→World→Prop} {rest:List Oper} {a:Act} {w:World}
variable {d:Nat} {ty:TypeId} {pos:String} {aK:Array Edge} {g:Option (Nat × Bool)}
theorem agR {t kt et:TypeId} {x y:Operand} {b:Nat} {l:List ((Int × Int) × aj)} {ky:Int × Int} {zv:aj} (hm:P.underlying t=some (.map kt et)) (he:yC P kt [0,1]) (hz:(P.info? et).map (fun i=>i.zero)=some (some zv)) (H:St N D w0 F G0 G L T a w)
  (hw:Region.wanted ⟨some d,.lookup t x y false,ty,pos,aK,g⟩ (yielded ops a.tmps)=true) (hx:ev T x=some (.map (some b))) (hy:ev T y=some (oz ky)) (hb:w.heap[b]?=some (AU l)) (hd:Nat.blt d N=true)
  (k:∀ a',St N D w0 F G0 G L ((d,(lS ky l).getD zv) :: T) a' w→WL r P ops Q rest a' w):WL r P ops Q (⟨some d,.lookup t x y false,ty,pos,aK,g⟩ :: rest) a w:=by
 obtain ⟨an,h2,han⟩:=Ob he w ky l
 obtain ⟨inf,hi1,hi2⟩:=kU.1 hz
 refine fE (v:=(lS ky l).getD zv) (w':=w) hw rfl ?_ (k _ (H.put hd _ H.hp))
 have h1:=N8 he w (kg 0 l).toArray.isEmpty ky
 replace hb:w.heap[b]?=some (.map (kg 0 l).toArray l.length):=hb
 have h2':(Instr.findKey kt (oz ky) (kg 0 l).toArray.toList).run P w=.ok an w:=by simpa using h2
 generalize (kg 0 l).toArray=es at hb h1 h2'
 rw [← han]
 cases an with
 | none=>simp [execOp,Instr.lookup,H.ev hx,H.ev hy,bW,kX hm,MapKept.run_getObj_map hb,h1,h2',Result.andThen,zeroValue,zI hi1,hi2]
 | some q=>simp [execOp,Instr.lookup,H.ev hx,H.ev hy,bW,kX hm,MapKept.run_getObj_map hb,h1,h2',Result.andThen]
theorem VB {t kt et:TypeId} {x y:Operand} {b:Nat} {l:List ((Int × Int) × aj)} {ky:Int × Int} {zv:aj} (hm:P.underlying t=some (.map kt et)) (he:yC P kt [0,1]) (hz:(P.info? et).map (fun i=>i.zero)=some (some zv)) (H:St N D w0 F G0 G L T a w)
  (hw:Region.wanted ⟨some d,.lookup t x y true,ty,pos,aK,g⟩ (yielded ops a.tmps)=true) (hx:ev T x=some (.map (some b))) (hy:ev T y=some (oz ky)) (hb:w.heap[b]?=some (AU l)) (hd:Nat.blt d N=true)
  (k:∀ a',St N D w0 F G0 G L ((d,.tuple #[(lS ky l).getD zv,.bool (lS ky l).isSome]) :: T) a' w→WL r P ops Q rest a' w):WL r P ops Q (⟨some d,.lookup t x y true,ty,pos,aK,g⟩ :: rest) a w:=by
 obtain ⟨an,h2,han⟩:=Ob he w ky l
 obtain ⟨inf,hi1,hi2⟩:=kU.1 hz
 refine fE (v:=.tuple #[(lS ky l).getD zv,.bool (lS ky l).isSome]) (w':=w) hw rfl ?_ (k _ (H.put hd _ H.hp))
 have h1:=N8 he w (kg 0 l).toArray.isEmpty ky
 replace hb:w.heap[b]?=some (.map (kg 0 l).toArray l.length):=hb
 have h2':(Instr.findKey kt (oz ky) (kg 0 l).toArray.toList).run P w=.ok an w:=by simpa using h2
 generalize (kg 0 l).toArray=es at hb h1 h2'
 rw [← han]
 cases an with
 | none=>simp [execOp,Instr.lookup,H.ev hx,H.ev hy,bW,kX hm,MapKept.run_getObj_map hb,h1,h2',Result.andThen,zeroValue,zI hi1,hi2]
 | some q=>simp [execOp,Instr.lookup,H.ev hx,H.ev hy,bW,kX hm,MapKept.run_getObj_map hb,h1,h2',Result.andThen]
theorem agV {t kt et:TypeId} {x y z:Operand} {b i:Nat} {l:List ((Int × Int) × aj)} {ky:Int × Int} {v:aj} (hm:P.underlying t=some (.map kt et)) (he:yC P kt [0,1]) (H:St N D w0 F G0 G L T a w)
  (hw:Region.wanted ⟨none,.mapUpdate t x y z,ty,pos,aK,g⟩ (yielded ops a.tmps)=true) (hx:ev T x=some (.map (some b))) (hy:ev T y=some (oz ky)) (hzv:ev T z=some v) (hi:L[i]?=some (b,AU l)) (hn:lS ky l=none)
  (k:∀ w',St N D w0 F G0 G (L.set i (b,AU (l++[(ky,v)]))) T a w'→WL r P ops Q rest a w'):WL r P ops Q (⟨none,.mapUpdate t x y z,ty,pos,aK,g⟩ :: rest) a w:=by
 obtain ⟨an,h2,han⟩:=Ob he w ky l
 have hnone:an=none:=by
  rw [hn] at han
  cases an with
  | none=>rfl
  | some q=>cases han
 subst hnone
 have hb:w.heap[b]?=some (.map (kg 0 l).toArray l.length):=H.hp.own _ (kT hi)
 have h1:=N8 he w false ky
 have h2':(Instr.findKey kt (oz ky) (kg 0 l).toArray.toList).run P w=.ok none w:=by simpa using h2
 have e:(kg 0 l).toArray.push ⟨oz ky,v,l.length⟩=(kg 0 (l++[(ky,v)])).toArray:=by
  rw [UQ,List.push_toArray,jN]
 refine OO (w':={ w with heap:=w.heap.setIfInBounds b (.map ((kg 0 l).toArray.push ⟨oz ky,v,l.length⟩) (l.length+1)) }) hw rfl ?_ ?_
 ·generalize (kg 0 l).toArray=es at hb h2'
  simp [execOp,Instr.mapUpdate,H.ev hx,H.ev hy,H.ev hzv,bW,kX hm,MapKept.run_getObj_map hb,h1,h2',MapKept.run_setObj_map _ hb,Result.andThen]
 ·refine k _ ?_
  have H':=H.move (H.hp.upd hi (WB (o:=.map ((kg 0 l).toArray.push ⟨oz ky,v,l.length⟩) (l.length+1)) hb))
  rw [e] at H' ⊢
  rw [AU,nH]
  exact H'
end
end
section
open Go.RowKit
end
section
open Go.RowKit
theorem bZ.eq_iff (a b:bZ):(a.code=b.code∧a.id=b.id∧a.name=b.name∧a.flow=b.flow∧a.at_=b.at_)↔a=b:=by cases a;cases b;simp
instance:DecidableEq bZ:=fun a b=>decidable_of_iff _ (bZ.eq_iff a b)
def ng (l:List bZ) (c i:Int):Option bZ:=l.find? fun a=>decide (a.code=c∧a.id=i)
theorem SA {l:List bZ} {k:Nat} (hk:k < l.length) (c i:Int):ng (l.take (k+1)) c i=(ng (l.take k) c i).or (if l[k].code=c∧l[k].id=i then some l[k] else none):=by
 unfold ng
 rw [jF hk,List.find?_append,List.find?_cons,List.find?_nil]
 by_cases h:l[k].code=c∧l[k].id=i
 ·rw [au h,jO h]
 rw [ah h,iE h]
theorem UF (p q:Int × Int) (v:aj):∀ l:List ((Int × Int) × aj),lS p (l++[(q,v)])=(lS p l).or (if q=p then some v else none)
 | []=>by
  by_cases h:q=p
  ·simp [lS,h]
  simp [lS,h]
 | (k,u) :: r=>by
  rw [mJ,lS,lS]
  by_cases h:k=p
  ·rw [au h,au h];rfl
  rw [ah h,ah h];exact UF p q v r
def tu (acc:List ((Int × Int) × aj)) (l:List bZ):Prop:=∀ p:Int × Int,lS p acc=(ng l p.1 p.2).map bZ.val
theorem tu.nil:tu [] []:=fun _=>rfl
theorem tu.new {acc:List ((Int × Int) × aj)} {l:List bZ} {k:Nat} (h:tu acc (l.take k)) (hk:k < l.length) (hn:lS (l[k].code,l[k].id) acc=none):tu (acc++[((l[k].code,l[k].id),l[k].val)]) (l.take (k+1)):=by
 intro p;rw [UF,h p,SA hk]
 by_cases e:(l[k].code,l[k].id)=p
 ·subst e;rw [au rfl,au ⟨rfl,rfl⟩];rw [h] at hn
  cases hf:ng (l.take k) l[k].code l[k].id with
  | none=>rfl
  | some x=>rw [hf] at hn;cases hn
 rw [ah e,ah (fun h=>e (Prod.ext h.1 h.2))]
 cases ng (l.take k) p.1 p.2 <;> rfl
theorem tu.old {acc:List ((Int × Int) × aj)} {l:List bZ} {k:Nat} (h:tu acc (l.take k)) (hk:k < l.length) (hn:(lS (l[k].code,l[k].id) acc).isSome=true):tu acc (l.take (k+1)):=by
 intro p;rw [h p,SA hk]
 by_cases e:l[k].code=p.1∧l[k].id=p.2
 ·rw [h,Option.isSome_map] at hn;rw [e.1,e.2] at hn;obtain ⟨x,hx⟩:=Option.isSome_iff_exists.1 hn;rw [hx];rfl
 rw [ah e,Option.or_none]
structure iV where
 id:Int
 name:ByteArray
 ff:Int
 fa:Int
 tf:Int
 ta:Int
def iV.dat (x:iV):List Dat:=[li x.id,.lf (.string x.name),li x.ff,li x.fa,li x.tf,li x.ta]
abbrev iV.cells (x:iV):List aj:=[vi x.id,.string x.name,vi x.ff,vi x.fa,vi x.tf,vi x.ta]
theorem V5 {G:GH} {x:iV} {cs:List aj} (h:aW G x.dat cs):cs=x.cells:=by
 simp only [iV.dat,aW,av] at h
 obtain ⟨_,_,rfl,⟨rfl,_⟩,_,_,rfl,⟨rfl,_⟩,_,_,rfl,⟨rfl,_⟩,_,_,rfl,⟨rfl,_⟩,_,_,rfl,⟨rfl,_⟩,_,_,rfl,⟨rfl,_⟩,rfl⟩:=h
 rfl
theorem V6 (G:GH) (x:iV):aW G x.dat x.cells :=
 ⟨_,_,rfl,⟨rfl,rfl⟩,_,_,rfl,⟨rfl,rfl⟩,_,_,rfl,⟨rfl,rfl⟩,_,_,rfl,⟨rfl,rfl⟩,_,_,rfl,⟨rfl,rfl⟩,_,_,rfl,⟨rfl,rfl⟩,rfl⟩
def uT (l:List bZ) (c:Int) (a:bZ):Int × Int:=match ng l (c+1) a.id with
 | some e=>if e.flow=a.flow∧a.at_ < e.at_ then (e.flow,e.at_) else (a.flow,a.at_+1)
 | none=>(a.flow,a.at_+1)
def zN (l:List bZ) (c:Int) (a:bZ):iV:=⟨a.id,a.name,a.flow,a.at_+1,(uT l c a).1,(uT l c a).2⟩
def rH (l:List bZ) (c:Int) (a:bZ):Bool:=decide (a.code=c∧ng l c a.id=some a)
def jL (l:List bZ) (c:Int):List iV:=(l.filter (rH l c)).map (zN l c)
theorem V3 {l m:List bZ} {c:Int} {k:Nat} (hk:k < l.length):((l.take (k+1)).filter (rH m c)).map (zN m c)=((l.take k).filter (rH m c)).map (zN m c)++if rH m c l[k]=true then [zN m c l[k]] else []:=by
 rw [jF hk,List.filter_append,qy]
 congr 1
 by_cases h:rH m c l[k]=true
 ·rw [au h,List.filter_cons,au h];rfl
 rw [ah h,List.filter_cons,ah h];rfl
end
section
open Go.RowKit
section
variable {N:Nat} {D:List Deferred} {w0:World} {F:Nat→Prop} {G0 G:GH} {L Lo:OL} {T:List (Nat × aj)}
variable {r:Option Nat} {P:Program} {ops:Array Oper} {Q:Exit→Act→World→Prop} {rest:List Oper} {a:Act} {w:World}
variable {d:Nat} {ty:TypeId} {pos:String} {aK:Array Edge} {g:Option (Nat × Bool)}
end
end
section
open Go.RowKit
theorem Lf:∀ args w,(callFunc 34 args).run prog w=.ok (.enter 34 args) w:=enters func34 rfl (by kernel_rfl)
theorem Wh:oK prog 45 [(0,1),(1,1)] [.int .i64 0,.int .i64 0]:=⟨by kernel_rfl,by kernel_rfl⟩
theorem ahD:oK prog 47 [(0,1),(1,1),(2,1),(3,2)] [.int .i64 0,.int .i64 0,.string ⟨#[]⟩,.int .i64 0,.int .i64 0]:=⟨by kernel_rfl,by kernel_rfl⟩
theorem Ld:∀ args w,(callFunc 18 args).run prog w=.ok (.enter 18 args) w:=enters func18 rfl (by kernel_rfl)
def J7 (n:Nat):Prop:=∀ (fv:aj) (Gi:GH) (xs:List AP) (J:Nat→GH→OL→Prop) (G:GH) (L:OL) (w0:World) (j:Nat) (g:Int) (l:List ay) (v:aj),
 (∀ b o,Gi b=some o→G b=some o)→OZ prog fv Gi xs J→Bv J→J j G L→gH G L w0→av G (.sl 11 (l.map ay.dat)) v→gX l→bg l < n→(∀ i a,(fK g 0 l)[i]?=some a→xs[j+i]?=some (BJ a)) →
 Calls prog 34 #[vi g,v,fv] w0 (fT w0 G L fun _ G' L'=>J (j+(fK g 0 l).length) G' L')
set_option maxHeartbeats 4000000 in
theorem Yk {n:Nat} (ih:J7 n) (hn:n≤4294967296):J7 (n+1):=by
 intro fv Gi xs J G L w0 j0 g l v hGi hcb uj hJ0 hO hv hok hz hx0;obtain ⟨A,c,rfl,hc1,hc2,hg⟩:=hv.slice;rw [bX] at *;have hll:=Db l;have hml:maxLen=9223372036854775807:=rfl;refine jy (N:=83) (T:=[(0,_),(1,_),(2,_)]) func34 rfl ntmps34 rfl rfl hO ?_;intro a H;refine kP H (SR fun _ K1=>ak K1 rfl (SR fun _ K2=>Rm rfl (Rl gD rfl (Rm rfl (Kz K2 (SB ?_))))));clear H K1 K2;intro a H;skip;refine fJ (ι:=Nat × Nat × Nat × OL × GH) (Tc:=[(0,_),(1,_),(2,_),(15,_),(16,_)]) (Lc:=[]) (fun gh=>[(6,vi gh.2.1),(17,vi gh.1)]) (fun gh=>[]++gh.2.2.2.1) (fun gh=>gh.2.2.2.2) (fun gh=>gh.1≤l.length∧(∀ b o,G b=some o→gh.2.2.2.2 b=some o)∧gX (l.drop gh.1)∧gh.2.1+bg (l.drop gh.1)≤4294967297∧Now xs BJ J (j0+(fK g 0 l).length) gh.2.2.1 (fK g gh.2.1 (l.drop gh.1)) gh.2.2.2.2 gh.2.2.2.1) (fun gh=>l.length - gh.1) ((0,0,j0,L,G)) (by exact (H).sub ⟨rfl,rfl,rfl,rfl,rfl,rfl,rfl,aC⟩) ?_ ?_
 ·exact ⟨by omega,fun _ _ h=>h,hok,by dsimp only;rw [uQ];omega,⟨hJ0,hx0,rfl⟩⟩
 clear H;intro gh a w hI H;obtain ⟨k,t,j,Lt,g1⟩:=gh;dsimp only at hI H;obtain ⟨hk,hgm,hok1,hat,dR⟩:=hI;dsimp only [lca,bC] at H;refine kP H (SR fun _ K3=>Rc rfl (Kz K3 (SQ fun _ K4=>Cd rfl ?_ ?_))) <;> clear H K3
 ·intro h18 a H
  try have vo:=dT h18
  have hk2:k < l.length:=by omega
  obtain ⟨b,o,pA,pn,pc,dA,dn,dc,yA,yn,yc,fA,fn,fc,rA,rn,rc,rfl,hrow,hhd,hfl,hrw⟩:=yZ hk2 hg;replace hrow:=fun j u hj=>aL hgm (hrow j u hj);replace hfl:=hfl.mono hgm;replace hrw:=hrw.mono hgm;have hpart:=(hv.mono hgm).part k (k+1) (by omega) (by rw [bX];omega)
  have he1:((l.map ay.dat).drop k).take 1=[l[k]].map ay.dat:=by rw [mK (by simpa using hk2)];simp
  have hc3:¬ c=k:=by omega
  have hrn:=hrw.len;rw [bX] at hrn;subst hrn;have hzs:=aiA hk2;have hzi:=oH l[k];have Un:=J2 (jk hk2);have I4:=UZ l[k];rw [mK hk2] at hok1 dR;obtain ⟨hox,hok2⟩:=hok1.head;have hn1:=hox.n1;rw [fK,Qb] at dR;obtain ⟨x,hx⟩:∃ x,x=l[k]:=⟨_,rfl⟩;rw [← hx] at dR hox hrow hhd hfl hrw hzs hzi Un I4 he1 hn1;have hrl:=J3 x.rows;refine kP H (Kc K4 (SQ fun _ K5=>SB (SR fun _ K6=>Rm rfl (Ri gD dH rfl rfl ?_))));clear H K4;intro a H;refine bE dH (cs:=[_,_,_,_,_,_,_,_,_,_,_]) H wn rfl rfl (fun j v hj=>H.hp.aJ (hrow j v hj)) rfl ?_;clear H;intro a H;refine fq dH H wn rfl ?_;clear H;intro b8 a w Iz H;refine kH H (Ra rfl ?_);clear H;intro a H;refine bF dH 0 (vs:=[_,_,_,_,_,_,_,_,_,_,_]) _ H wn rfl rfl rfl rfl rfl rfl rfl rfl ?_;clear H;intro w H;dsimp only [List.set,setRow] at H;refine K6 _ _ ?_;clear K6;refine sD (ι:=Nat × OL × GH) (Tc:=[(0,_),(1,_),(2,_),(6,_),(7,_),(15,_),(16,_),(17,_)]) (Lc:=[(_,_)]) (fun gh=>[]) (fun gh=>[]++gh.2.1) (fun gh=>gh.2.2) (fun gh=>(∀ b o,g1 b=some o→gh.2.2 b=some o)∧Now xs BJ J (j0+(fK g 0 l).length) gh.1 (fK g (t+n1 x) (l.drop (k+1))) gh.2.2 gh.2.1) (by exact (H).sub ⟨rfl,rfl,rfl,rfl,rfl,rfl,rfl,rfl,aC⟩) ?_ ?_
  ·skip;refine kP H (SR fun _ K7=>aU jA aF 0 rfl rfl (Kz K7 (SB (SR fun _ K8=>Rc rfl (ak K8 rfl (Cd rfl ?_ ?_)))))) <;> clear H K7 K8
   ·intro dL a H
    try have jQ:=dT dL
    rw [au jQ,ah (by omega),ah (by omega)] at dR
    simp only [mJ,lG] at dR
    refine kP H (SC (Rm rfl (aU DR aF 0 rfl rfl (aU Ak aF 0 rfl rfl (aU uX gF 0 rfl rfl (Rm rfl (Rm rfl ?_)))))));clear H;intro a H;refine kr Wh [_,_] H wn rfl rfl rfl rfl ?_;clear H;intro a H;refine kr ahD [_,_,_,_,_] H wn rfl rfl rfl rfl ?_;clear H;intro a H;refine Eo (Li:=[_]) (L:=Lt) H wn rfl rfl (hcb _ _ _ _ _ ⟨_,dR.head,rfl⟩ (fun b o h=>hgm b o (hGi b o h)) dR.now (Hp.owns (Li:=[_]) H.hp)) rfl ?_;clear H;intro v37 Xt XQ a w adf adO H;have qJ:=dR.step adf;refine aI ?_;refine ⟨(j+1,XQ,Xt),by exact (H).sub ⟨rfl,rfl,rfl,rfl,rfl,rfl,rfl,rfl,aC⟩,?_⟩;(try dsimp only);exact ⟨adO,qJ⟩
   intro dL a H
   try have jQ:=dF dL
   rw [ah jQ,lG,qx] at dR;refine kP H (SR fun _ K9=>Rc rfl (ak K9 rfl (Cd rfl ?_ ?_))) <;> clear H K9
   ·intro nL a H
    try have p38:=dT nL
    rw [au p38,ah (by omega),lG] at dR;refine kP H (SC (aU Ak aF 0 rfl rfl (aU yV iG 0 rfl rfl (Rm rfl ?_))));clear H;intro a H;refine gB Lf (Li:=[_]) (L:=Lt) H wn rfl (ih fv Gi xs J _ _ _ j x.id x.flow _ (fun b o h=>hgm b o (hGi b o h)) hcb uj dR.now (Hp.owns (Li:=[_]) H.hp) hfl hox.fl (by omega) dR.part) rfl ?_;clear H;intro v45 Xu XR a w adg adQ H;have qJ:=dR.jump adg;refine aI ?_;refine ⟨(j+(fK x.id 0 x.flow).length,XR,Xu),by exact (H).sub ⟨rfl,rfl,rfl,rfl,rfl,rfl,rfl,rfl,aC⟩,?_⟩;(try dsimp only);exact ⟨adQ,qJ⟩
   intro nL a H
   try have p38:=dF nL
   rw [ah p38,lG] at dR;refine kP H (SR fun _ aT=>Rc rfl (ak aT rfl (Cd rfl ?_ ?_))) <;> clear H aT
   ·intro h46 a H
    try have p46:=dT h46
    rw [au p46] at dR;refine kP H (SR fun _ bD=>aU tY uK 0 rfl rfl (Rl nU rfl (Rm rfl (Kz bD (SB ?_)))));clear H bD;intro a H;skip;refine fJ (ι:=Nat × Nat × OL × GH) (Tc:=[(0,_),(1,_),(2,_),(6,_),(7,_),(15,_),(16,_),(17,_),(49,_),(50,_)]) (Lc:=[(_,_)]) (fun gh=>[(51,vi gh.1)]) (fun gh=>[]++gh.2.2.1) (fun gh=>gh.2.2.2) (fun gh=>gh.1≤x.rows.length∧(∀ b o,g1 b=some o→gh.2.2.2 b=some o)∧Now xs BJ J (j0+(fK g 0 l).length) gh.2.1 (qo (x.rows.drop gh.1)++fK g (t+n1 x) (l.drop (k+1))) gh.2.2.2 gh.2.2.1) (fun gh=>x.rows.length - gh.1) ((0,j,Lt,g1)) (by exact (H).sub ⟨rfl,rfl,rfl,rfl,rfl,rfl,rfl,rfl,rfl,rfl,rfl,aC⟩) ?_ ?_
    ·exact ⟨by omega,fun _ _ h=>h,dR⟩
    clear H;intro gh a w hI H;obtain ⟨rk,j3,Lt3,g3⟩:=gh;dsimp only at hI H;obtain ⟨Ni,hg3,qJ⟩:=hI;dsimp only [lca,bC] at H;refine kP H (SR fun _ bK=>Rc rfl (Kz bK (SQ fun _ bT=>Cd rfl ?_ ?_))) <;> clear H bK
    ·intro lZ a H
     try have p52:=dT lZ
     have hk3:rk < x.rows.length:=by omega
     obtain ⟨b2,o2,qA,qn,qc,eA,en,ec,zA,zn,zc,cA,cn,cc,rfl,hrow,Ck,hcl⟩:=Jo hk3 (hrw.mono hg3).at_;have hcn:=hcl.len;rw [bX] at hcn;subst hcn;have hsz2:=OT hk3;have hcs:=JZ x.rows[rk].cells;have hoc:=hox.rw _ (jk hk3);rw [mK hk3] at qJ
     simp only [qo,X5,qx] at qJ
     obtain ⟨y,hy⟩:∃ y,y=x.rows[rk]:=⟨_,rfl⟩;rw [← hy] at qJ hrow Ck hcl hsz2 hcs hoc;refine kP H (Kc bT (SQ fun _ bU=>SB (SR fun _ dM=>Ri nU kR rfl rfl ?_)));clear H bT;intro a H;refine bE kR (cs:=[_,_,_,_,_,_]) H wn rfl rfl (fun j v hj=>H.hp.aJ (hrow j v hj)) rfl ?_;clear H;intro a H;refine fq kR H wn rfl ?_;clear H;intro b10 a w MN H;refine bF kR 0 (vs:=[_,_,_,_,_,_]) _ H wn rfl rfl rfl rfl rfl rfl rfl rfl ?_;clear H;intro w H;dsimp only [List.set,setRow] at H;refine dM _ _ ?_;clear dM;refine kP H (SR fun _ dO=>aU yX zS 0 rfl rfl (Rl rQ rfl (Rm rfl (Kz dO (SB ?_)))));clear H dO;intro a H;skip;refine fJ (ι:=Nat × Nat × OL × GH) (Tc:=[(0,_),(1,_),(2,_),(6,_),(7,_),(15,_),(16,_),(17,_),(49,_),(50,_),(51,_),(56,_),(57,_)]) (Lc:=[(_,_),(_,_)]) (fun gh=>[(58,vi gh.1)]) (fun gh=>[]++gh.2.2.1) (fun gh=>gh.2.2.2) (fun gh=>gh.1≤y.cells.length∧(∀ b o,g3 b=some o→gh.2.2.2 b=some o)∧Now xs BJ J (j0+(fK g 0 l).length) gh.2.1 (qW (y.cells.drop gh.1)++(qo (x.rows.drop (rk+1))++fK g (t+n1 x) (l.drop (k+1)))) gh.2.2.2 gh.2.2.1) (fun gh=>y.cells.length - gh.1) ((0,j3,Lt3,g3)) (by exact (H).sub ⟨rfl,rfl,rfl,rfl,rfl,rfl,rfl,rfl,rfl,rfl,rfl,rfl,rfl,rfl,aC⟩) ?_ ?_
     ·exact ⟨by omega,fun _ _ h=>h,qJ⟩
     clear H;intro gh a w hI H;obtain ⟨ck,j4,Lt4,g4⟩:=gh;dsimp only at hI H;obtain ⟨hck,hg4,rF⟩:=hI;dsimp only [lca,bC] at H;refine kP H (SR fun _ dD=>Rc rfl (Kz dD (SQ fun _ eG=>Cd rfl ?_ ?_))) <;> clear H dD
     ·intro gU a H
      try have p59:=dT gU
      have hk4:ck < y.cells.length:=by omega
      obtain ⟨b3,o3,sA,sn,sc,tA,tn,tc,uA,un,uc,gA,gn,gc,rfl,hrow,hch,hcf⟩:=Hw hk4 (hcl.mono hg4).at_;have aer:=OQ hk4;have hoz:=hoc _ (jk hk4);rw [mK hk4] at rF
      simp only [qW,XW,qx] at rF
      refine kP H (Kc eG (SQ fun _ gM=>SB (SR fun _ fG=>Ri rQ mE rfl rfl ?_)));clear H eG;intro a H;refine bE mE (cs:=[_,_,_,_,_,_,_]) H wn rfl rfl (fun j v hj=>H.hp.aJ (hrow j v hj)) rfl ?_;clear H;intro a H;refine fq mE H wn rfl ?_;clear H;intro b12 a w Ay H;refine bF mE 0 (vs:=[_,_,_,_,_,_,_]) _ H wn rfl rfl rfl rfl rfl rfl rfl rfl ?_;clear H;intro w H;dsimp only [List.set,setRow] at H;refine fG _ _ ?_;clear fG;refine kP H (SC (aU Ii aF 0 rfl rfl (aU Fq iG 0 rfl rfl (Rm rfl ?_))));clear H;intro a H;refine gB Lf (Li:=[_,_,_]) (L:=Lt4) H wn rfl (ih fv Gi xs J _ _ _ j4 y.cells[ck].id y.cells[ck].flow _ (fun b o h=>hg4 b o (hg3 b o (hgm b o (hGi b o h)))) hcb uj rF.now (Hp.owns (Li:=[_,_,_]) H.hp) hcf hoz (by omega) rF.part) rfl ?_;clear H;intro v67 XE XT a w adh adW H;have aef:=rF.jump adh;refine kH H (Kn gM (SC (Rd rfl (Rm rfl ?_))));clear H gM;intro a H;refine aI ?_;refine dN ((ck+1,j4+(fK y.cells[ck].id 0 y.cells[ck].flow).length,XT,XE)) (by exact (H.dX (Pl:=[_,_,_]) (dz:=[_,_]) [1,2] (by decide) rfl).sub ⟨rfl,rfl,rfl,rfl,rfl,rfl,rfl,rfl,rfl,rfl,rfl,rfl,rfl,rfl,aC⟩) ?_ ?_
      ·(try dsimp only);exact ⟨by omega,fun b o h=>adW b o (hg4 b o h),aef⟩
      first|omega|(dsimp only;omega)
     intro gU a H
     try have p59:=dF gU
     refine eX ?_;refine bU _ _ ?_;clear bU;refine kP H (SC (Rd rfl (Rm rfl ?_)));clear H;intro a H;refine aI ?_;refine dN ((rk+1,j4,Lt4,g4)) (by exact (H.dX (Pl:=[_,_]) (dz:=[_]) [1] (by decide) rfl).sub ⟨rfl,rfl,rfl,rfl,rfl,rfl,rfl,rfl,rfl,rfl,rfl,aC⟩) ?_ ?_
     ·(try dsimp only);exact ⟨by omega,fun b o h=>hg4 b o (hg3 b o h),by rw [iK (by omega),qW,lG] at rF;exact rF⟩
     first|omega|(dsimp only;omega)
    intro lZ a H
    try have p52:=dF lZ
    refine eX ?_;refine ⟨(j3,Lt3,g3),by exact (H).sub ⟨rfl,rfl,rfl,rfl,rfl,rfl,rfl,rfl,aC⟩,?_⟩;(try dsimp only);exact ⟨hg3,by rw [iK (by omega),qo,lG] at qJ;exact qJ⟩
   intro h46 a H
   try have p46:=dF h46
   rw [ah p46,lG] at dR;refine gI ?_;refine ⟨(j,Lt,g1),by exact (H).sub ⟨rfl,rfl,rfl,rfl,rfl,rfl,rfl,rfl,aC⟩,?_⟩;(try dsimp only);exact ⟨fun _ _ h=>h,dR⟩
  clear H;intro gh a w hI H;obtain ⟨j2,Lt2,g2⟩:=gh;dsimp only at hI H;obtain ⟨hg2,aee⟩:=hI;dsimp only [lca,bC] at H;refine kP H (SR fun _ gN=>Rm rfl (Rm rfl (Rm rfl (Rd rfl ?_))));clear H;intro a H;refine agY gD dH k (k+1) H wn rfl rfl rfl rfl (by omega) (by omega) (by omega) rfl ?_;clear H;intro a H;rw [ah hc3,Option.map_some,add_lit,Kw] at H;refine s_call Ld H wn rfl (NA _ _ H.ro [x] _ (by have h:=hpart;rw [ah hc3,Option.map_some,add_lit,Kw,he1] at h;exact h.mono hg2) (by show 1+cK x.dat+0≤_;omega)) rfl ?_;clear H;rintro v76 G76 a w ⟨rfl,rfl⟩ - H;rw [afi] at H;refine kH H (Rm rfl ?_);clear H;intro a H;(iterate 2 refine jS H wn rfl rfl rfl ?_;clear H;intro a H);refine kH H (Ra rfl (ak gN rfl (SC (Rm rfl (Rm rfl (Rd rfl (aS K5 rfl (SC (Rd rfl (Rm rfl ?_))))))))));clear H gN K5;intro a H;refine aI ?_;refine dN ((k+1,t+n1 x,j2,Lt2,g2)) (by exact (H.dX (Pl:=[_]) (dz:=[]) [] (by decide) rfl).sub ⟨rfl,rfl,rfl,rfl,rfl,rfl,rfl,aC⟩) ?_ ?_
  ·(try dsimp only);exact ⟨by omega,fun b o h=>hg2 b o (hgm b o h),hok2,by omega,aee⟩
  first|omega|(dsimp only;omega)
 intro h18 a H
 try have vo:=dF h18
 refine eX ?_;refine (leave0 H results34 ?_).2;exact H.hp.gL (L':=Lt) (by repeat (first|exact iy _|apply List.Sublist.cons)) (by rw [iK (by omega),fK] at dR;have:=dR.len;simp only [List.length_nil,qX] at this;rw [← this];exact dR.now)
theorem Qm:∀ n:Nat,n≤4294967297→J7 n
 | 0,_=>fun _ _ _ _ _ _ _ _ _ _ _ _ _ _ _ _ _ _ h=>absurd h (by omega)
 | n+1,hn=>Yk (Qm n (by omega)) (by omega)
end
section
open Go.RowKit
theorem xE {G:GH} {b:Nat} {cs:List aj} {e:TypeId} {q:Nat × Nat} (h:G b=some (.cells cs.toArray e q)) (k:Nat) (ds:List aj) (hd:ds=(cs.drop k).take ds.length) (j:Nat) (v:aj) (hj:ds[j]?=some v):aJ G b (k+j)=some v:=by
 unfold aJ
 rw [h]
 show cs.toArray[k+j]?=some v
 rw [hd,rX] at hj
 split at hj
 ·simpa using hj
 cases hj
end
section
open Go.RowKit
theorem Ez:prog.underlying 41=some (.slice 47):=by kernel_rfl
theorem qd:Ty prog 47 5 48 [.int .i64 0,.int .i64 0,.string ⟨#[]⟩,.int .i64 0,.int .i64 0] true:=⟨by kernel_rfl,by kernel_rfl⟩
theorem JM:Ty prog 41 1 24 [.slice none 0 0] false:=⟨by kernel_rfl,by kernel_rfl⟩
theorem JQ:prog.underlying 129=some (.map 134 47):=by kernel_rfl
theorem LM:bO prog 47 0 0:=⟨by kernel_rfl⟩
theorem Ih:bO prog 47 1 1:=⟨by kernel_rfl⟩
theorem Oq:oK prog 134 [(0,1),(1,1)] [.int .i64 0,.int .i64 0]:=⟨by kernel_rfl,by kernel_rfl⟩
theorem JJ:Ty prog 134 2 16 [.int .i64 0,.int .i64 0] true:=⟨by kernel_rfl,by kernel_rfl⟩
theorem aaY:∀ args w,(callFunc 35 args).run prog w=.ok (.enter 35 args) w:=enters func35 rfl (by kernel_rfl)
def sj (l:List bZ):List aj:=(l.map bZ.cells).flatten
theorem Yf {l:List bZ} {k:Nat} (hk:k < l.length):sj (l.take (k+1))=sj (l.take k)++l[k].cells:=by
 unfold sj
 rw [jF hk,qy,List.flatten_append]
 simp
theorem Qi (G:GH):∀ l:List bZ,fI G 5 (l.map bZ.dat) (sj l)
 | []=>fI.nil
 | x :: l=>by
  have h1:fI G 5 [x.dat] x.cells:=by
   have:=(fI.nil (G:=G) (sz:=5)).snoc (q:=x.dat) (cs:=x.cells) (Yh G x) rfl
   simpa using this
  rw [eU,← List.singleton_append];exact h1.append (Qi G l)
def P6 (bo:Nat) (A:List bZ):Nat→GH→OL→Prop:=fun k _ L=>k≤A.length∧∃ v Lo,L=(bo,.cells #[v] 41 (0,0)) :: Lo∧dx 47 5 v k (sj (A.take k)) Lo
theorem afp (Gi:GH) (bo:Nat) (A:List bZ) (hA:A.length≤4294967296):OZ prog (.func (.func 35) #[] #[(aH bo 0)]) Gi (A.map BJ) (P6 bo A):=by
 rintro k args G L w0 ⟨p,hp,hargs⟩ hGi ⟨-,v,Lo,rfl,hrw⟩ hO;rw [qp] at hp;obtain ⟨x,hx,rfl⟩:=kU.1 hp;obtain ⟨hk,hxe⟩:=iW.1 hx;have ha:args=[x.val]:=hargs;subst ha;obtain ⟨vA,vc,rfl,-,-⟩:=hrw.shape;have hml:maxLen=9223372036854775807:=rfl;refine lH (caps:=[(aH bo 0)]) aaY ?_;refine jy (N:=7) (T:=[(0,_),(1,_)]) func35 rfl ntmps35 rfl rfl hO ?_;intro a H;refine dw (fun _ K1=>?_);refine fu (cs:=[_,_,_,_,_]) H wn rfl rfl rfl ?_;clear H;intro b2 a w hb2 H;refine K1 _ _ ?_;clear K1;refine kP H (SC (Ro JM 1 rfl ?_));clear H;intro a H;refine bE qd (cs:=[_,_,_,_,_]) H wn rfl rfl (H.hp.eF 0 rfl rfl) rfl ?_;clear H;intro a H;refine gV Ez qd [_,_,_,_,_] [_,_,_,_,_] H wn rfl rfl rfl rfl rfl (by intro i q h;match i,h with|0,h=>exact h|n+1,h=>simp at h) rfl rfl ?_;clear H;intro b5 a w hb5 H;refine pX (Li:=[_,_,_]) (Lo:=Lo) (news:=x.cells) Ez qd rfl rfl H wn rfl rfl hrw rfl (H.hp.eF 0 rfl rfl) rfl (by omega) (by omega) rfl ?_;clear H;intro v6 PZ a w T9 H;obtain ⟨v6A,v6c,rfl,-,-⟩:=T9.shape;refine bF JM 2 (vs:=[_]) _ H wn rfl rfl rfl rfl rfl rfl rfl rfl ?_;clear H;intro w H;dsimp only [List.set,setRow] at H;refine aI ?_;refine (leave0 H results35 ?_).2;exact H.hp.gL (L':=(bo,.cells #[.slice v6A (k+1) v6c] 41 (0,0)) :: PZ) (by repeat (first|exact iy _|apply List.Sublist.cons)) ⟨hk,_,PZ,rfl,by rw [Yf hk,hxe];exact T9⟩
theorem afq (G:GH) (w0:World) (hG:Hold G w0) (D:mH) (l:List ay) (hv:av G (.sl 11 (l.map ay.dat)) (fD D.f)) (hok:gX l) (hz:bg l≤4294967296) :
  Calls prog 11 #[D.val] w0 (bA w0 G fun u G'=>av G' (.sl 5 ((fK 0 0 l).map bZ.dat)) u):=by
 have hn:=Dq 0 0 l;refine eN [(0,_)] func11 rfl ntmps11 rfl rfl hG ?_;intro a H;refine dw (fun _ K1=>?_);refine fu (cs:=[_,_,_,_,_,_,_,_,_,_,_]) H wn rfl rfl rfl ?_;clear H;intro b1 a w hb1 H;refine kH H (ak K1 rfl (SQ fun _ K2=>?_));clear H K1;intro a H;obtain ⟨Ga,hma,hb',H⟩:=H.dJ;have hga:=fun j v hj=>xE hb' 0 D.cells rfl j v hj;replace hv:=hv.mono hma;refine nJ ?_;refine fq JM H wn rfl ?_;clear H;intro b3 a w hb3 H;refine kH H (Kn K2 (SR fun _ K3=>Rf DL rfl (Rg iG rfl (hga 0 _ rfl) ?_)));clear H K2;intro a H;refine oV H wn rfl rfl ?_;clear H;intro a H;refine gB Lf (Li:=[]) (L:=[(b3,.cells #[.slice none 0 0] 41 (0,0))]) H wn rfl (Qm 4294967297 (by omega) _ Ga ((fK 0 0 l).map BJ) (P6 b3 (fK 0 0 l)) _ _ _ 0 0 l _ (fun _ _ h=>h) (afp Ga b3 (fK 0 0 l) (by omega)) (fun _ _ _ _ _ h=>h) ⟨jf _,_,[],rfl,dx.nil⟩ (Hp.owns (Li:=[]) H.hp) hv hok (by omega) (fun i a h=>by rw [jN,qp,h];rfl)) rfl ?_;clear H;rintro v7 G7 L7 a w ⟨-,v,Lo,rfl,hrw⟩ zC H;rw [jN,Ah] at hrw;dsimp only [List.nil_append] at H;refine K3 _ _ ?_;clear K3;refine kP H (SR fun _ K4=>Ro JM 0 rfl (ak K4 rfl ?_));clear H K4;intro a H;refine lr H results11 rfl ?_;obtain ⟨Gr,hmr,hrep,H⟩:=St.vg (Li:=[_]) H hrw (rows:=(fK 0 0 l).map bZ.dat) (by simp) (Qi _ _);exact H.rt hrep
theorem H9:yC prog 134 [0,1]:=⟨by kernel_rfl,by kernel_rfl,by kernel_rfl,by kernel_rfl,by kernel_rfl⟩
def Bl:bZ:=⟨0,0,⟨#[]⟩,0,0⟩
theorem NG {acc:List ((Int × Int) × aj)} {l:List bZ} (h:tu acc l) (p:Int × Int):(lS p acc).getD Bl.val=((ng l p.1 p.2).getD Bl).val:=by
 rw [h p];cases ng l p.1 p.2 <;> rfl
theorem Qh {G:GH} {A:List bZ} {v:Option Addr} {n c k:Nat} (h:av G (.sl 5 (A.map bZ.dat)) (.slice v n c)) (hk:k < A.length):∃ b o,v=some ⟨b,o,none⟩∧∀ j u,A[k].cells[j]?=some u→aJ G b (o+k*5+j)=some u:=by
 obtain ⟨b,o,cs,rfl,hcl,hrow,hr⟩:=h.at_ k A[k].dat (by simp [hk]);obtain rfl:=Yg hr;exact ⟨b,o,rfl,hrow⟩
set_option maxHeartbeats 1000000 in
theorem acJ (G:GH) (w0:World) (hG:Hold G w0) (A:List bZ) (v:aj) (hv:av G (.sl 5 (A.map bZ.dat)) v) (hl:A.length≤4294967296) :
  Calls prog 51 #[v] w0 (bA w0 G fun u G'=>∃ b acc,u=.map (some b)∧G' b=some (AU acc)∧tu acc A):=by
 obtain ⟨vA,n,c,rfl⟩:=hv.form;have hn:=hv.len;rw [bX] at hn;subst hn;have hml:maxLen=9223372036854775807:=rfl;refine eN [(0,_)] func51 rfl ntmps51 rfl rfl hG ?_;intro a H;refine kP H (SR fun _ K1=>ak K1 rfl (SR fun _ K2=>?_));clear H K1;intro a H;refine CV H wn rfl ?_;clear H;intro b9 a w xI H;refine kH H (ak K2 rfl (SQ fun _ K3=>SR fun _ K4=>Rm rfl (Rl Ez rfl (Rm rfl (Kz K4 (SB ?_))))));clear H K2 K4;intro a H;skip;refine fJ (ι:=Nat × List ((Int × Int) × aj)) (Tc:=[(3,_),(10,_),(11,_)]) (Lc:=[]) (fun (gh:Nat × List ((Int × Int) × aj))=>[(12,vi gh.1)]) (fun (gh:Nat × List ((Int × Int) × aj))=>[(b9,AU gh.2)]) (fun (gh:Nat × List ((Int × Int) × aj))=>G) (fun (gh:Nat × List ((Int × Int) × aj))=>gh.1≤A.length∧tu gh.2 (A.take gh.1)) (fun (gh:Nat × List ((Int × Int) × aj))=>A.length - gh.1) ((0,[])) (by exact (H).sub ⟨rfl,rfl,rfl,rfl,aC⟩) ?_ ?_
 ·exact ⟨jf _,tu.nil⟩
 clear H;intro gh a w hI H;obtain ⟨k,acc⟩:=gh;dsimp only at hI H;obtain ⟨hk,hfm⟩:=hI;dsimp only [lca,bC] at H;refine kP H (SR fun _ K5=>Rc rfl (Kz K5 (SQ fun _ K6=>Cd rfl ?_ ?_))) <;> clear H K5
 ·intro eu a H
  try have oD:=dT eu
  have hk2:k < A.length:=by omega
  obtain ⟨b,o,rfl,hrow⟩:=Qh hv hk2;refine kP H (Kc K6 (SQ fun _ K7=>SB (SR fun _ K8=>Ri Ez qd rfl rfl ?_)));clear H K6;intro a H;refine bE qd (cs:=A[k].cells) H wn rfl rfl (fun j v hj=>H.hp.aJ (hrow j v hj)) rfl ?_;clear H;intro a H;refine fq qd H wn rfl ?_;clear H;intro b5 a w hb5 H;refine bF qd 0 (vs:=[_,_,_,_,_]) _ H wn rfl rfl rfl rfl rfl rfl rfl rfl ?_;clear H;intro w H;dsimp only [List.set,setRow] at H;refine K8 _ _ ?_;clear K8;refine kP H (SR fun _ K9=>aU LM aF 0 rfl rfl (aU Ih aF 0 rfl rfl ?_));clear H;intro a H;refine kr Oq [_,_] H wn rfl rfl rfl rfl ?_;clear H;intro a H;refine fq JJ H wn rfl ?_;clear H;intro b6 a w hb6 H;refine bF JJ 0 (vs:=[_,_]) _ H wn rfl rfl rfl rfl rfl rfl rfl rfl ?_;clear H;intro w H;dsimp only [List.set,setRow] at H;refine K9 _ _ ?_;clear K9;refine kP H (SR fun _ aT=>Rm rfl ?_);clear H;intro a H;refine bE JJ (cs:=[_,_]) H wn rfl rfl (H.hp.eF 0 rfl rfl) rfl ?_;clear H;intro a H;refine VB (ky:=(A[k].code,A[k].id)) (zv:=Bl.val) (l:=acc) JQ H9 (by kernel_rfl) H wn rfl rfl (H.hp.own (b9,AU acc) (by simp)) rfl ?_;clear H;intro a H;rw [NG hfm] at H;refine kH H (Rm rfl ?_);clear H;intro a H;(iterate 2 refine jS H wn rfl rfl rfl ?_;clear H;intro a H);refine fq qd H wn rfl ?_;clear H;intro b7 a w DZ H;refine bF qd 0 (vs:=[_,_,_,_,_]) _ H wn rfl rfl rfl rfl rfl rfl rfl rfl ?_;clear H;intro w H;dsimp only [List.set,setRow] at H;refine kH H (ak aT rfl (SR fun _ bD=>Rm rfl (Rn rfl (Kz bD (Cd rfl ?_ ?_))))) <;> clear H aT bD
  ·intro eO a H
   try have p28:=dT eO
   have hnone:lS (A[k].code,A[k].id) acc=none:=by simpa using eO
   refine kP H (SC (Rm rfl ?_));clear H;intro a H;refine bE JJ (cs:=[_,_]) H wn rfl rfl (H.hp.eF 1 rfl rfl) rfl ?_;clear H;intro a H;refine bE qd (cs:=[_,_,_,_,_]) H wn rfl rfl (H.hp.eF 2 rfl rfl) rfl ?_;clear H;intro a H;refine agV (i:=3) (l:=acc) (ky:=(A[k].code,A[k].id)) (v:=A[k].val) JQ H9 H wn rfl rfl rfl rfl hnone ?_;clear H;intro w H;dsimp only [List.set] at H;refine kH H (Kn K7 (SC (Rd rfl (Rm rfl ?_))));clear H K7;intro a H;refine aI ?_;refine dN ((k+1,acc++[((A[k].code,A[k].id),A[k].val)])) (by exact (H.dX (Pl:=[_,_,_,_]) (dz:=[_]) [3] (by decide) rfl).sub ⟨rfl,rfl,rfl,rfl,aC⟩) ?_ ?_
   ·(try dsimp only);exact ⟨by omega,hfm.new hk2 hnone⟩
   first|omega|(dsimp only;omega)
  intro eO a H
  try have p28:=dF eO
  refine kP H (Kc K7 (SC (Rd rfl (Rm rfl ?_))));clear H K7;intro a H;refine aI ?_;refine dN ((k+1,acc)) (by exact (H.dX (Pl:=[_,_,_,_]) (dz:=[_]) [3] (by decide) rfl).sub ⟨rfl,rfl,rfl,rfl,aC⟩) ?_ ?_
  ·(try dsimp only);exact ⟨by omega,hfm.old hk2 (by simpa using eO)⟩
  first|omega|(dsimp only;omega)
 intro eu a H
 try have oD:=dF eu
 obtain rfl:k=A.length:=by omega
 rw [Ah] at hfm;refine eX ?_;refine K3 _ _ ?_;clear K3;refine kP H (SR fun _ bK=>Rm rfl (ak bK rfl ?_));clear H bK;intro a H;refine lr H results51 rfl ?_;obtain ⟨Gr,hmr,hbr,H⟩:=H.dJ;exact H.rt ⟨_,acc,rfl,hbr,hfm⟩
end
section
open Go.RowKit
def jg (xs:Array aj) (o:Nat × Nat):Option (Int × Int × List UInt8):=match o.2 with
 | 0=>(jB xs o.1).map fun n=>(n,0,[])
 | 1=>match xs[o.1]? with|some (.string s)=>some (0,0,s.toList)|_=>none
 | _=>match jB xs o.1,jB xs (o.1+1) with|some a,some b=>some (a,b,[])|_,_=>none
def Va (P:Program) (t:TypeId):Bool:=!P.stoodInHeld t && decide ((P.fieldsOf t).toList.map (·.offset)=[0,1]) && ((P.fieldsOf t).toList.all fun f=>decide (f.name ≠ "_") && P.plainKey f.type && FZ (P.underlying f.type)) && decide (P.cellsOf t=2) && (P.info? t).isSome
def wG (P:Program) (t:TypeId):Nat:=match P.underlying t with|some (.int .i64)=>0|some .string=>1|some (.struct _)=>2|_=>3
def NK (P:Program) (t:TypeId):Bool:=match wG P t with|0=>P.plainKey t|1=>P.plainKey t|2=>Va P t|_=>false
structure GA (P:Program) (t:TypeId) (eZ:List (Nat × Nat)):Prop where
 und:P.underlying t=some (.struct (P.fieldsOf t))
 held:P.stoodInHeld t=false
 guard:P.eqGuardType P.depth t=false
 sK:(P.fieldsOf t).toList.map (fun f=>(f.offset,wG P f.type))=eZ
 ok:(P.fieldsOf t).toList.all (fun f=>decide (f.name ≠ "_") && NK P f.type)=true
theorem ahV {P:Program} {t:TypeId} {fs:Array Field} (h:P.underlying t=some (.struct fs)):P.underlying t=some (.struct (P.fieldsOf t)):=by
 rw [h]
 simp [Program.fieldsOf,h]
theorem Vx {P:Program} (w:World) {t:TypeId} {fs:Array Field} (hu:P.underlying t=some (.struct fs)) {i:TypeInfo} (hi:P.info? t=some i) (hc:P.cellsOf t=2) (xs:Array aj) (off:Nat):(part t xs off).run P w=.ok (.agg (xs.extract off (off+2))) w:=by
 unfold part
 simp [isAgg,bW,run_underlying hu,run_sizeOf w hi,hc]
theorem Il {xs:Array aj} {o:Nat} {n:Int} (h:jB xs o=some n):xs[o]?=some (.int .i64 n):=by
 unfold jB at h
 split at h
 ·rename_i hx;cases h;exact hx
 ·cases h
theorem SE {xs:Array aj} {off:Nat} {a b:Int} (h1:jB xs off=some a) (h2:jB xs (off+1)=some b):jB (xs.extract off (off+2)) 0=some a∧jB (xs.extract off (off+2)) 1=some b:=by
 have e1:=Il h1
 have e2:=Il h2
 have hl:off+1 < xs.size:=(Array.getElem?_eq_some_iff.1 e2).1
 constructor
 ·unfold jB
  rw [Array.getElem?_extract,au (by omega),qX,e1]
 ·unfold jB
  rw [Array.getElem?_extract,au (by omega),e2]
theorem Oa {P:Program} {w:World} {d:Nat} {xs ys:Array aj}:∀ fs:List Field,fs.all (fun f=>decide (f.name ≠ "_") && NK P f.type)=true →
  (fs.map (fun f=>(f.offset,wG P f.type))).all (fun o=>(jg xs o).isSome && (jg ys o).isSome)=true→(Op.eqFields (d+2) xs ys fs).run P w=.ok ((fs.map (fun f=>(f.offset,wG P f.type))).all fun o=>jg xs o == jg ys o) w
 | [],_,_=>by simp [Op.eqFields]
 | f :: fs,h1,h2=>by
  simp only [List.all_cons,kG,nY,eU] at h1 h2
  obtain ⟨⟨hn,hk⟩,h1⟩:=h1
  obtain ⟨⟨hx,hy⟩,h2⟩:=h2
  have ih:=Oa (w:=w) (d:=d) fs (by simpa using h1) h2
  have fin:∀ (x y:aj) (r:Bool),(part f.type xs f.offset).run P w=.ok x w→(part f.type ys f.offset).run P w=.ok y w→(Op.equalIn (d+2) f.type x y).run P w=.ok r w→(jg xs (f.offset,wG P f.type) == jg ys (f.offset,wG P f.type))=r →
    (Op.eqFields (d+2) xs ys (f :: fs)).run P w=.ok (((f :: fs).map (fun f=>(f.offset,wG P f.type))).all fun o=>jg xs o == jg ys o) w:=by
   intro x y r p1 p2 p3 p4
   simp only [Op.eqFields,hn,ne_eq,not_false_eq_true,if_true,bW,p1,p2,jE,p3,eU,List.all_cons,p4]
   cases r with
   | true=>simp [ih,List.all_map]
   | false=>simp
  unfold NK at hk
  rcases hkd:wG P f.type with _|_|_|n
  ·rw [hkd] at hk hx hy
   have hu:P.underlying f.type=some (.int .i64):=by unfold wG at hkd;split at hkd <;> first|assumption|cases hkd
   obtain ⟨m,hm⟩:∃ m,jB xs f.offset=some m:=by cases h:jB xs f.offset with|some m=>exact ⟨m,rfl⟩|none=>simp [jg,h] at hx
   obtain ⟨m2,hm2⟩:∃ m,jB ys f.offset=some m:=by cases h:jB ys f.offset with|some m=>exact ⟨m,rfl⟩|none=>simp [jg,h] at hy
   refine fin _ _ _ (run_part_plain w hk (Il hm)) (run_part_plain w hk (Il hm2)) (run_equalIn_int w (d+1) f.type .i64 .i64 m m2 hu) ?_
   rw [hkd,nI]
   simp [jg,hm,hm2]
  ·rw [hkd] at hk hx hy
   have hu:P.underlying f.type=some .string:=by unfold wG at hkd;split at hkd <;> first|assumption|cases hkd
   obtain ⟨m,hm⟩:∃ m,xs[f.offset]?=some (.string m):=by
    simp only [jg] at hx
    split at hx
    ·rename_i s hs;exact ⟨s,hs⟩
    ·cases hx
   obtain ⟨m2,hm2⟩:∃ m,ys[f.offset]?=some (.string m):=by
    simp only [jg] at hy
    split at hy
    ·rename_i s hs;exact ⟨s,hs⟩
    ·cases hy
   refine fin _ _ _ (run_part_plain w hk hm) (run_part_plain w hk hm2) (run_equalIn_string w (d+1) f.type m m2 hu) ?_
   rw [hkd,nI]
   simp [jg,hm,hm2]
  ·rw [hkd] at hk hx hy
   obtain ⟨gs,hu⟩:∃ gs,P.underlying f.type=some (.struct gs):=by
    unfold wG at hkd
    split at hkd
    ·cases hkd
    ·cases hkd
    ·rename_i gs hg;exact ⟨gs,hg⟩
    ·cases hkd
   simp only [Va,kG,qY,nY] at hk
   obtain ⟨⟨⟨⟨k1,k2⟩,k3⟩,k4⟩,k5⟩:=hk
   obtain ⟨inf,Ti⟩:=Option.isSome_iff_exists.1 k5
   obtain ⟨a,b,ha,hb⟩:∃ a b,jB xs f.offset=some a∧jB xs (f.offset+1)=some b:=by
    simp only [jg] at hx
    split at hx
    ·rename_i a b h1 h2;exact ⟨a,b,h1,h2⟩
    ·cases hx
   obtain ⟨a',b',ha',hb'⟩:∃ a b,jB ys f.offset=some a∧jB ys (f.offset+1)=some b:=by
    simp only [jg] at hy
    split at hy
    ·rename_i a b h1 h2;exact ⟨a,b,h1,h2⟩
    ·cases hy
   obtain ⟨e1,e2⟩:=SE ha hb
   obtain ⟨e3,e4⟩:=SE ha' hb'
   have hq:=N9 (P:=P) (w:=w) (d:=d) (xs:=xs.extract f.offset (f.offset+2)) (ys:=ys.extract f.offset (f.offset+2)) _ (by simpa only [kF,kG,nY] using k3) (by rw [k2];simp [e1,e2,e3,e4])
   rw [k2] at hq
   refine fin _ _ _ (Vx w hu Ti k4 xs f.offset) (Vx w hu Ti k4 ys f.offset) ((run_equalIn_struct w (d+1) f.type _ _ (ahV hu) k1).trans hq) ?_
   rw [hkd,nI]
   simp [jg,ha,hb,ha',hb',e1,e2,e3,e4]
  ·rw [hkd] at hk;cases hk
section
variable {N:Nat} {D:List Deferred} {w0:World} {F:Nat→Prop} {G0 G:GH} {L:List (Nat × Obj)} {T:List (Nat × aj)}
variable {r:Option Nat} {P:Program} {ops:Array Oper} {Q:Exit→Act→World→Prop} {rest:List Oper} {a:Act} {w:World}
variable {d:Nat} {ty:TypeId} {pos:String} {aK:Array Edge} {g:Option (Nat × Bool)}
theorem agP {t yt:TypeId} {eZ:List (Nat × Nat)} (he:GA P t eZ) {x y:Operand} {xs ys:Array aj} (H:St N D w0 F G0 G L T a w) (hw:Region.wanted ⟨some d,.binOp .eql t x y yt,ty,pos,aK,g⟩ (yielded ops a.tmps)=true) (hx:ev T x=some (.agg xs)) (hy:ev T y=some (.agg ys))
  (hi:eZ.all (fun o=>(jg xs o).isSome && (jg ys o).isSome)=true) (hd:Nat.blt d N=true)
  (k:∀ a',St N D w0 F G0 G L ((d,.bool (eZ.all fun o=>jg xs o == jg ys o)) :: T) a' w→WL r P ops Q rest a' w):WL r P ops Q (⟨some d,.binOp .eql t x y yt,ty,pos,aK,g⟩ :: rest) a w:=by
 have h1:=Oa (P:=P) (w:=w) (d:=9997) (xs:=xs) (ys:=ys) _ he.ok (by rw [he.sK];exact hi)
 rw [he.sK] at h1
 refine fE (v:=.bool (eZ.all fun o=>jg xs o == jg ys o)) (w':=w) hw rfl ?_ (k _ (H.put hd _ H.hp))
 simp only [execOp,H.ev hx,H.ev hy,bW,run_eqGuard_agg w .eql t x y xs ys he.guard,jE,run_eql_struct,run_equalIn_struct w 9999 t xs ys he.und he.held,h1]
 rfl
theorem agT {t yt:TypeId} {eZ:List (Nat × Nat)} (he:GA P t eZ) {x y:Operand} {xs ys:Array aj} (H:St N D w0 F G0 G L T a w) (hw:Region.wanted ⟨some d,.binOp .neq t x y yt,ty,pos,aK,g⟩ (yielded ops a.tmps)=true) (hx:ev T x=some (.agg xs)) (hy:ev T y=some (.agg ys))
  (hi:eZ.all (fun o=>(jg xs o).isSome && (jg ys o).isSome)=true) (hd:Nat.blt d N=true)
  (k:∀ a',St N D w0 F G0 G L ((d,.bool (!(eZ.all fun o=>jg xs o == jg ys o))) :: T) a' w→WL r P ops Q rest a' w):WL r P ops Q (⟨some d,.binOp .neq t x y yt,ty,pos,aK,g⟩ :: rest) a w:=by
 have h1:=Oa (P:=P) (w:=w) (d:=9997) (xs:=xs) (ys:=ys) _ he.ok (by rw [he.sK];exact hi)
 rw [he.sK] at h1
 refine fE (v:=.bool (!(eZ.all fun o=>jg xs o == jg ys o))) (w':=w) hw rfl ?_ (k _ (H.put hd _ H.hp))
 simp only [execOp,H.ev hx,H.ev hy,bW,run_eqGuard_agg w .neq t x y xs ys he.guard,jE,run_neq_struct,run_equalIn_struct w 9999 t xs ys he.und he.held,h1]
 rfl
end
end
section
open Go.RowKit
theorem pq:prog.underlying 49=some (.slice 55):=by kernel_rfl
theorem ku:Ty prog 55 6 56 [.int .i64 0,.string ⟨#[]⟩,.int .i64 0,.int .i64 0,.int .i64 0,.int .i64 0] true:=⟨by kernel_rfl,by kernel_rfl⟩
theorem aan:∀ args w,(callFunc 11 args).run prog w=.ok (.enter 11 args) w:=enters func11 rfl (by kernel_rfl)
theorem abg:∀ args w,(callFunc 51 args).run prog w=.ok (.enter 51 args) w:=enters func51 rfl (by kernel_rfl)
theorem acp:bO prog 47 2 2:=⟨by kernel_rfl⟩
theorem BP:bO prog 47 3 3:=⟨by kernel_rfl⟩
theorem JN:Ty prog 45 2 16 [.int .i64 0,.int .i64 0] true:=⟨by kernel_rfl,by kernel_rfl⟩
theorem Ot:oK prog 55 [(0,1),(1,1),(2,2),(4,2)] [.int .i64 0,.string ⟨#[]⟩,.int .i64 0,.int .i64 0,.int .i64 0,.int .i64 0]:=⟨by kernel_rfl,by kernel_rfl⟩
theorem yU:bO prog 55 2 2:=⟨by kernel_rfl⟩
theorem tX:bO prog 45 1 1:=⟨by kernel_rfl⟩
theorem BQ:bO prog 55 3 4:=⟨by kernel_rfl⟩
theorem DN:bO prog 45 0 0:=⟨by kernel_rfl⟩
mutual
theorem X8 (g:Int) (t:Nat):∀ (x:ay) (a:bZ),a∈yI g t x→0≤a.at_∧a.at_≤(t+cK x.dat:Nat)
 | .mk k c i tx h fl r,a,ha=>by
  have h4:=oH (.mk k c i tx h fl r);dsimp only [ay.text,ay.head,ay.flow,ay.rows] at h4;rw [yI] at ha
  rcases lV.1 ha with ha|ha
  ·split at ha
   ·rw [qw.1 ha];dsimp only;omega
   cases ha
  rcases lV.1 ha with ha|ha
  ·split at ha
   ·have:=Hf i 0 fl a ha;omega
   cases ha
  split at ha
  ·have:=Qe r a ha;omega
  cases ha
theorem Hf (g:Int):∀ (t:Nat) (l:List ay) (a:bZ),a∈fK g t l→0≤a.at_∧a.at_≤(t+bg l:Nat)
 | _,[],a,ha=>by rw [fK] at ha;cases ha
 | t,x :: l,a,ha=>by
  have h1:=UZ x;rw [fK] at ha
  have hz:cK x.dat+bg l≤bg (x :: l):=by simp only [bg,eU,dZ];omega
  rcases lV.1 ha with ha|ha
  ·have:=X8 g t x a ha;omega
  have:=Hf g (t+n1 x) l a ha;omega
theorem Qe:∀ (l:List bR) (a:bZ),a∈qo l→0≤a.at_∧a.at_≤(gT l:Nat)
 | [],a,ha=>by rw [qo] at ha;cases ha
 | x :: l,a,ha=>by
  rw [qo] at ha
  have hz:cK x.dat+gT l≤gT (x :: l):=by simp only [gT,eU,dZ];omega
  rcases lV.1 ha with ha|ha
  ·have:=X9 x a ha;omega
  have:=Qe l a ha;omega
theorem X9:∀ (x:bR) (a:bZ),a∈yJ x→0≤a.at_∧a.at_≤(cK x.dat:Nat)
 | .mk h cs,a,ha=>by
  have h4:=zZ (.mk h cs);dsimp only [bR.head,bR.cells] at h4;rw [yJ] at ha;have:=Qd cs a ha
  omega
theorem Qd:∀ (l:List bQ) (a:bZ),a∈qW l→0≤a.at_∧a.at_≤(iX l:Nat)
 | [],a,ha=>by rw [qW] at ha;cases ha
 | x :: l,a,ha=>by
  rw [qW] at ha
  have hz:cK x.dat+iX l≤iX (x :: l):=by simp only [iX,eU,dZ];omega
  rcases lV.1 ha with ha|ha
  ·have:=X7 x a ha;omega
  have:=Qd l a ha;omega
theorem X7:∀ (x:bQ) (a:bZ),a∈yH x→0≤a.at_∧a.at_≤(cK x.dat:Nat)
 | .mk i h fl,a,ha=>by
  have h4:=zY (.mk i h fl);dsimp only [bQ.head,bQ.flow] at h4;rw [yH] at ha;have:=Hf i 0 fl a ha
  omega
end
theorem abH:GA prog 47 [(0,0),(1,0),(2,1),(3,2)]:=⟨by kernel_rfl,by kernel_rfl,by kernel_rfl,by kernel_rfl,by kernel_rfl⟩
theorem Qv {a b:ByteArray} (h:a.toList=b.toList):a=b:=by
 rw [ByteArray.toList_eq,ByteArray.toList_eq] at h
 cases a;cases b
 simpa using h
theorem Yi (x y:bZ):([(0,0),(1,0),(2,1),(3,2)].all fun o=>jg (#[vi x.code,vi x.id,.string x.name,vi x.flow,vi x.at_]:Array aj) o == jg (#[vi y.code,vi y.id,.string y.name,vi y.flow,vi y.at_]:Array aj) o)=decide (x=y):=by
 rw [nI,decide_eq_true_iff,← bZ.eq_iff]
 simp [jg,jB]
 intro _ _ _ _;exact ⟨Qv,fun h=>by rw [h]⟩
theorem Yj {acc:List ((Int × Int) × aj)} {A:List bZ} {c:Int} {x:bZ} (_h:tu acc A) (hc:¬ ¬ x.code=c) (hm:x∈A):(!decide ((ng A c x.id).getD Bl=x))=!rH A c x:=by
 have hc:=mY.1 hc
 have hs:(ng A c x.id).isSome=true:=by
  unfold ng
  rw [List.find?_isSome];exact ⟨x,hm,by simp [hc]⟩
 obtain ⟨y,hy⟩:=Option.isSome_iff_exists.1 hs
 unfold rH
 rw [hy]
 simp [hc]
theorem LC {A:List bZ} {c:Int} {x:bZ} (h:match ng A (c+1) x.id with|some e=>¬ (e.flow=x.flow∧x.at_ < e.at_)|none=>True):uT A c x=(x.flow,x.at_+1):=by
 unfold uT
 cases hf:ng A (c+1) x.id with
 | none=>rfl
 | some e=>rw [hf] at h;dsimp only;rw [ah h]
theorem abG {A:List bZ} {c:Int} {x e:bZ} (h:ng A (c+1) x.id=some e∧e.flow=x.flow∧x.at_ < e.at_):uT A c x=(e.flow,e.at_):=by
 unfold uT
 rw [h.1];dsimp only;rw [au h.2]
def xY (l:List iV):List aj:=(l.map iV.cells).flatten
theorem ahx (l:List iV) (x:iV):xY (l++[x])=xY l++x.cells:=by
 unfold xY
 rw [qy,List.flatten_append]
 simp
theorem Oo (G:GH):∀ l:List iV,fI G 6 (l.map iV.dat) (xY l)
 | []=>fI.nil
 | x :: l=>by
  have h1:fI G 6 [x.dat] x.cells:=by
   have:=(fI.nil (G:=G) (sz:=6)).snoc (q:=x.dat) (cs:=x.cells) (V6 G x) rfl
   simpa using this
  rw [eU,← List.singleton_append];exact h1.append (Oo G l)
def uH (A:List bZ) (c:Int) (k:Nat):List iV:=((A.take k).filter (rH A c)).map (zN A c)
theorem VZ {A:List bZ} {c:Int} {k:Nat} (hk:k < A.length) (h:rH A c A[k]=false):uH A c (k+1)=uH A c k:=by
 unfold uH;rw [V3 hk,ah (by rw [h];decide),tH]
theorem ahy {A:List bZ} {c:Int} {k:Nat} (hk:k < A.length) (h:rH A c A[k]=true):uH A c (k+1)=uH A c k++[zN A c A[k]]:=by
 unfold uH;rw [V3 hk,au h]
theorem VY (A:List bZ) (c:Int) (k:Nat) (hk:k≤A.length):(uH A c k).length≤k:=by
 unfold uH
 rw [bX];exact Nat.le_trans (List.length_filter_le ..) (by rw [List.length_take];omega)
theorem YQ {P:Program} {f:FuncId} {args:Array aj} {w0:World} {G:GH} {e sz n:Nat} {xs:List aj} {rows:List (List Dat)} (hG:Hold G w0) (h:Calls P f args w0 (fT w0 G [] fun u _ L'=>dx e sz u n xs L')) (hl:rows.length=n) (hc:∀ G',fI G' sz rows xs) :
  Calls P f args w0 (bA w0 G fun u G'=>av G' (.sl sz rows) u):=by
 intro cs;obtain ⟨e1,w',fr,⟨v,G',L',rfl,hch,hrow⟩,h2,h3,h4⟩:=h cs;have hp0:Hp w0 (fun k=>k < w0.heap.size) G G ([]++[]) w0:=⟨rfl,rfl,rfl,bM _,fun _ h=>h,fun _ _=>rfl,hG,fun _ _ h=>h,fun _ _ h=>.inl h,fun _ h=>(by cases h),fun _ h=>(by cases h),fun _ h=>(by cases h),List.Pairwise.nil⟩;have hp1:=hp0.change hch;rw [lG] at hp1;refine ⟨_,w',fr,?_,h2,h3,h4⟩
 rcases hrow.2 with ⟨rfl,h5,rfl⟩|⟨b,cap,cur,rfl,rfl,h5,h6,h7,h8⟩
 ·refine hp1.ret ?_;have:rows=[]:=List.eq_nil_of_length_eq_zero (by omega);subst this
  simp only [av]
  exact ⟨none,0,by simp,by simp,by simp [maxLen],fun h=>absurd rfl h⟩
 exact (hp1.giveUp 0 rfl).ret (av.dS (GH.Hl G' b _) hl h5 h6 h8 (hc _))
set_option maxHeartbeats 4000000 in
theorem V7 (G:GH) (w0:World) (hO:gH G [] w0) (D:mH) (l:List ay) (hv:av G (.sl 11 (l.map ay.dat)) (fD D.f)) (hok:gX l) (hz:bg l≤1073741824) (code:Int) (hc:0≤code∧code≤100) :
  Calls prog 37 #[D.val,vi code] w0 (fT w0 G [] fun u _ L'=>dx 55 6 u (jL (fK 0 0 l) code).length (xY (jL (fK 0 0 l) code)) L'):=by
 have hn:=Dq 0 0 l;have SS:=Hf 0 0 l;have hml:maxLen=9223372036854775807:=rfl;obtain ⟨A,hA⟩:∃ A,A=fK 0 0 l:=⟨_,rfl⟩;rw [← hA] at hn SS ⊢;refine jy (N:=96) (T:=[(0,_),(1,_)]) func37 rfl ntmps37 rfl rfl hO ?_;intro a H;refine dw (fun _ K1=>?_);refine fu (cs:=[_,_,_,_,_,_,_,_,_,_,_]) H wn rfl rfl rfl ?_;clear H;intro b2 a w hb2 H;refine kH H (ak K1 rfl (SQ fun _ K2=>?_));clear H K1;intro a H;obtain ⟨Ga,hma,hb',H⟩:=H.dJ;have hga:=fun j v hj=>xE hb' 0 D.cells rfl j v hj;replace hv:=hv.mono hma;refine nJ ?_;refine bE qb (cs:=D.cells) H wn rfl rfl (fun j v hj=>H.hp.aJ (hga j v hj)) rfl ?_;clear H;intro a H;refine s_call aan H wn rfl (afq _ _ H.ro D l hv hok (by omega)) rfl ?_;clear H;rintro v14 EF a w hr M6 H;rw [← hA] at hr;obtain ⟨vA,n14,c14,rfl⟩:=hr.form;have Tx:=hr.len;rw [bX] at Tx;subst Tx;refine kH H (aS K2 rfl (SR fun _ K3=>Rm rfl ?_));clear H K2;intro a H;refine s_call abg H wn rfl (acJ _ _ H.ro A _ hr (by omega)) rfl ?_;clear H;rintro v16 qj a w ⟨bm,acc,rfl,IB,hfm⟩ qH H;replace hr:=hr.mono qH;refine kH H (ak K3 rfl (SR fun _ K4=>ak K4 rfl (SQ fun _ K5=>SR fun _ K6=>Rm rfl (Rl Ez rfl (Rm rfl (Kz K6 (SB ?_)))))));clear H K3 K4 K6;intro a H;skip;refine fJ (ι:=Nat × aj × OL × GH) (Tc:=[(1,_),(6,_),(17,_),(18,_)]) (Lc:=[]) (fun gh=>[(7,gh.2.1),(19,vi gh.1)]) (fun gh=>[]++gh.2.2.1) (fun gh=>gh.2.2.2) (fun gh=>gh.1≤A.length∧dx 55 6 gh.2.1 (uH A code gh.1).length (xY (uH A code gh.1)) gh.2.2.1∧(∀ b o,qj b=some o→gh.2.2.2 b=some o)) (fun gh=>A.length - gh.1) ((0,.slice none 0 0,[],qj)) (by exact (H).sub ⟨rfl,rfl,rfl,rfl,rfl,rfl,aC⟩) ?_ ?_
 ·exact ⟨jf _,dx.nil,fun _ _ h=>h⟩
 clear H;intro gh a w hI H;obtain ⟨k,v7,Lo,g⟩:=gh;dsimp only at hI H;obtain ⟨hk,hrw,hgm⟩:=hI;have hsl:=VY A code k hk;obtain ⟨v7A,v7c,rfl,-,-⟩:=hrw.shape;dsimp only [lca,bC] at H;refine kP H (SR fun _ K7=>Rc rfl (Kz K7 (SQ fun _ K8=>Cd rfl ?_ ?_))) <;> clear H K7
 ·intro h20 a H
  try have CP:=dT h20
  have hk2:k < A.length:=by omega
  obtain ⟨b,o,rfl,hrow⟩:=Qh (hr.mono hgm) hk2;obtain ⟨ha0,ha1⟩:=SS A[k] (jk hk2);have hbg:=hgm _ _ IB;refine kP H (Kc K8 (SQ fun _ K9=>SB (SR fun _ aT=>Ri Ez qd rfl rfl ?_)));clear H K8;intro a H;refine bE qd (cs:=A[k].cells) H wn rfl rfl (fun j v hj=>H.hp.aJ (hrow j v hj)) rfl ?_;clear H;intro a H;refine fq qd H wn rfl ?_;clear H;intro b9 a w xI H;refine bF qd 0 (vs:=[_,_,_,_,_]) _ H wn rfl rfl rfl rfl rfl rfl rfl rfl ?_;clear H;intro w H;dsimp only [List.set,setRow] at H;refine aT _ _ ?_;clear aT;refine aZ (fun _ bD=>?_);refine aZ (fun _ bK=>?_)
  by_cases c0:¬ A[k].code=code
  ·skip;refine dI hmx [[],[0],[],[0,1,2],(ra 0 4),(ra 0 5),(ra 0 5),(ra 0 5),[0,1,2,3,4,7],[0,1,2,3,4,6,7,8],(ra 0 10),(ra 0 5),(ra 0 12),(ra 0 13)] [] (by kernel_rfl) [_,vi A[k].code,_,_,_,undef,undef,undef,undef,undef,undef,undef,undef,_] H (aB (Z0 rfl (Rf LM rfl)) (Z1 0 23 rfl (Ro aF 0 rfl)) (Z0 rfl (Rm rfl)) (Z2 1 24 2 25 rfl (Rc rfl)) (aB (Z1 3 26 rfl (Rm rfl)) (aN (j:=4) (by kernel_rfl) (fun _ _ _ _ _ h=>h) rfl rfl rfl rfl rfl (fun _ _ h=>aO h (aG (aD c0))) rfl (fun _=>rfl)) (aN (j:=4) (by kernel_rfl) (fun _ _ _ _ _ h=>h) rfl rfl rfl rfl rfl (fun _ _ h=>aO h (aG (aD c0))) rfl (fun _=>rfl)) (aN (j:=4) (by kernel_rfl) (fun _ _ _ _ _ h=>h) rfl rfl rfl rfl rfl (fun _ _ h=>aO h (aG (aD c0))) rfl (fun _=>rfl)) (aB (aN (j:=4) (by kernel_rfl) (fun _ _ _ _ _ h=>h) rfl rfl rfl rfl rfl (fun _ _ h=>aO h (aG (aD c0))) rfl (fun _=>rfl)) (aN (j:=4) (by kernel_rfl) (fun _ _ _ _ _ h=>h) rfl rfl rfl rfl rfl (fun _ _ h=>aO h (aG (aD c0))) rfl (fun _=>rfl)) (aN (j:=4) (by kernel_rfl) (fun _ _ _ _ _ h=>h) rfl rfl rfl rfl rfl (fun _ _ h=>aO h (aG (aD c0))) rfl (fun _=>rfl)) (aN (j:=4) (by kernel_rfl) (fun _ _ _ _ _ h=>h) rfl rfl rfl rfl rfl (fun _ _ h=>aO h (aG (aD c0))) rfl (fun _=>rfl)) (aX (aN (j:=4) (by kernel_rfl) (fun _ _ _ _ _ h=>h) rfl rfl rfl rfl rfl (fun _ _ h=>aO h (aG (aD c0))) rfl (fun _=>rfl)) (aX (Z2 4 27 12 35 rfl (Pt (aD c0) rfl)) cO))))) ?_
   clear H;intro a w G sN H hv;have H:=H.aV (hv 13 36 rfl rfl) rfl;clear hv;refine aI ⟨rfl,?_⟩;refine bK _ _ ?_;clear bK;refine vM H rfl rfl ?_;refine eX ?_;refine K9 _ _ ?_;clear K9;refine kP H (SC (Rd rfl (Rm rfl ?_)));clear H;intro a H;refine aI ?_;refine dN ((k+1,_,Lo,_)) (by exact (H.dX (Pl:=[_]) (dz:=[]) [] (by decide) rfl).sub ⟨rfl,rfl,rfl,rfl,rfl,rfl,aC⟩) ?_ ?_
   ·(try dsimp only);exact ⟨by omega,by rw [VZ hk2 (by first|(simp [rH,c0];done)|(simpa using ug))];exact hrw,fun b o h=>sN b o (hgm b o h)⟩
   first|omega|(dsimp only;omega)
  skip;refine dI hmx [[],[0],[],[0,1,2],(ra 0 4),(ra 0 5),(ra 0 5),(ra 0 5),[0,1,2,3,4,7],[0,1,2,3,4,6,7,8],(ra 0 10),(ra 0 5),(ra 0 12),(ra 0 13)] [] (by kernel_rfl) [_,vi A[k].code,_,_,_,_,_,_,vi A[k].id,.agg #[vi code,vi A[k].id],((ng A code A[k].id).getD Bl).val,A[k].val,.bool (!rH A code A[k]),_] H (aB (Z0 rfl (Rf LM rfl)) (Z1 0 23 rfl (Ro aF 0 rfl)) (Z0 rfl (Rm rfl)) (Z2 1 24 2 25 rfl (Rc rfl)) (aB (Z1 3 26 rfl (Rm rfl)) (Z1 4 27 rfl (YM (aM c0) rfl)) (Z1 4 27 rfl (YM (aM c0) rfl)) (Z1 4 27 rfl (YF Ih (aM c0) rfl)) (aB (Z2 7 30 4 27 rfl (YO aF 0 (aM c0) rfl)) ?_ ?_ ?_ (aX ?_ (aX (Z2 4 27 12 35 rfl (Pf (aM c0) rfl)) cO))))) ?_
  ·refine lU 6 29 8 31 4 27 rfl rfl fun _ a w G1 hG HT H fin=>?_;refine kr Oq [_,_] H (wg H rfl rfl (aM c0)) rfl rfl rfl rfl ?_;clear H;intro a H;exact fin H iJ rfl
  ·refine lU 5 28 9 32 4 27 rfl rfl fun _ a w G1 hG HT H fin=>?_;refine agR (ky:=(code,A[k].id)) (zv:=Bl.val) (l:=acc) JQ H9 (by kernel_rfl) H (wg H rfl rfl (aM c0)) rfl rfl (H.ro _ _ (hG _ _ hbg)) rfl ?_;clear H;intro a H;rw [NG hfm] at H;exact fin H iJ rfl
  ·refine bY 4 27 rfl rfl fun _ a w G1 hG HT H fin=>?_;refine bE qd (cs:=[_,_,_,_,_]) H (wg H rfl rfl (aM c0)) rfl rfl (H.hp.eF 0 rfl rfl) rfl ?_;clear H;intro a H;exact fin H iJ rfl
  ·refine lU 10 33 11 34 4 27 rfl rfl fun _ a w G1 hG HT H fin=>?_;refine agT abH H (wg H rfl rfl (aM c0)) rfl rfl rfl rfl ?_;clear H;intro a H;rw [Yi] at H;exact fin H iJ (by show _=_;first|rfl|exact aG (Yj hfm c0 (jk hk2)))
  clear H;intro a w G sN H hv;have H:=H.aV (hv 13 36 rfl rfl) rfl;clear hv;refine aI ⟨rfl,?_⟩;refine bK _ _ ?_;clear bK;refine kZ H rfl ?_ ?_
  ·intro ug
   try have p36:=dT ug
   refine eX ?_;refine K9 _ _ ?_;clear K9;refine kP H (SC (Rd rfl (Rm rfl ?_)));clear H;intro a H;refine aI ?_;refine dN ((k+1,_,Lo,_)) (by exact (H.dX (Pl:=[_]) (dz:=[]) [] (by decide) rfl).sub ⟨rfl,rfl,rfl,rfl,rfl,rfl,aC⟩) ?_ ?_
   ·(try dsimp only);exact ⟨by omega,by rw [VZ hk2 (by first|(simp [rH,c0];done)|(simpa using ug))];exact hrw,fun b o h=>sN b o (hgm b o h)⟩
   first|omega|(dsimp only;omega)
  intro ug
  try have p36:=dF ug
  have hst:rH A code A[k]=true:=by simpa using ug
  refine kP H (Kc bD (SR fun _ bT=>aU Ih aF 0 rfl rfl (aU acp gF 0 rfl rfl (Rf BP rfl ?_))));clear H bD;intro a H;refine bE JN (cs:=[_,_]) H wn rfl rfl (H.hp.eF 0 rfl rfl) rfl ?_;clear H;intro a H;refine kH H (Rf BP rfl ?_);clear H;intro a H;refine bE JN (cs:=[_,_]) H wn rfl rfl (H.hp.eF 0 rfl rfl) rfl ?_;clear H;intro a H;refine kr Ot [_,_,_,_,_,_] H wn rfl rfl rfl rfl ?_;clear H;intro a H;refine fq ku H wn rfl ?_;clear H;intro b10 a w MN H;refine bF ku 0 (vs:=[_,_,_,_,_,_]) _ H wn rfl rfl rfl rfl rfl rfl rfl rfl ?_;clear H;intro w H;dsimp only [List.set,setRow] at H;refine bT _ _ ?_;clear bT;refine kP H (SR fun _ bU=>Rf yU rfl (aU tX aF 0 rfl rfl (Rd rfl (Rf yU rfl (Rf tX rfl ?_)))));clear H;intro a H;refine bF aF 0 (vs:=[_]) _ H wn rfl rfl rfl rfl rfl rfl rfl rfl ?_;clear H;intro w H;dsimp only [List.set,setRow] at H;refine bU _ _ ?_;clear bU;refine kP H (SR fun _ dM=>Rf BQ rfl (aU tX aF 0 rfl rfl (Rd rfl (Rf BQ rfl (Rf tX rfl ?_)))));clear H;intro a H;refine bF aF 0 (vs:=[_]) _ H wn rfl rfl rfl rfl rfl rfl rfl rfl ?_;clear H;intro w H;dsimp only [List.set,setRow] at H;refine dM _ _ ?_;clear dM;refine sD (ι:=Int × Int) (Tc:=[(1,_),(6,_),(7,_),(10,_),(17,_),(18,_),(19,_)]) (Lc:=[(_,_)]) (fun gh=>[]) (fun gh=>[(b10,.cells #[vi A[k].id,.string A[k].name,vi A[k].flow,vi (A[k].at_+1),vi gh.1,vi gh.2] 55 (0,0))]++Lo) (fun gh=>G) (fun gh=>(gh.1,gh.2)=uT A code A[k]) (by exact (H.dX (Pl:=[_,_]) (dz:=[_,_]) [1,0] (by decide) rfl).sub ⟨rfl,rfl,rfl,rfl,rfl,rfl,rfl,aC⟩) ?_ ?_
  ·skip;refine kP H (SR fun _ dO=>Rm rfl (Rm rfl (Rd rfl (aU Ih aF 1 rfl rfl ?_))));clear H;intro a H;refine kr Oq [_,_] H wn rfl rfl rfl rfl ?_;clear H;intro a H;refine VB (ky:=(code+1,A[k].id)) (zv:=Bl.val) (l:=acc) JQ H9 (by kernel_rfl) H wn rfl rfl (H.ro _ _ (sN _ _ hbg)) rfl ?_;clear H;intro a H;rw [NG hfm,show (lS (code+1,A[k].id) acc).isSome=(ng A (code+1) A[k].id).isSome by rw [hfm,Option.isSome_map]] at H;obtain ⟨E,hE⟩:∃ E,E=ng A (code+1) A[k].id:=⟨_,rfl⟩;dsimp only at H;rw [← hE] at H;obtain ⟨q,hq⟩:∃ q,q=E.getD Bl:=⟨_,rfl⟩;rw [← hq] at H;refine kH H (Rm rfl ?_);clear H;intro a H;(iterate 2 refine jS H wn rfl rfl rfl ?_;clear H;intro a H);refine fq qd H wn rfl ?_;clear H;intro b11 a w Iw H;refine bF qd 0 (vs:=[_,_,_,_,_]) _ H wn rfl rfl rfl rfl rfl rfl rfl rfl ?_;clear H;intro w H;dsimp only [List.set,setRow] at H;refine kH H (ak dO rfl (SR fun _ dD=>Rm rfl (Rm rfl (Sp 69 rfl ?_ ?_)))) <;> clear H dO
   ·intro iM a H
    try have p69:=dT iM
    refine kH H (YF BP iM rfl (YF DN iM rfl (YO aF 0 iM rfl (YF BP iM rfl (YF DN iM rfl (YO aF 2 iM rfl (YC iM rfl (Pt iM rfl (Rm rfl (Sp 78 rfl ?_ ?_)))))))))) <;> clear H
    ·intro lM a H
     try have NS:=dT lM
     refine kH H (YF BP lM rfl (YF tX lM rfl (YO aF 0 lM rfl (YF BP lM rfl (YF tX lM rfl (YO aF 2 lM rfl (YC lM rfl (Pt lM rfl (Kz dD (Cd rfl ?_ ?_)))))))))) <;> clear H dD
     ·intro BZ a H
      refine kP H (SC (Rf BP rfl ?_));clear H;intro a H;refine bE JN (cs:=[_,_]) H wn rfl rfl (H.hp.eF 0 rfl rfl) rfl ?_;clear H;intro a H;refine kH H (Rf BQ rfl ?_);clear H;intro a H;refine bF JN 1 (vs:=[_,_]) _ H wn rfl rfl rfl rfl rfl rfl rfl rfl ?_;clear H;intro w H;dsimp only [List.set,setRow] at H;refine aI ?_;refine ⟨(q.flow,q.at_),by exact (H.dX (Pl:=[_,_,_]) (dz:=[_,_]) [2,1] (by decide) rfl).sub ⟨rfl,rfl,rfl,rfl,rfl,rfl,rfl,aC⟩,?_⟩;(try dsimp only);obtain ⟨e,he⟩:=Option.isSome_iff_exists.1 iM
      have hqe:q=e:=by rw [hq,he];rfl
      rw [hqe] at lM BZ ⊢;exact (abG ⟨by rw [← hE,he],rY lM,rY BZ⟩).symm
     intro BZ a H
     try have p86:=dF BZ
     refine gI ?_;refine ⟨(A[k].flow,A[k].at_+1),by exact (H.dX (Pl:=[_,_,_]) (dz:=[_,_]) [2,1] (by decide) rfl).sub ⟨rfl,rfl,rfl,rfl,rfl,rfl,rfl,aC⟩,?_⟩;(try dsimp only);refine (LC ?_).symm;rw [← hE]
     cases hE2:E with
     | none=>trivial
     | some e =>
      have hqe:q=e:=by rw [hq,hE2];rfl
      dsimp only;rw [← hqe];rintro ⟨f1,f2⟩
      first|exact absurd f2 (of_decide_eq_false BZ)|exact absurd f1 (of_decide_eq_false lM)|(rw [hE2] at iM;cases iM)
    intro lM a H
    try have NS:=dF lM
    refine kH H (aY lM rfl (aP lM rfl (aP lM rfl (Pf lM rfl (Kz dD (Cf rfl rfl ?_))))));clear H dD;intro a H;refine gI ?_;refine ⟨(A[k].flow,A[k].at_+1),by exact (H.dX (Pl:=[_,_,_]) (dz:=[_,_]) [2,1] (by decide) rfl).sub ⟨rfl,rfl,rfl,rfl,rfl,rfl,rfl,aC⟩,?_⟩;(try dsimp only);refine (LC ?_).symm;rw [← hE]
    cases hE2:E with
    | none=>trivial
    | some e =>
     have hqe:q=e:=by rw [hq,hE2];rfl
     dsimp only;rw [← hqe];rintro ⟨f1,f2⟩
     first|exact absurd f2 (of_decide_eq_false BZ)|exact absurd f1 (of_decide_eq_false lM)|(rw [hE2] at iM;cases iM)
   intro iM a H
   try have p69:=dF iM
   refine kH H (aY iM rfl (aP iM rfl (aP iM rfl (Pf iM rfl (Rm rfl (aY rfl rfl (aP rfl rfl (aP rfl rfl (Pf rfl rfl (Kz dD (Cf rfl rfl ?_)))))))))));clear H dD;intro a H;refine gI ?_;refine ⟨(A[k].flow,A[k].at_+1),by exact (H.dX (Pl:=[_,_,_]) (dz:=[_,_]) [2,1] (by decide) rfl).sub ⟨rfl,rfl,rfl,rfl,rfl,rfl,rfl,aC⟩,?_⟩;(try dsimp only);refine (LC ?_).symm;rw [← hE]
   cases hE2:E with
   | none=>trivial
   | some e =>
    have hqe:q=e:=by rw [hq,hE2];rfl
    dsimp only;rw [← hqe];rintro ⟨f1,f2⟩
    first|exact absurd f2 (of_decide_eq_false BZ)|exact absurd f1 (of_decide_eq_false lM)|(rw [hE2] at iM;cases iM)
  clear H;intro gh a w hI H;obtain ⟨tf,ta⟩:=gh;dsimp only at hI H;have hend:=hI;dsimp only [lca,bC] at H;refine kP H (SC (Rm rfl ?_));clear H;intro a H;refine bE ku (cs:=[_,_,_,_,_,_]) H wn rfl rfl (H.hp.eF 1 rfl rfl) rfl ?_;clear H;intro a H;refine gV pq ku [_,_,_,_,_,_] [_,_,_,_,_,_] H wn rfl rfl rfl rfl rfl (by intro i q h;match i,h with|0,h=>exact h|n+1,h=>simp at h) rfl rfl ?_;clear H;intro b92 a w aiY H;refine pX (Li:=[_,_,_]) (Lo:=Lo) (news:=[vi A[k].id,.string A[k].name,vi A[k].flow,vi (A[k].at_+1),vi tf,vi ta]) pq ku rfl rfl H wn rfl rfl hrw rfl (H.hp.eF 0 rfl rfl) rfl (by omega) (by omega) rfl ?_;clear H;intro v93 XM a w Ua H;rw [show [vi A[k].id,Value.string A[k].name,vi A[k].flow,vi (A[k].at_+1),vi tf,vi ta]=(zN A code A[k]).cells by simp only [zN,iV.cells,← hend]] at Ua;refine kH H (aS K9 rfl (SC (Rd rfl (Rm rfl ?_))));clear H K9;intro a H;refine aI ?_;refine dN ((k+1,v93,XM,_)) (by exact (H.dX (Pl:=[_,_,_]) (dz:=[]) [] (by decide) rfl).sub ⟨rfl,rfl,rfl,rfl,rfl,rfl,aC⟩) ?_ ?_
  ·(try dsimp only);exact ⟨by omega,by rw [ahy hk2 hst,nH,ahx];exact Ua,fun b o h=>sN b o (hgm b o h)⟩
  first|omega|(dsimp only;omega)
 intro h20 a H
 try have CP:=dF h20
 obtain rfl:k=A.length:=by omega
 have hall:uH A code A.length=jL A code:=by unfold uH jL;rw [Ah]
 rw [hall] at hrw;refine eX ?_;refine K5 _ _ ?_;clear K5;exact kP H (SR fun _ eG=>Rm rfl (ak eG rfl (LR results37 rfl fun H=>H.hp.dW (by rw [hall];exact hrw))))
theorem afS {G:GH} {w:World} (h:Hold G w):gH G [] w:=⟨h,fun _ h=>(by cases h),fun _ h=>(by cases h),List.Pairwise.nil⟩
theorem V8 (G:GH) (w0:World) (hG:Hold G w0) (D:mH) (l:List ay) (hv:av G (.sl 11 (l.map ay.dat)) (fD D.f)) (hok:gX l) (hz:bg l≤1073741824) (code:Int) (hc:0≤code∧code≤100) :
  Calls prog 37 #[D.val,vi code] w0 (bA w0 G fun u G'=>av G' (.sl 6 ((jL (fK 0 0 l) code).map iV.dat)) u) :=
 YQ hG (V7 G w0 (afS hG) D l hv hok hz code hc) (by simp) fun _=>Oo _ _
end
section
open Go.RowKit
theorem Ye (a b:List bZ):sj (a++b)=sj a++sj b:=by unfold sj;rw [qy,List.flatten_append]
abbrev OX (v:aj) (A:List bZ) (Lo:OL):Prop:=dx 47 5 v A.length (sj A) Lo
theorem OX.one {v:aj} {A:List bZ} {Lo:OL} (a:bZ) (h:dx 47 5 v (A.length+1) (sj A++a.cells) Lo):OX v (A++[a]) Lo:=by
 show dx _ 5 v (A++[a]).length (sj (A++[a])) Lo
 rw [nH,Ye]
 have e:sj [a]=a.cells:=by simp [sj]
 rw [e];exact h
end
section
open Go.RowKit
section
variable {N:Nat} {D:List Deferred} {w0:World} {F:Nat→Prop} {G0 G G1 G2:GH} {L L1 L2:OL} {T Xs:List (Nat × aj)}
variable {r:Option Nat} {P:Program} {Q:Exit→Act→World→Prop} {l:List Oper} {a a':Act} {w w':World}
end
end
section
open Go.RowKit
theorem abL:GA prog 55 [(0,0),(1,1),(2,2),(4,2)]:=⟨by kernel_rfl,by kernel_rfl,by kernel_rfl,by kernel_rfl,by kernel_rfl⟩
theorem JC {G:GH} {A:List iV} {v:Option Addr} {n c k:Nat} (h:av G (.sl 6 (A.map iV.dat)) (.slice v n c)) (hk:k < A.length):∃ b o,v=some ⟨b,o,none⟩∧∀ j u,A[k].cells[j]?=some u→aJ G b (o+k*6+j)=some u:=by
 obtain ⟨b,o,cs,rfl,hcl,hrow,hr⟩:=h.at_ k A[k].dat (by simp [hk]);obtain rfl:=V5 hr;exact ⟨b,o,rfl,hrow⟩
end
section
open Go.RowKit
theorem Lg:∀ args w,(callFunc 37 args).run prog w=.ok (.enter 37 args) w:=enters func37 rfl (by kernel_rfl)
theorem acs:bO prog 55 1 1:=⟨by kernel_rfl⟩
theorem KZ:∀ args w,(callFunc 14 args).run prog w=.ok (.enter 14 args) w:=enters func14 rfl (by kernel_rfl)
theorem abd:∀ args w,(callFunc 46 args).run prog w=.ok (.enter 46 args) w:=enters func46 rfl (by kernel_rfl)
theorem abe:∀ args w,(callFunc 47 args).run prog w=.ok (.enter 47 args) w:=enters func47 rfl (by kernel_rfl)
theorem Qs (G:GH) (w0:World) (hG:Hold G w0) (D:mH) (l:List ay) (hv:av G (.sl 11 (l.map ay.dat)) (fD D.f)) (hok:gX l) (hz:bg l≤1073741824) :
  Calls prog 14 #[D.val] w0 (bA w0 G fun u G'=>av G' (.sl 6 ((jL (fK 0 0 l) 1).map iV.dat)) u):=by
 refine eN [(0,_)] func14 rfl ntmps14 rfl rfl hG ?_;intro a H;refine dw (fun _ K1=>?_);refine fu (cs:=[_,_,_,_,_,_,_,_,_,_,_]) H wn rfl rfl rfl ?_;clear H;intro b1 a w hb1 H;refine kH H (ak K1 rfl (SQ fun _ K2=>?_));clear H K1;intro a H;obtain ⟨Ga,hma,hb',H⟩:=H.dJ;have hga:=fun j v hj=>xE hb' 0 D.cells rfl j v hj;refine nJ ?_;refine bE qb (cs:=D.cells) H wn rfl rfl (fun j v hj=>H.hp.aJ (hga j v hj)) rfl ?_;clear H;intro a H;refine s_call Lg H wn rfl (V8 _ _ H.ro D l (hv.mono hma) hok hz 1 (by omega)) rfl ?_;clear H;rintro v4 G4 a w hr Ci H;obtain ⟨A4,n4,c4,rfl⟩:=hr.form;exact kH H (aS K2 rfl (LR results14 rfl fun H=>H.rt hr))
theorem Zy (G:GH) (w0:World) (hG:Hold G w0) (D:mH) (l:List ay) (hv:av G (.sl 11 (l.map ay.dat)) (fD D.f)) (hok:gX l) (hz:bg l≤1073741824) :
  Calls prog 16 #[D.val] w0 (bA w0 G fun u G'=>av G' (.sl 6 ((jL (fK 0 0 l) 3).map iV.dat)) u):=by
 refine eN [(0,_)] func16 rfl ntmps16 rfl rfl hG ?_;intro a H;refine dw (fun _ K1=>?_);refine fu (cs:=[_,_,_,_,_,_,_,_,_,_,_]) H wn rfl rfl rfl ?_;clear H;intro b1 a w hb1 H;refine kH H (ak K1 rfl (SQ fun _ K2=>?_));clear H K1;intro a H;obtain ⟨Ga,hma,hb',H⟩:=H.dJ;have hga:=fun j v hj=>xE hb' 0 D.cells rfl j v hj;refine nJ ?_;refine bE qb (cs:=D.cells) H wn rfl rfl (fun j v hj=>H.hp.aJ (hga j v hj)) rfl ?_;clear H;intro a H;refine s_call Lg H wn rfl (V8 _ _ H.ro D l (hv.mono hma) hok hz 3 (by omega)) rfl ?_;clear H;rintro v4 G4 a w hr Ci H;obtain ⟨A4,n4,c4,rfl⟩:=hr.form;exact kH H (aS K2 rfl (LR results16 rfl fun H=>H.rt hr))
theorem acC {G:GH} {b:Nat} {s:ByteArray} (hb:aJ G b 0=some (.string s)) (x:iV):uN (.func (.func 47) #[] #[(aH b 0)]) G x.dat (decide (x.name=s)):=by
 intro G1 w0 cs hm hG hr;obtain rfl:=V5 hr;refine lH (caps:=[(aH b 0)]) abe ?_;replace hb:=aL hm hb;refine eN [(0,_),(1,_)] func47 rfl ntmps47 rfl rfl hG ?_;intro a H;refine dw (fun _ K1=>?_);refine fu (cs:=[_,_,_,_,_,_]) H wn rfl rfl rfl ?_;clear H;intro b2 a w hb2 H;refine kH H (ak K1 rfl (SR fun _ K2=>aU acs gF 0 rfl rfl (Rg gF rfl hb ?_)));clear H K1;intro a H;refine AY H wn rfl rfl rfl ?_;clear H;intro a H;exact kH H (ak K2 rfl (LR results47 rfl fun H=>H.rt (aG (by rw [nI,decide_eq_true_iff,beq_iff_eq];exact ⟨Qv,fun h=>by rw [h]⟩))))
theorem aeO (G:GH) (w0:World) (hG:Hold G w0) (l:List iV) (p:iV→Bool) (v fv:aj) (hv:av G (.sl 6 (l.map iV.dat)) v) (hf:∀ x∈l,uN fv G x.dat (p x)) :
  Calls prog 46 #[v,fv] w0 (bA w0 G fun u G'=>u=vi (mO (l.findIdx? p))):=by
 obtain ⟨A,c,rfl,hc1,hc2,-⟩:=hv.slice;have hml:maxLen=9223372036854775807:=rfl;rw [bX] at *;refine eN [(0,_),(1,_)] func46 rfl ntmps46 rfl rfl hG ?_;intro a H;refine kP H (SR fun _ K1=>ak K1 rfl (SQ fun _ K2=>SR fun _ K3=>Rm rfl (Rl pq rfl (Rm rfl (Kz K3 (SB ?_))))));clear H K1 K3;intro a H;skip;refine fJ (ι:=Nat × GH) (Tc:=[(0,_),(1,_),(7,_)]) (Lc:=[]) (fun gh=>[(8,vi gh.1)]) (fun gh=>[]) (fun gh=>gh.2) (fun gh=>gh.1≤l.length∧(l.take gh.1).findIdx? p=none∧(∀ b o,G b=some o→gh.2 b=some o)) (fun gh=>l.length - gh.1) ((0,G)) (by exact (H).sub ⟨rfl,rfl,rfl,rfl,aC⟩) ?_ ?_
 ·exact ⟨by omega,rfl,fun _ _ h=>h⟩
 clear H;intro gh a w hI H;obtain ⟨k,g⟩:=gh;dsimp only at hI H;obtain ⟨hk,hno,hgm⟩:=hI;dsimp only [lca,bC] at H;refine kP H (SR fun _ K4=>Rc rfl (Kz K4 (SQ fun _ K5=>Cd rfl ?_ ?_))) <;> clear H K4
 ·intro h9 a H
  try have p9:=dT h9
  have hk2:k < l.length:=by omega
  obtain ⟨b,o,rfl,hrow⟩:=JC hv hk2;refine kP H (Kc K5 (SQ fun _ K6=>SB (SR fun _ K7=>Rm rfl (ak K7 rfl (SR fun _ K8=>Rm rfl (Rm rfl (Rm rfl (Ri pq ku rfl rfl ?_))))))));clear H K5 K7;intro a H;refine bE ku (cs:=l[k].cells) H wn rfl rfl (fun j v hj=>H.hp.aJ (aL hgm (hrow j v hj))) rfl ?_;clear H;intro a H;refine oF H wn rfl rfl (hf _ (jk hk2) _ _ _ hgm H.ro (V6 _ l[k])) rfl ?_;clear H;rintro v16 qj a w rfl qH H;refine K8 _ _ ?_;clear K8;refine kZ H rfl ?_ ?_
  ·intro h16
   try have p16:=dT h16
   refine kP H (SR fun _ K9=>Rm rfl (ak K9 rfl ?_));clear H K9;intro a H;refine lr H results46 rfl ?_
   first
    | exact H.rt (by rw [uq hk2 hno h16];rfl)
    | exact H.rt (by rw [show l.take k=l from jG (by omega)] at hno;rw [hno];rfl)
  intro h16
  try have p16:=dF h16
  refine kP H (Kc K6 (SC (Rd rfl (Rm rfl ?_))));clear H K6;intro a H;refine aI ?_;refine dN ((k+1,qj)) (by exact (H).sub ⟨rfl,rfl,rfl,rfl,aC⟩) ?_ ?_
  ·(try dsimp only);exact ⟨by omega,Cr hk2 hno h16,fun b o h=>qH b o (hgm b o h)⟩
  first|omega|(dsimp only;omega)
 intro h9 a H
 try have p9:=dF h9
 refine eX ?_;refine K2 _ _ ?_;clear K2;refine kP H (SR fun _ aT=>ak aT rfl ?_);clear H aT;intro a H;refine lr H results46 rfl ?_
 first
  | exact H.rt (by rw [uq hk2 hno h16];rfl)
  | exact H.rt (by rw [show l.take k=l from jG (by omega)] at hno;rw [hno];rfl)
def aiE:iV:=⟨0,⟨#[]⟩,0,0,0,0⟩
def Fu (l:List ay) (s:ByteArray):Option iV:=(jL (fK 0 0 l) 1).find? fun x=>decide (x.name=s)
theorem aeW {l:List iV} {p:iV→Bool}:(¬ 0≤mO (l.findIdx? p)→l.find? p=none)∧(0≤mO (l.findIdx? p)→∃ (k:Nat) (hk:k < l.length),mO (l.findIdx? p)=k∧l.find? p=some l[k]):=by
 cases h:l.findIdx? p with
 | none =>
  refine ⟨fun _=>?_,fun h=>absurd h (by decide)⟩;rw [List.find?_eq_none];intro x hx;have:=List.findIdx?_eq_none_iff.1 h x hx
  simp [this]
 | some k =>
  obtain ⟨hk,h1,h2⟩:=List.findIdx?_eq_some_iff_getElem.1 h;refine ⟨fun hn=>absurd (Int.natCast_nonneg k) hn,fun _=>⟨k,hk,rfl,?_⟩⟩;rw [List.find?_eq_some_iff_getElem];exact ⟨h1,k,hk,rfl,fun j hj=>by simpa using h2 j hj⟩
theorem XZ (G:GH) (w0:World) (hG:Hold G w0) (D:mH) (l:List ay) (s:ByteArray) (hv:av G (.sl 11 (l.map ay.dat)) (fD D.f)) (hok:gX l) (hz:bg l≤1073741824) :
  Calls prog 26 #[D.val,.string s] w0 (bA w0 G fun u G'=>u=.tuple #[.agg ((Fu l s).getD aiE).cells.toArray,.bool (Fu l s).isSome]):=by
 refine eN [(0,_),(1,_)] func26 rfl ntmps26 rfl rfl hG ?_;intro a H;refine dw (fun _ K1=>?_);refine fu (cs:=[_,_,_,_,_,_,_,_,_,_,_]) H wn rfl rfl rfl ?_;clear H;intro b2 a w hb2 H;refine fu (cs:=[_]) H wn rfl rfl rfl ?_;clear H;intro b3 a w hb3 H;refine fq ku H wn rfl ?_;clear H;intro b4 a w hb4 H;refine kH H (ak K1 rfl (SQ fun _ K2=>?_));clear H K1;intro a H;have H:=H.dX (Pl:=[_,_,_]) (dz:=[_,_,_]) [2,1,0] (by decide) rfl;obtain ⟨Ga,hma,hb',H⟩:=H.dJ;obtain ⟨Gb,hmb,zw,H⟩:=H.dJ;have hga:=fun j v hj=>aL hmb (xE hb' 0 D.cells rfl j v hj);replace hv:=(hv.mono hma).mono hmb
 have hs3:aJ Gb b3 0=some (.string s):=by unfold aJ;rw [zw];rfl
 refine nJ ?_;refine bE qb (cs:=D.cells) H wn rfl rfl (fun j v hj=>H.hp.aJ (hga j v hj)) rfl ?_;clear H;intro a H;refine s_call KZ H wn rfl (Qs _ _ H.ro D l hv hok hz) rfl ?_;clear H;rintro v9 G9 a w hr wo H;obtain ⟨R,hR⟩:∃ R,R=jL (fK 0 0 l) 1:=⟨_,rfl⟩
 have hfn:Fu l s=R.find? fun x=>decide (x.name=s):=by rw [hR];rfl
 rw [← hR] at hr;obtain ⟨A9,n9,c9,rfl⟩:=hr.form;have TB:=hr.len;rw [bX] at TB;subst TB;refine kH H (aS K2 rfl (SQ fun _ K3=>SR fun _ K4=>Rm rfl ?_));clear H K2;intro a H;refine oV H wn rfl rfl ?_;clear H;intro a H;refine s_call abd H wn rfl (aeO _ _ H.ro R (fun x=>decide (x.name=s)) _ _ hr (fun x _=>acC (aL wo hs3) x)) rfl ?_;clear H;rintro v12 Aa a w rfl Ce H;obtain ⟨hx1,hx2⟩:=aeW (l:=R) (p:=fun x=>decide (x.name=s));replace hr:=hr.mono Ce;refine kH H (ak K4 rfl (SR fun _ K5=>Rm rfl (Rc rfl (Kz K5 (Cd rfl ?_ ?_))))) <;> clear H K4 K5
 ·intro dY a H
  try have mQ:=dT dY
  obtain ⟨k,hk,e1,e2⟩:=hx2 mQ;obtain ⟨b,o,rfl,hrow⟩:=JC hr hk;rw [e1] at H;refine kP H (SR fun _ K6=>Rm rfl (Rm rfl (Ri pq ku rfl rfl ?_)));clear H;intro a H;refine bE ku (cs:=R[k].cells) H wn rfl rfl (fun j v hj=>H.hp.aJ (hrow j v hj)) rfl ?_;clear H;intro a H;refine bF ku 0 (vs:=[_,_,_,_,_,_]) _ H wn rfl rfl rfl rfl rfl rfl rfl rfl ?_;clear H;intro w H;dsimp only [List.set,setRow] at H;refine kH H (ak K6 rfl ?_);clear H K6;intro a H;refine cB ?_;refine (eP H results26 (.cons (zK ku (cs:=[_,_,_,_,_,_]) H rfl rfl (H.hp.eF 0 rfl rfl)) (.cons (aR H rfl) .nil)) ?_).1;exact H.rt (by rw [hfn,e2];rfl)
 intro dY a H
 try have mQ:=dF dY
 have e2:=hx1 mQ;refine gI ?_;refine K3 _ _ ?_;clear K3;refine dw (fun _ K7=>?_);refine kr Ot [_,_,_,_,_,_] H wn rfl rfl rfl rfl ?_;clear H;intro a H;refine bF ku 0 (vs:=[_,_,_,_,_,_]) _ H wn rfl rfl rfl rfl rfl rfl rfl rfl ?_;clear H;intro w H;dsimp only [List.set,setRow] at H;refine kH H (ak K7 rfl ?_);clear H K7;intro a H;refine cB ?_;refine (eP H results26 (.cons (zK ku (cs:=[_,_,_,_,_,_]) H rfl rfl (H.hp.eF 0 rfl rfl)) (.cons (aR H rfl) .nil)) ?_).1;exact H.rt (by rw [hfn,e2];rfl)
end
section
open Go.RowKit
end
section
open Go.RowKit
theorem Q8:∀ args w,(callFunc 103 args).run prog w=.ok (.enter 103 args) w:=enters func103 rfl (by kernel_rfl)
def eZ:Nat→List ay→List (Nat × ay)
 | _,[]=>[]
 | o,x :: l=>(o,x) :: eZ (o+dK x) l
def Ee (a:Nat × ay):AP:=fun args g=>∃ cs,args=[vi a.1,.agg cs.toArray]∧aW g a.2.dat cs
theorem Uw {A:List (Nat × ay)} {k:Nat} {args:List aj} {g:GH} (h:tq (A.map Ee) k args g):∃ (hk:k < A.length) (cs:List aj),args=[vi A[k].1,.agg cs.toArray]∧aW g A[k].2.dat cs:=by
 obtain ⟨p,hp,hargs⟩:=h;rw [qp] at hp;obtain ⟨q,hq,rfl⟩:=kU.1 hp;obtain ⟨hk,rfl⟩:=iW.1 hq;obtain ⟨cs,h1,h2⟩:=hargs;exact ⟨hk,cs,h1,h2⟩
theorem U6:∀ (l:List ay) (o:Nat),(eZ o l).length=l.length
 | [],_=>rfl
 | x :: l,o=>by simp [eZ,U6 l]
theorem OH (x:ay):dK x < cK x.dat:=by
 have:=oH x;have h2:=EY x.text
 unfold dK;split <;> omega
set_option maxHeartbeats 1000000 in
theorem aeT {G:GH} {bd:Nat} {l:List ay} {v:aj} (hb:aJ G bd 0=some v) (hv:av G (.sl 11 (l.map ay.dat)) v) (hz:bg l≤4294967290) :
  Iter prog G (.func (.func 103) #[] #[(aH bd 0)]) ((eZ 0 l).map Ee):=by
 intro J Jx fv G1 L w0 Te hGi uj hJx hJ hO hcb;refine lH (caps:=[(aH bd 0)]) Q8 ?_;obtain ⟨A,c,rfl,hc1,hc2,hg⟩:=hv.slice;rw [bX] at *;have hll:=Db l;replace hb:=aL hGi hb;refine jy (N:=28) (T:=[(0,_),(1,_)]) func103 rfl ntmps103 rfl rfl hO ?_;intro a H;refine kP H (SR fun _ K1=>ak K1 rfl (SR fun _ K2=>Rg iG rfl (by assumption) ?_));clear H K1;intro a H;refine kH H (Rl gD rfl (Rm rfl (Kz K2 (SB ?_))));clear H K2;intro a H;skip;refine fJ (ι:=Nat × Nat × Nat × OL × GH) (Tc:=[(0,_),(8,_),(9,_)]) (Lc:=[]) (fun gh=>[(3,vi gh.2.1),(10,vi gh.1)]) (fun gh=>[]++gh.2.2.2.1) (fun gh=>gh.2.2.2.2) (fun gh=>gh.1≤l.length∧(∀ b o,G1 b=some o→gh.2.2.2.2 b=some o)∧Now ((eZ 0 l).map Ee) Ee J (eZ 0 l).length gh.2.2.1 (eZ gh.2.1 (l.drop gh.1)) gh.2.2.2.2 gh.2.2.2.1∧gh.2.1+bg (l.drop gh.1)≤4294967290) (fun gh=>l.length - gh.1) ((0,0,0,L,G1)) (by exact (H).sub ⟨rfl,rfl,rfl,rfl,rfl,aC⟩) ?_ ?_
 ·exact ⟨by omega,fun _ _ h=>h,⟨hJ,fun i a h=>by rw [jN,qp];rw [uQ] at h;rw [h];rfl,by simp⟩,by simp;omega⟩
 clear H;intro gh a w hI H;obtain ⟨k,at_,j1,Lt,g⟩:=gh;dsimp only at hI H;obtain ⟨hk,hgm,dR,hat⟩:=hI;dsimp only [lca,bC] at H;refine aZ (fun _ K3=>?_);skip;refine kP H (SC (Rc rfl (Kn K3 (SQ fun _ K4=>Cd rfl ?_ ?_)))) <;> clear H K3
 ·intro h11 a H
  try have nQ:=dT h11
  have hk2:k < l.length:=by omega
  obtain ⟨b,o,pA,pn,pc,dA,dn,dc,yA,yn,yc,fA,fn,fc,rA,rn,rc,rfl,hrow,hhd,hfl,hrw⟩:=yZ hk2 hg;have IE:∀ b o,G b=some o→g b=some o:=fun b o h=>hgm b o (hGi b o h);replace hrow:=fun j u hj=>aL IE (hrow j u hj);have hsz2:=J2 (jk hk2);have hn1:=OH l[k];have hzi:=oH l[k];rw [mK hk2] at dR hat;rw [bg,eU,dZ] at hat;rw [eZ] at dR;refine kP H (Kc K4 (SQ fun _ K5=>SB (SR fun _ K6=>Ri gD dH rfl rfl ?_)));clear H K4;intro a H;refine bE dH (cs:=[_,_,_,_,_,_,_,_,_,_,_]) H wn rfl rfl (fun j v hj=>H.hp.aJ (hrow j v hj)) rfl ?_;clear H;intro a H;refine fq dH H wn rfl ?_;clear H;intro b5 a w hb5 H;refine bF dH 0 (vs:=[_,_,_,_,_,_,_,_,_,_,_]) _ H wn rfl rfl rfl rfl rfl rfl rfl rfl ?_;clear H;intro w H;dsimp only [List.set,setRow] at H;refine K6 _ _ ?_;clear K6;refine kP H (SQ fun _ K7=>SR fun _ K8=>Rm rfl (Rm rfl ?_));clear H;intro a H;refine bE dH (cs:=[_,_,_,_,_,_,_,_,_,_,_]) H wn rfl rfl (H.hp.eF 0 rfl rfl) rfl ?_;clear H;intro a H;refine Eo (Li:=[_]) (L:=Lt) H wn rfl rfl (hcb j1 _ _ _ _ ⟨_,dR.head,_,rfl,aW.mkItem (hhd.mono IE) (hfl.mono IE) (hrw.mono IE)⟩ hgm dR.now (Hp.owns (Li:=[_]) H.hp)) rfl ?_;clear H;rintro v17 yE Kj a w ⟨b17,rfl,hb1,hb2⟩ pR H;refine kH H (Rn rfl (Kz K8 (Cd rfl ?_ ?_))) <;> clear H K8
  ·intro h18 a H
   try have vo:=dT h18
   refine cB ?_;refine (leave0 H results103 ?_).1
   first
    | exact H.hp.gL (L':=Kj) (by repeat (first|exact iy _|apply List.Sublist.cons)) (.inr (hb2 (by simpa using h18)))
    | exact H.hp.dW (.inl (by have:=dR.len;rw [iK (by omega)] at this;simp only [eZ,List.length_nil,qX] at this;(try rw [bX]);rw [← this];exact dR.now))
  intro h18 a H
  try have vo:=dF h18
  refine gI ?_;refine K7 _ _ ?_;clear K7;refine dw (fun _ K9=>?_);refine bE dH (cs:=[_,_,_,_,_,_,_,_,_,_,_]) H wn rfl rfl (H.hp.eF 0 rfl rfl) rfl ?_;clear H;intro a H;refine s_call Lm H wn rfl (OI _ _ H.ro _ _ _ _ _ _ _ _ _ _ (by omega)) rfl ?_;clear H;rintro v21 _ a w ⟨rfl,rfl⟩ - H;refine kH H (Rm rfl ?_);clear H;intro a H;(iterate 2 refine jS H wn rfl rfl rfl ?_;clear H;intro a H);refine kH H (Ra rfl (ak K9 rfl (SC (Rm rfl (Rm rfl (Rd rfl (aS K5 rfl (SC (Rd rfl (Rm rfl ?_))))))))));clear H K9 K5;intro a H;refine aI ?_;refine dN ((k+1,at_+dK l[k],j1+1,Kj,yE)) (by exact (H.dX (Pl:=[_]) (dz:=[]) [] (by decide) rfl).sub ⟨rfl,rfl,rfl,rfl,rfl,aC⟩) ?_ ?_
  ·(try dsimp only);exact ⟨by omega,fun b o h=>pR b o (hgm b o h),dR.step (hb1 (by simpa using h18)),by show at_+dK l[k]+dZ ((l.drop (k+1)).map ay.dat)≤4294967290;omega⟩
  first|omega|(dsimp only;omega)
 intro h11 a H
 try have nQ:=dF h11
 refine eX ?_;refine (leave0 H results103 ?_).2
 first
  | exact H.hp.gL (L':=Kj) (by repeat (first|exact iy _|apply List.Sublist.cons)) (.inr (hb2 (by simpa using h18)))
  | exact H.hp.dW (.inl (by have:=dR.len;rw [iK (by omega)] at this;simp only [eZ,List.length_nil,qX] at this;(try rw [bX]);rw [← this];exact dR.now))
theorem aeU (G:GH) (w0:World) (hG:Hold G w0) (l:List ay) (v:aj) (hv:av G (.sl 11 (l.map ay.dat)) v) (hz:bg l≤4294967290) :
  Calls prog 68 #[v] w0 (bA w0 G fun u G'=>∃ bd,u=.func (.func 103) #[] #[(aH bd 0)]∧Iter prog G' u ((eZ 0 l).map Ee)):=by
 obtain ⟨A,c,rfl,hc1,hc2,hg⟩:=hv.slice;refine eN [(0,_)] func68 rfl ntmps68 rfl rfl hG ?_;intro a H;refine dw (fun _ K1=>?_);refine fu (cs:=[_]) H wn rfl rfl rfl ?_;clear H;intro b1 a w hb1 H;refine kH H (ak K1 rfl (SR fun _ K2=>?_));clear H K1;intro a H;refine oV H wn rfl rfl ?_;clear H;intro a H;refine kH H (ak K2 rfl ?_);clear H K2;intro a H;refine cB ?_;obtain ⟨G2,hm2,hb1,H⟩:=H.dJ;refine lv H results68 rfl ?_;exact H.rt ⟨b1,rfl,aeT (by unfold aJ;rw [hb1];rfl) (hv.mono hm2) hz⟩
end
section
open Go.RowKit
theorem abp:∀ args w,(callFunc 68 args).run prog w=.ok (.enter 68 args) w:=enters func68 rfl (by kernel_rfl)
def sJ (t:Int) (a:Nat × ay):Bool:=decide ((a.1:Int)+dK a.2≤t)
def lA (t:Int) (A:List (Nat × ay)):List ay:=(A.filter (sJ t)).map (·.2)
def rA (t:Int) (A:List (Nat × ay)):List ay:=(A.filter fun a=>!sJ t a).map (·.2)
theorem afd {t:Int} {A:List (Nat × ay)} {k:Nat} (hk:k < A.length) (h:sJ t A[k]=true):lA t (A.take (k+1))=lA t (A.take k)++[A[k].2]∧rA t (A.take (k+1))=rA t (A.take k):=by
 rw [jF hk];simp only [lA,rA,List.filter_append,qy];simp [h]
theorem afc {t:Int} {A:List (Nat × ay)} {k:Nat} (hk:k < A.length) (h:sJ t A[k]=false):lA t (A.take (k+1))=lA t (A.take k)∧rA t (A.take (k+1))=rA t (A.take k)++[A[k].2]:=by
 rw [jF hk];simp only [lA,rA,List.filter_append,qy];simp [h]
theorem afb (t:Int) (A:List (Nat × ay)):(lA t A).length≤A.length:=by simp only [lA,bX];exact List.length_filter_le _ _
theorem agj (t:Int) (A:List (Nat × ay)):(rA t A).length≤A.length:=by simp only [rA,bX];exact List.length_filter_le _ _
def oC (t:Int) (l:List ay):List ay:=lA t (eZ 0 l)
def vB (t:Int) (l:List ay):List ay:=rA t (eZ 0 l)
theorem U7:∀ {l:List ay} {o:Nat} {a:Nat × ay},a∈eZ o l→a.2∈l∧a.1+cK a.2.dat≤o+bg l
 | [],_,_,h=>by cases h
 | x :: l,o,a,h=>by
  rw [eZ] at h;have hu:=OH x
  rcases lF.1 h with rfl|h
  ·exact ⟨iH,by simp only [bg,eU,dZ];omega⟩
  obtain ⟨h1,h2⟩:=U7 h;exact ⟨mM _ h1,by simp only [bg,eU,dZ] at *;omega⟩
theorem QZ (G:GH) (w0:World) (hG:Hold G w0) (l:List ay) (t:Int) (v:aj) (hv:av G (.sl 11 (l.map ay.dat)) v) (hz:bg l≤1073741824) (hcut:∀ a∈eZ 0 l,sJ t a=true∨t≤a.1) :
  Calls prog 43 #[v,vi t] w0 (bA w0 G fun u G'=>∃ x y,u=.tuple #[x,y]∧av G' (.sl 11 ((oC t l).map ay.dat)) x∧av G' (.sl 11 ((vB t l).map ay.dat)) y):=by
 have hml:4294967297≤maxLen:=by decide
 have hll:=Db l;have hol:=U6 l 0;obtain ⟨A,hA⟩:∃ A,A=eZ 0 l:=⟨_,rfl⟩;refine eN [(0,_),(1,_)] func43 rfl ntmps43 rfl rfl hG ?_;intro a H;refine dw (fun _ K1=>?_);refine fu (cs:=[_]) H wn rfl rfl rfl ?_;clear H;intro b3 a w hb3 H;refine fq iG H wn rfl ?_;clear H;intro b4 a w hb4 H;refine fq iG H wn rfl ?_;clear H;intro b5 a w hb5 H;refine K1 _ _ ?_;clear K1;refine kP H (SQ fun _ K2=>SR fun _ K3=>Rm rfl ?_);clear H;intro a H;refine s_call abp H wn rfl (aeU _ _ H.ro l v hv (by omega)) rfl ?_;clear H;rintro v14 EF a w ⟨bd,rfl,hit⟩ M6 H;rw [← hA] at hit hcut hol;refine K3 _ _ ?_;clear K3;refine xq ?_;skip;refine QB (ι:=aj × aj × List aj × List aj × OL × OL) (κ:=Empty) (Lc:=[(_,_)]) (fun (k:Nat) (gh:aj × aj × List aj × List aj × OL × OL)=>[(b4,.cells #[gh.1] 22 (0,0)),(b5,.cells #[gh.2.1] 22 (0,0))]) (fun (k:Nat) (gh:aj × aj × List aj × List aj × OL × OL)=>gh.2.2.2.2.1++gh.2.2.2.2.2) (fun (k:Nat) (gh:aj × aj × List aj × List aj × OL × OL) (g:GH)=>dx 63 11 gh.1 (lA t (A.take k)).length gh.2.2.1 gh.2.2.2.2.1∧fI g 11 ((lA t (A.take k)).map ay.dat) gh.2.2.1∧dx 63 11 gh.2.1 (rA t (A.take k)).length gh.2.2.2.1 gh.2.2.2.2.2∧fI g 11 ((rA t (A.take k)).map ay.dat) gh.2.2.2.1) (fun x=>x.elim) (fun x=>x.elim) (fun x=>x.elim) (fun x=>x.elim) ((.slice none 0 0,.slice none 0 0,[],[],[],[])) (by exact (H.U3 (A:=[_,_,_])).dX (Pl:=[_,_,_]) (dz:=[_,_,_]) [2,1,0] (by decide) rfl) rfl Q8 (hit) (fun _ _ h=>h) rfl (fun k args g h=>by obtain ⟨_,_,rfl,_⟩:=Uw h;rfl) (fun k i G G' hm h=>⟨h.1,h.2.1.mono hm,h.2.2.1,h.2.2.2.mono hm⟩) (fun x=>x.elim) (⟨dx.nil,fI.nil,dx.nil,fI.nil⟩) ?_ ?_ ?_
 ·clear H;intro l2 AV xk bk k args gh G2 w2 F2 B2 a hk2 hm2 hI MV IV Ub H;obtain ⟨vl,vr,xl,xr,Ll,Lr⟩:=gh;dsimp only at hI H;obtain ⟨hk,cs,rfl,hcs⟩:=Uw hk2;obtain ⟨-,hza⟩:=U7 (l:=l) (o:=0) (a:=A[k]) (by rw [← hA];exact jk hk);have hzi:=oH A[k].2;have hun:=OH A[k].2;have hlk:=afb t (A.take k);have Ni:=agj t (A.take k);rw [List.length_take] at hlk Ni;obtain ⟨pA,pn,pc,dA,dn,dc,yA,yn,yc,fA,fn,fc,Vm,rn,rc,rfl,hh,hf,hr⟩:=hcs.item;dsimp only [vL,List.cons_append,List.nil_append] at H;obtain ⟨hrl,hcl,hrr,hcr⟩:=hI;refine kP H (SR fun _ K4=>ak K4 rfl (SC ?_));clear H K4;intro a H;refine fq dH H wn rfl ?_;clear H;intro b7 a w DZ H;refine bF dH 0 (vs:=[_,_,_,_,_,_,_,_,_,_,_]) _ H wn rfl rfl rfl rfl rfl rfl rfl rfl ?_;clear H;intro w H;dsimp only [List.set,setRow] at H;refine aI ?_;refine MV _ _ _ _ _ _ (by exact H.dX (Pl:=[_,_,_,_,_]) (dz:=[_,_,_,_,_]) [1,0,2,3,4] (by decide) rfl) ?_;clear H;intro w H;refine xq ?_;refine dw (fun _ K5=>?_);refine bE dH (cs:=[_,_,_,_,_,_,_,_,_,_,_]) H wn rfl rfl (H.hp.eF 1 rfl rfl) rfl ?_;clear H;intro a H;refine s_call Lm H wn rfl (OI _ _ H.ro A[k].2 _ _ _ _ _ _ _ _ _ (by omega)) rfl ?_;clear H;rintro v19 _ a w ⟨rfl,rfl⟩ - H;refine kH H (Rm rfl ?_);clear H;intro a H;(iterate 2 refine jS H wn rfl rfl rfl ?_;clear H;intro a H);refine kH H (Ra rfl (ak K5 rfl (SB (SR fun _ K6=>Rm rfl (Rm rfl (Rd rfl (Ro aF 2 rfl (Rc rfl (ak K6 rfl (Cd rfl ?_ ?_)))))))))) <;> clear H K5 K6
  ·intro h50 a H
   try have p50:=dT h50
   have hfit:sJ t A[k]=true:=h50;obtain ⟨e1,e2⟩:=afd hk hfit;obtain ⟨vA,vc,rfl,-,-⟩:=hrl.shape;have H:=H.perm (Vj [_,_,_,_,_] bk Ll Lr);refine Qx (i0:=3) (i1:=1) hmx (by kernel_rfl) gD iG dH rfl rfl rfl rfl rfl (by kernel_rfl) rfl (by decide) H rfl rfl rfl rfl rfl rfl hrl (by omega) (by omega) ?_;clear H;intro vl Ll wT a w xK TT H;have H:St _ _ _ _ _ _ ([_,_,_,_,_]++(bk++(Ll++Lr))) _ _ _:=H.perm (Vj [_,_,_,_,_] bk Ll Lr).symm;dsimp only [lca,bC] at H;obtain ⟨xl,hxl⟩:∃ x,x=xl++[vi A[k].2.kind,vi A[k].2.code,vi A[k].2.id,.string A[k].2.text,.slice pA pn pc,vi A[k].2.head.marks.ins,vi A[k].2.head.marks.move,.slice dA dn dc,.slice yA yn yc,.slice fA fn fc,.slice Vm rn rc]:=⟨_,rfl⟩;rw [← hxl] at TT
   have hI:dx 63 11 vl (lA t (A.take (k+1))).length xl Ll∧fI wT 11 ((lA t (A.take (k+1))).map ay.dat) xl∧dx 63 11 vr (rA t (A.take (k+1))).length xr Lr∧fI wT 11 ((rA t (A.take (k+1))).map ay.dat) xr:=by
    rw [e1,e2,nH,qy];exact ⟨TT,by rw [hxl];exact (hcl.mono xK).snoc (hcs.mono xK) rfl,hrr,hcr.mono xK⟩
   refine IV ((vl,vr,xl,xr,Ll,Lr)) _ _ _ _ _ (by exact H.dX (Pl:=[_,_,_,_,_]) (dz:=[_,_,_,_]) [0,2,3,4] (by decide) rfl) ?_;exact hI
  intro h50 a H
  try have p50:=dF h50
  have hfit:sJ t A[k]=false:=h50;obtain ⟨e1,e2⟩:=afc hk hfit;refine kP H (SR fun _ K7=>Rm rfl (Ro aF 2 rfl (Rc rfl (ak K7 rfl (Cd rfl ?_ ?_))))) <;> clear H K7
  ·intro Md a H
   try have p62:=dT Md
   obtain ⟨vA,vc,rfl,-,-⟩:=hrr.shape;have H:=H.cast (Vi [_,_,_,_,_] bk Ll Lr);refine Qx (i0:=4) (i1:=1) hmx (by kernel_rfl) gD iG dH rfl rfl rfl rfl rfl (by kernel_rfl) rfl (by decide) H rfl rfl rfl rfl rfl rfl hrr (by omega) (by omega) ?_;clear H;intro vr Lr wT a w xK TV H;have H:St _ _ _ _ _ _ ([_,_,_,_,_]++(bk++(Ll++Lr))) _ _ _:=H.cast (Vi [_,_,_,_,_] bk Ll Lr).symm;dsimp only [lca,bC] at H;obtain ⟨xr,Ul⟩:∃ x,x=xr++[vi A[k].2.kind,vi A[k].2.code,vi A[k].2.id,.string A[k].2.text,.slice pA pn pc,vi A[k].2.head.marks.ins,vi A[k].2.head.marks.move,.slice dA dn dc,.slice yA yn yc,.slice fA fn fc,.slice Vm rn rc]:=⟨_,rfl⟩;rw [← Ul] at TV
   have hI:dx 63 11 vl (lA t (A.take (k+1))).length xl Ll∧fI wT 11 ((lA t (A.take (k+1))).map ay.dat) xl∧dx 63 11 vr (rA t (A.take (k+1))).length xr Lr∧fI wT 11 ((rA t (A.take (k+1))).map ay.dat) xr:=by
    rw [e1,e2,nH,qy];exact ⟨hrl,hcl.mono xK,TV,by rw [Ul];exact (hcr.mono xK).snoc (hcs.mono xK) rfl⟩
   refine IV ((vl,vr,xl,xr,Ll,Lr)) _ _ _ _ _ (by exact H.dX (Pl:=[_,_,_,_,_]) (dz:=[_,_,_,_]) [0,2,3,4] (by decide) rfl) ?_;exact hI
  intro Md a H
  try have p62:=dF Md
  exact absurd (hcut _ (jk hk)) (by rw [hfit];simp only [BH,false_or];omega)
 ·clear H;intro O1 gh Pj a w hm2 hI H;obtain ⟨vl,vr,xl,xr,Ll,Lr⟩:=gh;dsimp only at hI H;dsimp only [lca,bC] at H;obtain ⟨hrl,hcl,hrr,hcr⟩:=hI;rw [show A.take (A.map Ee).length=A by rw [bX,Ah]] at hrl hcl hrr hcr;obtain ⟨lA0,lc0,rfl,-,-⟩:=hrl.shape;obtain ⟨rA0,rc0,rfl,-,-⟩:=hrr.shape;refine K2 _ _ ?_;clear K2;refine aZ (fun _ K8=>?_);refine dI hmx [[],[],[0],[0,1,2]] [] (by kernel_rfl) [.slice lA0 (lA t A).length lc0,.slice rA0 (rA t A).length rc0] H (aB (Z0 rfl (Ro iG 2 rfl)) (Z0 rfl (Ro iG 3 rfl)) ?_ ?_ cO) ?_
  ·intro bV a w G1 _ bP hc hG HT hv;have H:=HT;clear bP;have H:=H.aV (hv 0 72 (hc 0 (by decide)) rfl) rfl;have Hb:=H.full;have H:=Hb;clear hc;refine bF iG 2 (vs:=[_]) _ H wn rfl rfl rfl rfl rfl rfl rfl rfl ?_;clear H;intro w H;dsimp only [List.set,setRow] at H;refine aI ⟨rfl,?_⟩;exact Q5 rfl HT hG hv H
  ·intro bV a w G1 _ bP hc hG HT hv;have H:=HT;clear bP;have H:=H.aV (hv 1 73 (hc 1 (by decide)) rfl) rfl;have Hb:=H.full;have H:=Hb;clear hc;refine bF iG 3 (vs:=[_]) _ H wn rfl rfl rfl rfl rfl rfl rfl rfl ?_;clear H;intro w H;dsimp only [List.set,setRow] at H;refine aI ⟨rfl,?_⟩;exact Q5 rfl HT hG hv H
  clear H;intro a w G Ip H hv;clear hv;refine aI ⟨rfl,?_⟩;refine K8 _ _ ?_;clear K8;refine cB ?_;obtain ⟨Br,AA,hgr,H⟩:=St.vg (Li:=[_,_,_,_]++Ll) (St.un (A:=[_,_,_,_]) H) hrr (rows:=(rA t A).map ay.dat) (by simp) (hcr.mono Ip);obtain ⟨J9,wm,hgl,H⟩:=St.vg (Li:=[_,_,_,_]) H hrl (rows:=(lA t A).map ay.dat) (by simp) ((hcl.mono Ip).mono AA);replace hgr:=hgr.mono wm;refine (F3 H 0 rfl ?_).1;clear H;intro a w H;dsimp only [List.eraseIdx_cons_succ,List.eraseIdx_cons_zero] at H;refine (eP H results43 (.cons (rP iG H rfl (H.hp.mP 1 rfl rfl)) (.cons (rP iG H rfl (H.hp.mP 2 rfl rfl)) .nil)) ?_).1;exact H.rt ⟨_,_,rfl,by rw [oC,← hA];exact hgl,by rw [vB,← hA];exact hgr⟩
 intro Dk x;exact x.elim
end
section
open Go.RowKit
theorem dx.ptr {e sz n c:Nat} {A:Option Addr} {xs:List aj} {Lo:OL} (h:dx e sz (.slice A n c) n xs Lo) (hn:0 < n):∃ b,A=some ⟨b,0,none⟩:=by
 rcases h.2 with ⟨_,h0,_⟩|⟨b,cap,cur,he,_⟩
 ·omega
 ·injection he with e1;exact ⟨b,e1⟩
theorem dx.at {w0 w:World} {F:Nat→Prop} {G0 G:GH} {L Lo:OL} {e sz n c b o:Nat} {xs:List aj} (h:dx e sz (.slice (some ⟨b,o,none⟩) n c) n xs Lo) (H:Hp w0 F G0 G L w) (hsub:∀ x∈Lo,x∈L) {i:Nat} {u:aj} (hi:xs[i]?=some u):w.cell? ⟨b,i,none⟩=some u:=by
 rcases h.2 with ⟨h1,_⟩|⟨b2,cap,cur,he,hl,h1,h2,h3,h4⟩
 ·cases h1
 ·injection he with e1
  injection e1 with e1
  injection e1 with e1
  subst e1
  refine H.UR (c:=cur) (e:=e) (fz:=(0,0)) (hsub _ (by rw [hl];exact List.mem_singleton_self _)) ?_
  have hx:i < xs.length:=(iW.1 hi).1
  rw [h.1] at hx
  rw [← h4,rX,au hx,Array.getElem?_toList] at hi
  exact hi
theorem flat_get {sz:Nat}:∀ {css:List (List aj)} {k:Nat} (hk:k < css.length) (h:∀ cs∈css,cs.length=sz) (j:Nat),j < sz→css.flatten[k*sz+j]?=css[k][j]?
 | c :: css,0,_,h,j,hj=>by
  rw [List.flatten_cons,Nat.zero_mul,jN,List.getElem_cons_zero,uP (by rw [h c iH];exact hj)]
 | c :: css,k+1,hk,h,j,hj=>by
  have ih:=flat_get (css:=css) (k:=k) (by simpa using hk) (fun cs hc=>h cs (mM _ hc)) j hj
  rw [List.flatten_cons,List.getElem_cons_succ,vK (by rw [h c iH,Nat.succ_mul];omega),h c iH,show (k+1)*sz+j - sz=k*sz+j by rw [Nat.succ_mul];omega]
  exact ih
theorem fI.at {G:GH} {sz:Nat} {rows:List (List Dat)} {xs:List aj} (h:fI G sz rows xs) {k:Nat} {r:List Dat} (hk:rows[k]?=some r):∃ cs,cs.length=sz∧(∀ j u,cs[j]?=some u→xs[k*sz+j]?=some u)∧aW G r cs:=by
 obtain ⟨css,rfl,h2,h3⟩:=h
 have hkl:k < css.length:=by rw [h2];exact (iW.1 hk).1
 obtain ⟨hr,hl⟩:=h3 k r css[k] hk (gZ hkl)
 refine ⟨css[k],hl,fun j u hj=>?_,hr⟩
 rw [flat_get hkl (fun cs hc=>?_) j (by rw [← hl];exact (iW.1 hj).1)]
 ·exact hj
 ·obtain ⟨i,hi,rfl⟩:=List.getElem_of_mem hc
  exact (h3 i rows[i] css[i] (gZ (by omega)) (gZ hi)).2
end
end Go.Proofs.YteopmoocmoigcaaGreat
