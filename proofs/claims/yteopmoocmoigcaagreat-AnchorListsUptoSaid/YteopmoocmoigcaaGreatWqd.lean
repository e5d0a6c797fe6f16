/-
  What the claim stands on, part 4: Nck Cid Mt Ehd Hdr Hea Frm Itc Vis Okd Ubf Av16 Mz Vn15 Sp16 Cl Avi16 Gco Lst16 En Spn16 Ml16.
-/
import Derived.Test.YteopmoocmoigcaaGreatWqc
namespace Go.Proofs.YteopmoocmoigcaaGreat
open Go.Proofs.Tryz
section
open Go.RowKit
theorem yI:prog.underlying 145=some (.map 3 4):=by kernel_rfl
theorem Dw:Ty prog 176 3 32 [.int .i64 0,.string ⟨#[]⟩,.int .i64 0] true:=⟨by kernel_rfl,by kernel_rfl⟩
theorem aiq:oU prog 147 [(0,1),(1,1),(2,1),(3,1),(4,1),(5,1)] [.map none,.map none,.map none,.map none,.map none,.int .i64 0]:=⟨by kernel_rfl,by kernel_rfl⟩
theorem I5:bV prog 38 3 7:=⟨by kernel_rfl⟩
theorem FP:bV prog 147 0 0:=⟨by kernel_rfl⟩
theorem Hg:Ty prog 114 1 8 [.map none] false:=⟨by kernel_rfl,by kernel_rfl⟩
theorem Ti:bV prog 147 1 1:=⟨by kernel_rfl⟩
theorem yF:Ty prog 145 1 8 [.map none] false:=⟨by kernel_rfl,by kernel_rfl⟩
theorem MG:bV prog 38 2 6:=⟨by kernel_rfl⟩
theorem BA:Ty prog 30 1 24 [.slice none 0 0] false:=⟨by kernel_rfl,by kernel_rfl⟩
theorem BG:prog.underlying 30=some (.slice 176):=by kernel_rfl
theorem FQ:bV prog 147 2 2:=⟨by kernel_rfl⟩
theorem Tk:bV prog 176 0 0:=⟨by kernel_rfl⟩
structure eX where
 id:Int
 author:ByteArray
 time:Int
def eX.dat (x:eX):List Dat:=[li x.id,.lf (.string x.author),li x.time]
abbrev eX.cells (x:eX):List aj:=[vi x.id,.string x.author,vi x.time]
theorem ahx {G:GH} {x:eX} {cs:List aj} (h:aY G x.dat cs):cs=x.cells:=by
 simp only [eX.dat,aY,av] at h
 obtain ⟨_,_,rfl,⟨rfl,_⟩,_,_,rfl,⟨rfl,_⟩,_,_,rfl,⟨rfl,_⟩,rfl⟩:=h
 rfl
theorem Ph {G:GH} {l:List eX} {A:Option Addr} {n c k:Nat} (hv:av G (.sl 3 (l.map eX.dat)) (.slice A n c)) (hk:k < l.length):∃ b o,A=some ⟨b,o,none⟩∧(∀ j u,l[k].cells[j]?=some u→aJ G b (o+k*3+j)=some u):=by
 obtain ⟨A',c',he,_,_,hg⟩:=hv.slice
 injection he with e1 e2 e3
 subst e1;obtain ⟨b,o,cs,h1,h2,h3,h4⟩:=hg k l[k].dat (by simp [hk]);have:=ahx h4;subst this;exact ⟨b,o,h1,h3⟩
abbrev fD (b ms ml mr mb mu:Nat) (n:Int):Nat × Obj:=(b,.cells #[.map (some ms),.map (some ml),.map (some mr),.map (some mb),.map (some mu),vi n] 147 (0,0))
def yj (l:List bM):List (Int × aj):=l.map fun s=>(s.id,vi s.kind)
def fE (l:List Int):List (Int × aj):=l.map fun k=>(k,.bool true)
structure sF (G:GH) (st:List bM) (li:List fI) (rv:List eX) (ms ml mr mu:Nat):Prop where
 sty:G ms=some (fB (yj st))
 wT:G ml=some (fB (fE (li.map fI.id)))
 rev:G mr=some (fB (fE (rv.map eX.id)))
 use:G mu=some (fB [])
theorem sF.mono {G G':GH} {st:List bM} {li:List fI} {rv:List eX} {ms ml mr mu:Nat} (h:sF G st li rv ms ml mr mu) (hm:∀ b o,G b=some o→G' b=some o):sF G' st li rv ms ml mr mu:=⟨hm _ _ h.sty,hm _ _ h.wT,hm _ _ h.rev,hm _ _ h.use⟩
def yL (l:List Int):Prop:=∀ (k:Nat) (h:k < l.length),l[k]∉l.take k
theorem agq {l:List bM} {k:Nat} (h:k < l.length):yj (l.take (k+1))=yj (l.take k)++[(l[k].id,vi l[k].kind)]:=by rw [yj,jE h,nD];rfl
theorem Vx {l:List Int} {k:Nat} (h:k < l.length):fE (l.take (k+1))=fE (l.take k)++[(l[k],.bool true)]:=by rw [fE,jE h,nD];rfl
theorem agp {l:List bM} {k:Nat} (f:yL (l.map bM.id)) (h:k < l.length):qp l[k].id (yj (l.take k))=none:=by
 refine JH ?_;have:=f k (by simpa using h)
 simpa [yj,List.map_take,List.map_map,Function.comp_def] using this
theorem Vw {l:List Int} {k:Nat} (f:yL l) (h:k < l.length):qp l[k] (fE (l.take k))=none:=by
 refine JH ?_;have:=f k h
 simpa [fE,List.map_map,Function.comp_def] using this
theorem agE (G:GH) (w0:World) (hO:gW G [] w0) (D:nK) (st:List bM) (li:List fI) (rv:List eX) (hst:av G (.sl 6 (st.map bM.dat)) (fq D.s1)) (Gf:av G (.sl 2 (li.map fI.dat)) (fq D.s2)) (wN:av G (.sl 3 (rv.map eX.dat)) (fq D.r))
  (f1:yL (st.map bM.id)) (f2:yL (li.map fI.id)) (f3:yL (rv.map eX.id)) (z1:st.length≤4294967296) (z2:li.length≤4294967296) (z3:rv.length≤4294967296) :
  Calls prog 57 #[D.val] w0 (gF w0 G [] fun u G' L'=>∃ b ms ml mr mb mu,u=(aI b 0)∧L'=[fD b ms ml mr mb mu 0,(mb,fB [])]∧sF G' st li rv ms ml mr mu):=by
 obtain ⟨df,dp,dd,dy,⟨rA,rn,rc⟩,⟨sA,sn,sc⟩,⟨lA,ln,lc⟩,d3,d4,ins,mv⟩:=D;dsimp only at hst Gf wN
 obtain rfl:sn=st.length:=by have:=hst.len;simpa using this
 obtain rfl:ln=li.length:=by have:=Gf.len;simpa using this
 obtain rfl:rn=rv.length:=by have:=wN.len;simpa using this
 have hml:maxLen=9223372036854775807:=rfl;refine jN (N:=64) (T:=[(0,_)]) func57 rfl ntmps57 rfl rfl hO ?_;intro a H;refine cO (fun _ K1=>?_);refine fC (cs:=[_,_,_,_,_,_,_,_,_,_,_]) H wn rfl rfl rfl ?_;clear H;intro b1 a w hb1 H;refine kH H (ak K1 rfl (SQ fun _ K2=>?_));clear H K1;intro a H;obtain ⟨Ga,hma,hb1',H⟩:=H.dP
 have hc7:aJ Ga b1 7=some (.slice sA st.length sc):=by unfold aJ;rw [hb1'];rfl
 have hc8:aJ Ga b1 8=some (.slice lA li.length lc):=by unfold aJ;rw [hb1'];rfl
 have hc6:aJ Ga b1 6=some (.slice rA rv.length rc):=by unfold aJ;rw [hb1'];rfl
 replace hst:=hst.mono hma;replace Gf:=Gf.mono hma;replace wN:=wN.mono hma;refine oz ?_;refine Dt H wn rfl ?_;clear H;intro b10 a w F7 H;refine Dt H wn rfl ?_;clear H;intro b11 a w Jf H;refine Dt H wn rfl ?_;clear H;intro b12 a w Bc H;refine Dt H wn rfl ?_;clear H;intro b13 a w Ns H;refine Dt H wn rfl ?_;clear H;intro b14 a w Nt H;refine jJ aiq [_,_,_,_,_,_] H wn rfl rfl rfl rfl ?_;clear H;intro a H;refine fC (cs:=[_,_,_,_,_,_]) H wn rfl rfl rfl ?_;clear H;intro b16 a w ajy H;refine kH H (aV K2 rfl (SQ fun _ K3=>SR fun _ K4=>Rf I5 rfl (Rf ME rfl (Rg qZ rfl (by assumption) ?_))));clear H K2;intro a H;refine kH H (Rl mR rfl (Rm rfl (Kz K4 (SB ?_))));clear H K4;intro a H;skip;refine eZ (ι:=Nat × GH) (Tc:=[(1,_),(3,_),(19,_),(20,_)]) (Lc:=[(_,_),(_,_),(_,_),(_,_),(_,_)]) (fun gh=>[(21,vi gh.1)]) (fun gh=>[(b10,fB (yj (st.take gh.1)))]) (fun gh=>gh.2) (fun gh=>gh.1≤st.length∧(∀ b o,Ga b=some o→gh.2 b=some o)) (fun gh=>st.length - gh.1) ((0,Ga)) (by exact (H).sub ⟨rfl,rfl,rfl,rfl,rfl,aB⟩) ?_ ?_
 ·exact ⟨iK _,fun _ _ h=>h⟩
 clear H;intro gh a w hI H;obtain ⟨k,g1⟩:=gh;dsimp only at hI H;obtain ⟨hk,Ey⟩:=hI;dsimp only [lca,aZ] at H;refine kP H (SR fun _ K5=>Rc rfl (Kz K5 (SQ fun _ K6=>Cd rfl ?_ ?_))) <;> clear H K5
 ·intro h22 a H
  try have gV:=dT h22
  have hk2:k < st.length:=by omega
  obtain ⟨xb,xo,pA,pc,rfl,hrow,-,-⟩:=Ae (hst.mono Ey) hk2;have hnew:=agp f1 hk2;refine kP H (Kc K6 (SQ fun _ K7=>SB (SR fun _ K8=>Ri mR jK rfl rfl ?_)));clear H K6;intro a H;refine bD jK (cs:=_) H wn rfl rfl (fun j v hj=>H.hp.aJ (hrow j v hj)) rfl ?_;clear H;intro a H;refine eU jK H wn rfl ?_;clear H;intro b5 a w hb5 H;refine bF jK 0 (vs:=[_,_,_,_,_,_]) _ H wn rfl rfl rfl rfl rfl rfl rfl rfl ?_;clear H;intro w H;dsimp only [List.set,setRow] at H;refine K8 _ _ ?_;clear K8;refine dI hmx [[],[0],[0,1],[0,1,2],[],[4],[],[6],(ra 0 8)] [8] (by kernel_rfl) [_,_,_,.map (some b10),_,vi st[k].id,_,vi st[k].kind] H (aD (Z0 rfl (Rm rfl)) (Z1 0 25 rfl (Rk rfl)) (Z1 1 26 rfl (Rf FP rfl)) (Z1 2 27 rfl (Ro Hg 1 rfl)) (aD (Z0 rfl (Rf sP rfl)) (Z1 4 29 rfl (Ro aG 0 rfl)) (Z0 rfl (Rf vk rfl)) (Z1 6 31 rfl (Ro aG 0 rfl)) (aW (bL rfl) bY))) ?_
  clear H;intro a w G AZ H hv;have H:=H.aQ (hv 3 28 rfl rfl) rfl;have H:=H.aQ (hv 5 30 rfl rfl) rfl;have H:=H.aQ (hv 7 32 rfl rfl) rfl;clear hv;refine Ka (i:=6) DC mU H wn rfl rfl rfl rfl hnew ?_;clear H;intro w H;dsimp only [List.set,List.append,lca,aZ] at H;rw [← agq hk2] at H;refine aH ⟨rfl,?_⟩;refine K7 _ _ ?_;clear K7;refine kP H (SC (Rd rfl (Rm rfl ?_)));clear H;intro a H;refine aH ?_;refine dw ((k+1,G)) (by exact (H.dU (Pl:=[_,_,_,_,_,_,_]) (cK:=[_,_,_,_,_,_]) [1,2,3,4,5,6] (by decide) rfl).sub ⟨rfl,rfl,rfl,rfl,rfl,aB⟩) ?_ ?_
  ·(try dsimp only);exact ⟨by omega,fun b o h=>AZ b o (Ey b o h)⟩
  first|omega|(dsimp only;omega)
 intro h22 a H
 try have gV:=dF h22
 obtain rfl:k=st.length:=by omega
 rw [yY] at H;have ajL:=aK Ey hc8;refine dW ?_;refine K3 _ _ ?_;clear K3;refine kP H (SQ fun _ K9=>SR fun _ aS=>Rf I5 rfl (Rf MF rfl (Rg Dy rfl (by assumption) ?_)));clear H;intro a H;refine kH H (Rl DF rfl (Rm rfl (Kz aS (SB ?_))));clear H aS;intro a H;skip;refine eZ (ι:=Nat × GH) (Tc:=[(1,_),(3,_),(36,_),(37,_)]) (Lc:=[(_,_),(_,_),(_,_),(_,_),(_,_)]) (fun gh=>[(38,vi gh.1)]) (fun gh=>[(b11,fB (fE ((li.map fI.id).take gh.1)))]) (fun gh=>gh.2) (fun gh=>gh.1≤li.length∧(∀ b o,g1 b=some o→gh.2 b=some o)) (fun gh=>li.length - gh.1) ((0,g1)) (by exact (H.dU (Pl:=[_,_,_,_,_,_]) (cK:=[_,_,_,_,_,_]) [0,1,2,3,5,4] (by decide) rfl).sub ⟨rfl,rfl,rfl,rfl,rfl,aB⟩) ?_ ?_
 ·exact ⟨iK _,fun _ _ h=>h⟩
 clear H;intro gh a w hI H;obtain ⟨k,g2⟩:=gh;dsimp only at hI H;obtain ⟨hk,Jt⟩:=hI;dsimp only [lca,aZ] at H;refine kP H (SR fun _ bA=>Rc rfl (Kz bA (SQ fun _ bK=>Cd rfl ?_ ?_))) <;> clear H bA
 ·intro kr a H
  try have p39:=dT kr
  have hk2:k < li.length:=by omega
  obtain ⟨xb,xo,B,d,rfl,hrow,-⟩:=Oz ((Gf.mono Ey).mono Jt) hk2
  have hk3:k < (li.map fI.id).length:=by simpa using hk2
  have hnew:=Vw f2 hk3
  have Gc:(li.map fI.id)[k]=li[k].id:=by simp
  rw [Gc] at hnew;refine kP H (Kc bK (SQ fun _ bR=>SB (SR fun _ bP=>Ri DF ES rfl rfl ?_)));clear H bK;intro a H;refine bD ES (cs:=_) H wn rfl rfl (fun j v hj=>H.hp.aJ (hrow j v hj)) rfl ?_;clear H;intro a H;refine eU ES H wn rfl ?_;clear H;intro b7 a w CO H;refine bF ES 0 (vs:=[_,_]) _ H wn rfl rfl rfl rfl rfl rfl rfl rfl ?_;clear H;intro w H;dsimp only [List.set,setRow] at H;refine bP _ _ ?_;clear bP;refine dI hmx [[],[0],[0,1],[0,1,2],[],[4],(ra 0 6)] [6] (by kernel_rfl) [_,_,_,.map (some b11),_,vi li[k].id] H (aD (Z0 rfl (Rm rfl)) (Z1 0 42 rfl (Rk rfl)) (Z1 1 43 rfl (Rf Ti rfl)) (Z1 2 44 rfl (Ro yF 1 rfl)) (aW (Z0 rfl (Rf Tn rfl)) (aW (Z1 4 46 rfl (Ro aG 0 rfl)) (aW (bL rfl) bY)))) ?_
  clear H;intro a w G mK H hv;have H:=H.aQ (hv 3 45 rfl rfl) rfl;have H:=H.aQ (hv 5 47 rfl rfl) rfl;clear hv;refine Ka (i:=6) yI mU H wn rfl rfl rfl rfl hnew ?_;clear H;intro w H;dsimp only [List.set,List.append,lca,aZ] at H;rw [← Gc,← Vx hk3] at H;refine aH ⟨rfl,?_⟩;refine bR _ _ ?_;clear bR;refine kP H (SC (Rd rfl (Rm rfl ?_)));clear H;intro a H;refine aH ?_;refine dw ((k+1,G)) (by exact (H.dU (Pl:=[_,_,_,_,_,_,_]) (cK:=[_,_,_,_,_,_]) [1,2,3,4,5,6] (by decide) rfl).sub ⟨rfl,rfl,rfl,rfl,rfl,aB⟩) ?_ ?_
  ·(try dsimp only);exact ⟨by omega,fun b o h=>mK b o (Jt b o h)⟩
  first|omega|(dsimp only;omega)
 intro kr a H
 try have p39:=dF kr
 obtain rfl:k=li.length:=by omega
 rw [jA (by simp)] at H;have ajK:=aK Jt (aK Ey hc6);refine dW ?_;refine K9 _ _ ?_;clear K9;refine kP H (SQ fun _ dJ=>SR fun _ dN=>Rf MG rfl (Rg BA rfl (by assumption) ?_));clear H;intro a H;refine kH H (Rl BG rfl (Rm rfl (Kz dN (SB ?_))));clear H dN;intro a H;skip;refine eZ (ι:=Nat × GH) (Tc:=[(3,_),(50,_),(51,_)]) (Lc:=[(_,_),(_,_),(_,_),(_,_),(_,_)]) (fun gh=>[(52,vi gh.1)]) (fun gh=>[(b12,fB (fE ((rv.map eX.id).take gh.1)))]) (fun gh=>gh.2) (fun gh=>gh.1≤rv.length∧(∀ b o,g2 b=some o→gh.2 b=some o)) (fun gh=>rv.length - gh.1) ((0,g2)) (by exact (H.dU (Pl:=[_,_,_,_,_,_]) (cK:=[_,_,_,_,_,_]) [0,1,2,4,5,3] (by decide) rfl).sub ⟨rfl,rfl,rfl,rfl,aB⟩) ?_ ?_
 ·exact ⟨iK _,fun _ _ h=>h⟩
 clear H;intro gh a w hI H;obtain ⟨k,g3⟩:=gh;dsimp only at hI H;obtain ⟨hk,Ux⟩:=hI;dsimp only [lca,aZ] at H;refine kP H (SR fun _ dx=>Rc rfl (Kz dx (SQ fun _ eu=>Cd rfl ?_ ?_))) <;> clear H dx
 ·intro MS a H
  try have p53:=dT MS
  have hk2:k < rv.length:=by omega
  obtain ⟨xb,xo,rfl,hrow⟩:=Ph (((wN.mono Ey).mono Jt).mono Ux) hk2
  have hk3:k < (rv.map eX.id).length:=by simpa using hk2
  have hnew:=Vw f3 hk3
  have Gc:(rv.map eX.id)[k]=rv[k].id:=by simp
  rw [Gc] at hnew;refine kP H (Kc eu (SQ fun _ gy=>SB (SR fun _ fu=>Ri BG Dw rfl rfl ?_)));clear H eu;intro a H;refine bD Dw (cs:=_) H wn rfl rfl (fun j v hj=>H.hp.aJ (hrow j v hj)) rfl ?_;clear H;intro a H;refine eU Dw H wn rfl ?_;clear H;intro b9 a w xW H;refine bF Dw 0 (vs:=[_,_,_]) _ H wn rfl rfl rfl rfl rfl rfl rfl rfl ?_;clear H;intro w H;dsimp only [List.set,setRow] at H;refine fu _ _ ?_;clear fu;refine dI hmx [[],[0],[0,1],[0,1,2],[],[4],(ra 0 6)] [6] (by kernel_rfl) [_,_,_,.map (some b12),_,vi rv[k].id] H (aD (Z0 rfl (Rm rfl)) (Z1 0 56 rfl (Rk rfl)) (Z1 1 57 rfl (Rf FQ rfl)) (Z1 2 58 rfl (Ro yF 1 rfl)) (aW (Z0 rfl (Rf Tk rfl)) (aW (Z1 4 60 rfl (Ro aG 0 rfl)) (aW (bL rfl) bY)))) ?_
  clear H;intro a w G zG H hv;have H:=H.aQ (hv 3 59 rfl rfl) rfl;have H:=H.aQ (hv 5 61 rfl rfl) rfl;clear hv;refine Ka (i:=6) yI mU H wn rfl rfl rfl rfl hnew ?_;clear H;intro w H;dsimp only [List.set,List.append,lca,aZ] at H;rw [← Gc,← Vx hk3] at H;refine aH ⟨rfl,?_⟩;refine gy _ _ ?_;clear gy;refine kP H (SC (Rd rfl (Rm rfl ?_)));clear H;intro a H;refine aH ?_;refine dw ((k+1,G)) (by exact (H.dU (Pl:=[_,_,_,_,_,_,_]) (cK:=[_,_,_,_,_,_]) [1,2,3,4,5,6] (by decide) rfl).sub ⟨rfl,rfl,rfl,rfl,aB⟩) ?_ ?_
  ·(try dsimp only);exact ⟨by omega,fun b o h=>zG b o (Ux b o h)⟩
  first|omega|(dsimp only;omega)
 intro MS a H
 try have p53:=dF MS
 obtain rfl:k=rv.length:=by omega
 rw [jA (by simp)] at H;refine dW ?_;refine dJ _ _ ?_;clear dJ;refine kP H (SR fun _ gD=>Rm rfl (ak gD rfl ?_));clear H gD;intro a H;refine cu ?_;have H:=H.dU (Pl:=[_,_,_,_,_,_]) (cK:=[_,_,_,_,_,_]) [3,4,5,1,0,2] (by decide) rfl;obtain ⟨Gs,hms,hs,H⟩:=H.dP;obtain ⟨Gl,Gq,hl,H⟩:=H.dP;obtain ⟨Gr,hmr,hr,H⟩:=H.dP;obtain ⟨Gu,hmu,hu,H⟩:=H.dP;refine lv H results57 rfl ?_;exact H.hp.eB ⟨b16,b10,b11,b12,b13,b14,rfl,rfl,⟨hmu _ _ (hmr _ _ (Gq _ _ hs)),hmu _ _ (hmr _ _ hl),hmu _ _ hr,hu⟩⟩
end
section
open Go.RowKit
theorem acV:bV prog 147 4 4:=⟨by kernel_rfl⟩
theorem Tj:bV prog 147 3 3:=⟨by kernel_rfl⟩
theorem Di (x:Int):∀ l:List Int,(qp x (fE l)).getD (.bool false)=.bool (decide (x∈l))
 | []=>rfl
 | k :: r=>by
  have ih:=Di x r;rw [fE,eY,qp]
  by_cases e:k=x
  ·subst e;simp
  rw [ah e,show (r.map fun k=>(k,Value.bool true))=fE r from rfl,ih]
  simp [show x≠k from fun h=>e h.symm]
def Ki (st:List bM) (v:Int):Int:=((st.find? fun s=>decide (s.id=v)).map bM.kind).getD 0
theorem GL (x:Int):∀ l:List bM,(qp x (yj l)).getD (vi 0)=vi (Ki l x)
 | []=>rfl
 | s :: r=>by
  have ih:=GL x r;rw [yj,eY,qp]
  by_cases e:s.id=x
  ·subst e;simp [Ki]
  rw [ah e,show (r.map fun s=>(s.id,vi s.kind))=yj r from rfl,ih]
  simp [Ki,e]
def oH (bE:List Int) (x:Int):Int:=if ¬ (1≤x∧x≤1073741824) then 18 else if x∈bE then 7 else 0
def jB (bE:List Int) (x:Int):List Int:=if oH bE x=0 then bE++[x] else bE
theorem agn (l:List Int) (x:Int):fE (l++[x])=fE l++[(x,.bool true)]:=by simp [fE]
theorem LJ (G:GH) (L:OL) (w0:World) (st:List bM) (li:List fI) (rv:List eX) (b ms ml mr mb mu:Nat) (n:Int) (bE:List Int) (x:Int) (hck:sF G st li rv ms ml mr mu) (hO:gW G (fD b ms ml mr mb mu n :: (mb,fB (fE bE)) :: L) w0) :
  Calls prog 128 #[(aI b 0),vi x] w0 (gF w0 G (fD b ms ml mr mb mu n :: (mb,fB (fE bE)) :: L) fun u G' L'=>u=vi (oH bE x)∧L'=fD b ms ml mr mb mu n :: (mb,fB (fE (jB bE x))) :: L∧G=G'):=by
 refine jN (N:=29) (T:=[(0,_),(1,_)]) func128 rfl ntmps128 rfl rfl hO ?_;intro a H;refine kP H (SR fun _ K1=>ak K1 rfl (SQ fun _ K2=>SB (SR fun _ K3=>Rm rfl ?_)));clear H K1;intro a H;refine s_call uj H wn rfl (uF _ _ H.ro x 1 1073741824) rfl ?_;clear H;rintro v7 _ a w ⟨rfl,rfl⟩ - H;refine kH H (Rn rfl (Rm rfl (Sp 9 rfl ?_ ?_))) <;> clear H
 ·intro h9 a H
  try have p9:=dT h9
  refine kH H (aX h9 rfl (aX h9 rfl (Pt h9 rfl (ak K3 rfl (Ct rfl rfl (SQ fun _ K4=>?_))))));clear H K3;intro a H
  have e:oH bE x=18:=by rw [oH,au (by first|(simp_all;done)|(simp_all;omega))]
  refine kP H (SC (aV K4 rfl ?_));clear H K4;intro a H;refine lr H results128 rfl ?_
  first
   | exact H.hp.eB ⟨by rw [e],by rw [jB,au e],rfl⟩
   | exact H.hp.eB ⟨by rw [e],by rw [jB,ah (by rw [e];decide)],rfl⟩
 intro h9 a H
 try have p9:=dF h9
 refine kH H (YM h9 rfl ?_);clear H;intro a H;refine qR H (wg H rfl rfl h9) rfl rfl ?_;clear H;intro a H;refine kH H (YF acV h9 rfl (YO yF 0 h9 rfl (YM h9 rfl ?_)));clear H;intro a H;refine wX (zv:=.bool false) yI mU (by kernel_rfl) H (wg H rfl rfl h9) rfl rfl (H.ro _ _ hck.use) rfl ?_;clear H;intro a H;rw [show (qp x []).getD (Value.bool false)=.bool false from rfl] at H;refine kH H (Pf h9 rfl (ak K3 rfl (Cd rfl ?_ ?_))) <;> clear H K3
 ·intro h5 a H
  try have p5:=dT h5
  refine bq (fun _ K5=>?_)
  have e:oH bE x=18:=by rw [oH,au (by first|(simp_all;done)|(simp_all;omega))]
  refine kP H (SC (aV K5 rfl ?_));clear H K5;intro a H;refine lr H results128 rfl ?_
  first
   | exact H.hp.eB ⟨by rw [e],by rw [jB,au e],rfl⟩
   | exact H.hp.eB ⟨by rw [e],by rw [jB,ah (by rw [e];decide)],rfl⟩
 intro h5 a H
 try have p5:=dF h5
 have hin:decide (1≤x∧x≤1073741824)=true:=by simp_all
 refine kP H (SR fun _ K6=>Rm rfl (Rk rfl (aR Tj yF 0 rfl rfl (Rm rfl ?_))));clear H;intro a H;refine wX (zv:=.bool false) yI mU (by kernel_rfl) H wn rfl rfl (H.hp.own _ (jU _ iB)) rfl ?_;clear H;intro a H;rw [Di] at H;refine kH H (ak K6 rfl (Cd rfl ?_ ?_)) <;> clear H K6
 ·intro dS a H
  refine bq (fun _ K7=>?_)
  have e:oH bE x=7:=by rw [oH,ah (by simpa using hin),au (rH dS)]
  refine kP H (SC (aV K7 rfl ?_));clear H K7;intro a H;refine lr H results128 rfl ?_
  first
   | exact H.hp.eB ⟨by rw [e],by rw [jB,au e],rfl⟩
   | exact H.hp.eB ⟨by rw [e],by rw [jB,ah (by rw [e];decide)],rfl⟩
 intro dS a H
 have hx:x∉bE:=of_decide_eq_false dS;have hnew:qp x (fE bE)=none:=JH (by simpa [fE,List.map_map,Function.comp_def] using hx)
 have e:oH bE x=0:=by rw [oH,ah (by simpa using hin),ah hx]
 refine kP H (Kc K2 (SR fun _ K8=>Rm rfl (Rk rfl (aR Tj yF 0 rfl rfl (Rm rfl ?_)))));clear H K2;intro a H;refine Ka (i:=1) yI mU H wn rfl rfl rfl rfl hnew ?_;clear H;intro w H;dsimp only [List.set] at H;rw [← agn] at H;refine K8 _ _ ?_;clear K8;refine kP H (SR fun _ K9=>ak K9 rfl ?_);clear H K9;intro a H;refine lr H results128 rfl ?_
 first
  | exact H.hp.eB ⟨by rw [e],by rw [jB,au e],rfl⟩
  | exact H.hp.eB ⟨by rw [e],by rw [jB,ah (by rw [e];decide)],rfl⟩
def ni (st:List bM) (wT:List Int) (key v:Int):Int :=
 if key=20∨key=1 then bW (decide (v≠0∧Ki st v≠(if key=1 then 2 else 1))) 25 else if key=33 then bW (decide (v≠0∧v∉wT)) 26 else 0
theorem LK (G:GH) (w0:World) (hG:Hold G w0) (st:List bM) (li:List fI) (rv:List eX) (b ms ml mr mb mu:Nat) (n:Int) (key v:Int) (hck:sF G st li rv ms ml mr mu) (hb:G b=some (fD b ms ml mr mb mu n).2) :
  Calls prog 91 #[(aI b 0),vi key,vi v] w0 (bC w0 G fun u G'=>u=vi (ni st (li.map fI.id) key v)∧G=G'):=by
 have hc0:aJ G b 0=some (.map (some ms)):=by unfold aJ;rw [hb];rfl
 have hc1:aJ G b 1=some (.map (some ml)):=by unfold aJ;rw [hb];rfl
 refine eN [(0,_),(1,_),(2,_)] func91 rfl ntmps91 rfl rfl hG ?_;intro a H;refine kP H (SR fun _ K1=>ak K1 rfl (SQ fun _ K2=>SR fun _ K3=>Rm rfl (Kz K3 (SB (SQ fun _ K4=>SR fun _ K5=>Rc rfl (ak K5 rfl (Cd rfl ?_ ?_))))))) <;> clear H K1 K3 K5
 ·intro h9 a H
  try have p9:=dT h9
  refine kP H (Kc K4 (Ct rfl h9 (SR fun _ K6=>ak K6 rfl (SQ fun _ K7=>SR fun _ K8=>Rm rfl (Rc rfl (Kz K8 (Cd rfl ?_ ?_))))))) <;> clear H K4 K6 K8
  ·intro fK a H
   try have pK:=dT fK
   refine kP H (SC (aV K7 rfl (SR fun _ K9=>Rm rfl (Rc rfl (Rm rfl (Sp 16 rfl ?_ ?_)))))) <;> clear H K7
   ·intro h16 a H
    try have p16:=dT h16
    refine kH H (YM h16 rfl ?_);clear H;intro a H;refine qR H (wg H rfl rfl h16) rfl rfl ?_;clear H;intro a H;refine kH H (YF FP h16 rfl (YR Hg h16 rfl (by assumption) ?_));clear H;intro a H;refine kH H (YM h16 rfl ?_);clear H;intro a H;refine wX (zv:=vi 0) DC mU (by kernel_rfl) H (wg H rfl rfl h16) rfl rfl (H.ro _ _ hck.sty) rfl ?_;clear H;intro a H;rw [GL] at H;refine kH H (YM h16 rfl (YC h16 rfl (Pt h16 rfl ?_)));clear H;intro a H;refine s_call iL H wn rfl (iN _ _ H.ro _ 25) rfl ?_;clear H;rintro v26 _ a w ⟨rfl,rfl⟩ - H;refine kH H (ak K9 rfl ?_);clear H K9;intro a H;refine lr H results91 rfl ?_
    exact H.rt ⟨aA vi (by unfold ni;(repeat' split) <;> first|rfl|(simp_all;done)|(exfalso;simp_all;done)|(congr 1;rw [nE];simp only [rJ,qG,oq];exact ⟨fun h=>⟨p31,h⟩,fun h=>h.2⟩)),rfl⟩
   intro h16 a H
   try have p16:=dF h16
   refine kH H (aX h16 rfl (aX h16 rfl (aP h16 rfl (Pf h16 rfl ?_))));clear H;intro a H;refine s_call iL H wn rfl (iN _ _ H.ro _ 25) rfl ?_;clear H;rintro v26 _ a w ⟨rfl,rfl⟩ - H;refine kH H (ak K9 rfl ?_);clear H K9;intro a H;refine lr H results91 rfl ?_
   exact H.rt ⟨aA vi (by unfold ni;(repeat' split) <;> first|rfl|(simp_all;done)|(exfalso;simp_all;done)|(congr 1;rw [nE];simp only [rJ,qG,oq];exact ⟨fun h=>⟨p31,h⟩,fun h=>h.2⟩)),rfl⟩
  intro fK a H
  try have pK:=dF fK
  refine kP H (Kc K7 (SR fun _ aS=>Rm rfl (Rc rfl (Rm rfl (Sp 16 rfl ?_ ?_))))) <;> clear H K7
  ·intro h16 a H
   try have p16:=dT h16
   refine kH H (YM h16 rfl ?_);clear H;intro a H;refine qR H (wg H rfl rfl h16) rfl rfl ?_;clear H;intro a H;refine kH H (YF FP h16 rfl (YR Hg h16 rfl (by assumption) ?_));clear H;intro a H;refine kH H (YM h16 rfl ?_);clear H;intro a H;refine wX (zv:=vi 0) DC mU (by kernel_rfl) H (wg H rfl rfl h16) rfl rfl (H.ro _ _ hck.sty) rfl ?_;clear H;intro a H;rw [GL] at H;refine kH H (YM h16 rfl (YC h16 rfl (Pt h16 rfl ?_)));clear H;intro a H;refine s_call iL H wn rfl (iN _ _ H.ro _ 25) rfl ?_;clear H;rintro v26 _ a w ⟨rfl,rfl⟩ - H;refine kH H (ak aS rfl ?_);clear H aS;intro a H;refine lr H results91 rfl ?_
   exact H.rt ⟨aA vi (by unfold ni;(repeat' split) <;> first|rfl|(simp_all;done)|(exfalso;simp_all;done)|(congr 1;rw [nE];simp only [rJ,qG,oq];exact ⟨fun h=>⟨p31,h⟩,fun h=>h.2⟩)),rfl⟩
  intro h16 a H
  try have p16:=dF h16
  refine kH H (aX h16 rfl (aX h16 rfl (aP h16 rfl (Pf h16 rfl ?_))));clear H;intro a H;refine s_call iL H wn rfl (iN _ _ H.ro _ 25) rfl ?_;clear H;rintro v26 _ a w ⟨rfl,rfl⟩ - H;refine kH H (ak aS rfl ?_);clear H aS;intro a H;refine lr H results91 rfl ?_
  exact H.rt ⟨aA vi (by unfold ni;(repeat' split) <;> first|rfl|(simp_all;done)|(exfalso;simp_all;done)|(congr 1;rw [nE];simp only [rJ,qG,oq];exact ⟨fun h=>⟨p31,h⟩,fun h=>h.2⟩)),rfl⟩
 intro h9 a H
 try have p9:=dF h9
 refine kP H (SC (Rc rfl (aV K4 rfl (Cd rfl ?_ ?_)))) <;> clear H K4
 ·intro h9 a H
  try have p9:=dT h9
  refine kP H (SR fun _ bA=>ak bA rfl (SQ fun _ bK=>SR fun _ bR=>Rm rfl (Rc rfl (Kz bR (Cd rfl ?_ ?_))))) <;> clear H bA bR
  ·intro fK a H
   try have pK:=dT fK
   refine kP H (SC (aV bK rfl (SR fun _ bP=>Rm rfl (Rc rfl (Rm rfl (Sp 16 rfl ?_ ?_)))))) <;> clear H bK
   ·intro h16 a H
    try have p16:=dT h16
    refine kH H (YM h16 rfl ?_);clear H;intro a H;refine qR H (wg H rfl rfl h16) rfl rfl ?_;clear H;intro a H;refine kH H (YF FP h16 rfl (YR Hg h16 rfl (by assumption) ?_));clear H;intro a H;refine kH H (YM h16 rfl ?_);clear H;intro a H;refine wX (zv:=vi 0) DC mU (by kernel_rfl) H (wg H rfl rfl h16) rfl rfl (H.ro _ _ hck.sty) rfl ?_;clear H;intro a H;rw [GL] at H;refine kH H (YM h16 rfl (YC h16 rfl (Pt h16 rfl ?_)));clear H;intro a H;refine s_call iL H wn rfl (iN _ _ H.ro _ 25) rfl ?_;clear H;rintro v26 _ a w ⟨rfl,rfl⟩ - H;refine kH H (ak bP rfl ?_);clear H bP;intro a H;refine lr H results91 rfl ?_
    exact H.rt ⟨aA vi (by unfold ni;(repeat' split) <;> first|rfl|(simp_all;done)|(exfalso;simp_all;done)|(congr 1;rw [nE];simp only [rJ,qG,oq];exact ⟨fun h=>⟨p31,h⟩,fun h=>h.2⟩)),rfl⟩
   intro h16 a H
   try have p16:=dF h16
   refine kH H (aX h16 rfl (aX h16 rfl (aP h16 rfl (Pf h16 rfl ?_))));clear H;intro a H;refine s_call iL H wn rfl (iN _ _ H.ro _ 25) rfl ?_;clear H;rintro v26 _ a w ⟨rfl,rfl⟩ - H;refine kH H (ak bP rfl ?_);clear H bP;intro a H;refine lr H results91 rfl ?_
   exact H.rt ⟨aA vi (by unfold ni;(repeat' split) <;> first|rfl|(simp_all;done)|(exfalso;simp_all;done)|(congr 1;rw [nE];simp only [rJ,qG,oq];exact ⟨fun h=>⟨p31,h⟩,fun h=>h.2⟩)),rfl⟩
  intro fK a H
  try have pK:=dF fK
  refine kP H (Kc bK (SR fun _ dJ=>Rm rfl (Rc rfl (Rm rfl (Sp 16 rfl ?_ ?_))))) <;> clear H bK
  ·intro h16 a H
   try have p16:=dT h16
   refine kH H (YM h16 rfl ?_);clear H;intro a H;refine qR H (wg H rfl rfl h16) rfl rfl ?_;clear H;intro a H;refine kH H (YF FP h16 rfl (YR Hg h16 rfl (by assumption) ?_));clear H;intro a H;refine kH H (YM h16 rfl ?_);clear H;intro a H;refine wX (zv:=vi 0) DC mU (by kernel_rfl) H (wg H rfl rfl h16) rfl rfl (H.ro _ _ hck.sty) rfl ?_;clear H;intro a H;rw [GL] at H;refine kH H (YM h16 rfl (YC h16 rfl (Pt h16 rfl ?_)));clear H;intro a H;refine s_call iL H wn rfl (iN _ _ H.ro _ 25) rfl ?_;clear H;rintro v26 _ a w ⟨rfl,rfl⟩ - H;refine kH H (ak dJ rfl ?_);clear H dJ;intro a H;refine lr H results91 rfl ?_
   exact H.rt ⟨aA vi (by unfold ni;(repeat' split) <;> first|rfl|(simp_all;done)|(exfalso;simp_all;done)|(congr 1;rw [nE];simp only [rJ,qG,oq];exact ⟨fun h=>⟨p31,h⟩,fun h=>h.2⟩)),rfl⟩
  intro h16 a H
  try have p16:=dF h16
  refine kH H (aX h16 rfl (aX h16 rfl (aP h16 rfl (Pf h16 rfl ?_))));clear H;intro a H;refine s_call iL H wn rfl (iN _ _ H.ro _ 25) rfl ?_;clear H;rintro v26 _ a w ⟨rfl,rfl⟩ - H;refine kH H (ak dJ rfl ?_);clear H dJ;intro a H;refine lr H results91 rfl ?_
  exact H.rt ⟨aA vi (by unfold ni;(repeat' split) <;> first|rfl|(simp_all;done)|(exfalso;simp_all;done)|(congr 1;rw [nE];simp only [rJ,qG,oq];exact ⟨fun h=>⟨p31,h⟩,fun h=>h.2⟩)),rfl⟩
 intro h9 a H
 try have p9:=dF h9
 refine kP H (SR fun _ dN=>Rc rfl (ak dN rfl (Cd rfl ?_ ?_))) <;> clear H dN
 ·intro h27 a H
  try have p27:=dT h27
  refine kP H (SR fun _ dx=>Rm rfl (Rc rfl (Rm rfl (Sp 31 rfl ?_ ?_)))) <;> clear H
  ·intro h31 a H
   try have p31:=dT h31
   refine kH H (YM h31 rfl ?_);clear H;intro a H;refine qR H (wg H rfl rfl h31) rfl rfl ?_;clear H;intro a H;refine kH H (YF Ti h31 rfl (YR yF h31 rfl (by assumption) ?_));clear H;intro a H;refine kH H (YM h31 rfl ?_);clear H;intro a H;refine wX (zv:=.bool false) yI mU (by kernel_rfl) H (wg H rfl rfl h31) rfl rfl (H.ro _ _ hck.wT) rfl ?_;clear H;intro a H;rw [Di] at H;refine kH H (YN h31 rfl (Pt h31 rfl ?_));clear H;intro a H;refine s_call iL H wn rfl (iN _ _ H.ro _ 26) rfl ?_;clear H;rintro v40 _ a w ⟨rfl,rfl⟩ - H;refine kH H (ak dx rfl ?_);clear H dx;intro a H;refine lr H results91 rfl ?_
   exact H.rt ⟨aA vi (by unfold ni;(repeat' split) <;> first|rfl|(simp_all;done)|(exfalso;simp_all;done)|(congr 1;rw [nE];simp only [rJ,qG,oq];exact ⟨fun h=>⟨p31,h⟩,fun h=>h.2⟩)),rfl⟩
  intro h31 a H
  try have p31:=dF h31
  refine kH H (aX h31 rfl (aP h31 rfl (aP h31 rfl (Pf h31 rfl ?_))));clear H;intro a H;refine s_call iL H wn rfl (iN _ _ H.ro _ 26) rfl ?_;clear H;rintro v40 _ a w ⟨rfl,rfl⟩ - H;refine kH H (ak dx rfl ?_);clear H dx;intro a H;refine lr H results91 rfl ?_
  exact H.rt ⟨aA vi (by unfold ni;(repeat' split) <;> first|rfl|(simp_all;done)|(exfalso;simp_all;done)|(congr 1;rw [nE];simp only [rJ,qG,oq];exact ⟨fun h=>⟨p31,h⟩,fun h=>h.2⟩)),rfl⟩
 intro h27 a H
 try have p27:=dF h27
 refine kP H (Kc K2 (SR fun _ eu=>ak eu rfl ?_));clear H K2 eu;intro a H;refine lr H results91 rfl ?_
 exact H.rt ⟨aA vi (by unfold ni;(repeat' split) <;> first|rfl|(simp_all;done)|(exfalso;simp_all;done)|(congr 1;rw [nE];simp only [rJ,qG,oq];exact ⟨fun h=>⟨p31,h⟩,fun h=>h.2⟩)),rfl⟩
end
section
open Go.RowKit
section
variable {N:Nat} {D:List Deferred} {w0:World} {F:Nat→Prop} {G0 G G':GH} {L L':OL} {T:List (Nat × aj)}
variable {r:Option Nat} {P:Program} {ops:Array Oper} {Q:Exit→Act→World→Prop} {rest:List Oper} {a:Act} {w w':World}
theorem Ao {ι:Type} {Tc:List (Nat × aj)} {l:List Oper} (k:Nat) (Tv:ι→List (Nat × aj)) (Pr:ι→Prop) (_:St N D w0 F G0 G L Tc a w)
  (h1:(∀ i a w,Pr i→St N D w0 F G0 G L (Tv i++Tc) a w→WL r P ops Q (l.drop k) a w)→WL r P ops Q l a w)
  (h2:∀ i a w,Pr i→St N D w0 F G0 G L (Tv i++Tc) a w→WL r P ops Q (l.drop k) a w):WL r P ops Q l a w:=h1 h2
theorem Change.back (h:Change w w' G G' L L'):Change w w' G G L L' :=
 ⟨h.os,h.tape,h.output,h.size,h.fr,fun _ _ h=>h,fun _ _ h=>.inl h,⟨fun k o hk=>h.owns.ro k o (h.gm k o hk),h.owns.own,fun p hp=>(by
  have hs:=h.owns.sep p hp
  cases hg:G p.1 with
  | none=>rfl
  | some o=>have:=h.gm _ _ hg;rw [hs] at this;cases this),h.owns.nd⟩,h.lx⟩
theorem gF.back {R:aj→GH→OL→Prop} {R':aj→OL→Prop} (hR:∀ v G' L',R v G' L'→R' v L') {e:Ending} (h:gF w G L R e w'):gF w G L (fun v G' L'=>G=G'∧R' v L') e w':=by
 obtain ⟨v,G',L',rfl,hc,hr⟩:=h
 exact ⟨v,G,L',rfl,hc.back,rfl,hR _ _ _ hr⟩
theorem Calls.Zp {f:FuncId} {args:Array aj} {R:aj→GH→OL→Prop} {R':aj→OL→Prop} (h:Calls P f args w (gF w G L R)) (hR:∀ v G' L',R v G' L'→R' v L'):Calls P f args w (gF w G L fun v G' L'=>G=G'∧R' v L') :=
 h.mono fun _ _=>gF.back hR
theorem bC.back {R:aj→GH→Prop} {e:Ending} (h:bC w G R e w'):bC w G (fun v G'=>(∃ g,R v g)∧G=G') e w':=by
 obtain ⟨v,G',rfl,hb,hX,hr⟩:=h
 exact ⟨v,G,rfl,hb,⟨fun _ _ h=>h,fun _ _ h=>.inl h,fun k o hk=>hX.2.2 k o (hX.1 k o hk)⟩,⟨G',hr⟩,rfl⟩
theorem Rx {f:FuncId} {args:Array aj} {R:aj→GH→Prop} (h:Calls P f args w (bC w G R)):Calls P f args w (bC w G fun v G'=>(∃ g,R v g)∧G=G'):=h.mono fun _ _=>bC.back
theorem gW.add {b:Nat} {o:Obj} (h:gW G ((b,o) :: L) w):Hold (G.add b o) w:=fun k o' hk=>by
 unfold GH.add at hk
 split at hk
 ·next e=>cases hk;subst e;exact h.own _ iB
 ·exact h.ro k o' hk
theorem aho {b:Nat} {o:Obj} {R:aj→GH→Prop} {R':aj→Prop} (hO:gW G ((b,o) :: L) w) (hR:∀ v G',R v G'→R' v) {e:Ending} (h:bC w (G.add b o) R e w'):gF w G ((b,o) :: L) (fun v G' L'=>G=G'∧L'=(b,o) :: L∧R' v) e w':=by
 obtain ⟨v,G',rfl,hb,hX,hr⟩:=h
 exact ⟨v,G,_,rfl,(hO.hp.below hb).Xl,rfl,rfl,hR _ _ hr⟩
end
end
section
open Go.RowKit
theorem acJ:Ic prog 187 [(0,false),(1,false)]:=⟨by kernel_rfl,by kernel_rfl,by kernel_rfl,by kernel_rfl,by kernel_rfl⟩
theorem acK:Ic prog 190 [(0,false),(1,false)]:=⟨by kernel_rfl,by kernel_rfl,by kernel_rfl,by kernel_rfl,by kernel_rfl⟩
theorem acL:Ic prog 199 [(0,false),(1,false),(2,false),(3,true)]:=⟨by kernel_rfl,by kernel_rfl,by kernel_rfl,by kernel_rfl,by kernel_rfl⟩
theorem aaQ:∀ args w,(callFunc 106 args).run prog w=.ok (.enter 106 args) w:=enters func106 rfl (by kernel_rfl)
theorem vo:bV prog 27 0 0:=⟨by kernel_rfl⟩
theorem AB:bV prog 27 1 1:=⟨by kernel_rfl⟩
theorem aaR:∀ args w,(callFunc 107 args).run prog w=.ok (.enter 107 args) w:=enters func107 rfl (by kernel_rfl)
theorem aaS:∀ args w,(callFunc 108 args).run prog w=.ok (.enter 108 args) w:=enters func108 rfl (by kernel_rfl)
abbrev jg.cells (x:jg):List aj:=[vi x.rev,vi x.move]
abbrev iO.cells (x:iO):List aj:=[vi x.rev,vi x.key,vi x.before,.bool x.had]
theorem LY {G:GH} {x:jg} {cs:List aj} (h:aY G x.dat cs):cs=x.cells:=by
 simp only [jg.dat,aY,av] at h
 obtain ⟨_,_,rfl,⟨rfl,_⟩,_,_,rfl,⟨rfl,_⟩,rfl⟩:=h
 rfl
theorem Ow {G:GH} {x:iO} {cs:List aj} (h:aY G x.dat cs):cs=x.cells:=by
 simp only [iO.dat,aY,av] at h
 obtain ⟨_,_,rfl,⟨rfl,_⟩,_,_,rfl,⟨rfl,_⟩,_,_,rfl,⟨rfl,_⟩,_,_,rfl,⟨rfl,_⟩,rfl⟩:=h
 rfl
theorem iq.eq_iff (a b:iq):(a.key=b.key∧a.value=b.value)↔a=b:=by cases a;cases b;simp
theorem jg.eq_iff (a b:jg):(a.rev=b.rev∧a.move=b.move)↔a=b:=by cases a;cases b;simp
theorem iO.eq_iff (a b:iO):(a.rev=b.rev∧a.key=b.key∧a.before=b.before∧a.had=b.had)↔a=b:=by cases a;cases b;simp
instance:DecidableEq iq:=fun a b=>decidable_of_iff _ (iq.eq_iff a b)
instance:DecidableEq jg:=fun a b=>decidable_of_iff _ (jg.eq_iff a b)
instance:DecidableEq iO:=fun a b=>decidable_of_iff _ (iO.eq_iff a b)
theorem agD (a b:iq):(!([(0,false),(1,false)].all fun o=>jF #[vi a.key,vi a.value] o == jF #[vi b.key,vi b.value] o))=!decide (a=b):=by
 have h:=iq.eq_iff a b;rw [nE]
 simp only [rJ,qG]
 rw [← h]
 simp [jF]
theorem agB (a b:jg):(!([(0,false),(1,false)].all fun o=>jF #[vi a.rev,vi a.move] o == jF #[vi b.rev,vi b.move] o))=!decide (a=b):=by
 have h:=jg.eq_iff a b;rw [nE]
 simp only [rJ,qG]
 rw [← h]
 simp [jF]
theorem agC (a b:iO):(!([(0,false),(1,false),(2,false),(3,true)].all fun o=>jF #[vi a.rev,vi a.key,vi a.before,.bool a.had] o == jF #[vi b.rev,vi b.key,vi b.before,.bool b.had] o))=!decide (a=b):=by
 have h:=iO.eq_iff a b;rw [nE]
 simp only [rJ,qG]
 rw [← h]
 simp [jF]
theorem acI (G:GH) (w0:World) (hG:Hold G w0) (A B:List iq) (v u:aj) (hv:av G (.sl 2 (A.map iq.dat)) v) (hu:av G (.sl 2 (B.map iq.dat)) u) :
  Calls prog 106 #[v,u] w0 (bC w0 G fun r G'=>r=.bool (decide (A=B))):=by
 obtain ⟨vA,vc,rfl,hc1,hc2,hg⟩:=hv.slice;obtain ⟨uA,uc,rfl,hd1,hd2,hh⟩:=hu.slice;have hml:maxLen=9223372036854775807:=rfl;(iterate 2 rw [bT] at *);refine eN [(0,_),(1,_)] func106 rfl ntmps106 rfl rfl hG ?_;intro a H;refine kP H (SR fun _ K1=>ak K1 rfl (SQ fun _ K2=>SR fun _ K3=>Rm rfl (Rl nY rfl (Rm rfl (Rl nY rfl (Rc rfl (Kz K3 (Cd rfl ?_ ?_)))))))) <;> clear H K1 K3
 ·intro h10 a H
  try have lg:=dT h10
  exact kP H (SR fun _ K4=>ak K4 rfl (LR results106 rfl fun H=>H.rt (aF (jm fun e=>absurd (aA List.length e) (by omega)).symm)))
 intro h10 a H
 try have lg:=dF h10
 refine kP H (Kc K2 (SQ fun _ K5=>SR fun _ K6=>Rm rfl (Rl nY rfl (Rm rfl (Kz K6 (SB ?_))))));clear H K2 K6;intro a H;skip;refine eZ (ι:=Nat × GH) (Tc:=[(0,_),(1,_),(12,_)]) (Lc:=[]) (fun gh=>[(13,vi gh.1)]) (fun gh=>[]) (fun gh=>gh.2) (fun gh=>gh.1≤A.length∧A.take gh.1=B.take gh.1∧(∀ b o,G b=some o→gh.2 b=some o)) (fun gh=>A.length - gh.1) ((0,G)) (by exact (H).sub ⟨rfl,rfl,rfl,rfl,aB⟩) ?_ ?_
 ·exact ⟨by omega,rfl,fun _ _ h=>h⟩
 clear H;intro gh a w hI H;obtain ⟨k,g⟩:=gh;dsimp only at hI H;obtain ⟨hk,hsame,hgm⟩:=hI;dsimp only [lca,aZ] at H;refine kP H (SR fun _ K7=>Rc rfl (Kz K7 (SQ fun _ K8=>Cd rfl ?_ ?_))) <;> clear H K7
 ·intro dO a H
  try have lQ:=dT dO
  have hk2:k < A.length:=by omega
  have hk3:k < B.length:=by omega
  obtain ⟨b1,o1,cs1,rfl,Uh,GA,hr1⟩:=hg k A[k].dat (by simp [hk2]);obtain rfl:=OZ hr1;obtain ⟨b2,o2,cs2,rfl,Ui,hrow2,hr2⟩:=hh k B[k].dat (by simp [hk3]);obtain rfl:=OZ hr2;refine kP H (Kc K8 (SQ fun _ K9=>SB (SR fun _ aS=>Rm rfl (ak aS rfl (SQ fun _ bA=>?_)))));clear H K8 aS;intro a H;refine dI hmx [[],[],[0,1],[0,1,2],[],[],[4,5],[4,5,6],(ra 0 8)] [] (by kernel_rfl) [_,_,_,.agg A[k].cells.toArray,_,_,_,.agg B[k].cells.toArray,.bool (!decide (A[k]=B[k]))] H (aD (Z0 rfl (Rm rfl)) (Z0 rfl (Rm rfl)) (Z2 0 16 1 17 rfl (Ri nY mQ rfl rfl)) ?_ (aD (Z0 rfl (Rm rfl)) (Z0 rfl (Rm rfl)) (Z2 4 20 5 21 rfl (Ri nY mQ rfl rfl)) ?_ (aW ?_ bY))) ?_
  ·refine dL 2 18 rfl rfl fun _ a w G1 hG HT H fin=>?_;refine bD mQ (cs:=A[k].cells) H wn rfl rfl (fun j v hj=>H.hp.aJ (aK hG (aK hgm (GA j v hj)))) rfl ?_;clear H;intro a H;exact fin H iJ rfl
  ·refine dL 6 22 rfl rfl fun _ a w G1 hG HT H fin=>?_;refine bD mQ (cs:=B[k].cells) H wn rfl rfl (fun j v hj=>H.hp.aJ (aK hG (aK hgm (hrow2 j v hj)))) rfl ?_;clear H;intro a H;exact fin H iJ rfl
  ·refine dz 3 19 7 23 rfl rfl fun _ a w G1 hG HT H fin=>?_;refine Pn (.inr rfl) acJ H wn rfl rfl rfl rfl ?_;clear H;intro a H;exact fin H iJ (aF (agD A[k] B[k]))
  clear H;intro a w G gH H hv;have H:=H.aQ (hv 8 24 rfl rfl) rfl;clear hv;refine aH ⟨rfl,?_⟩;refine bA _ _ ?_;clear bA;refine kV H rfl ?_ ?_
  ·intro dQ
   exact kP H (SR fun _ bK=>ak bK rfl (LR results106 rfl fun H=>H.rt (aF (jm fun e=>absurd dQ (by subst e;simp)).symm)))
  intro dQ
  try have jO:=dF dQ
  have hsm:A[k]=B[k]:=by simpa using dQ
  refine kP H (Kc K9 (SC (Rd rfl (Rm rfl ?_))));clear H K9;intro a H;refine aH ?_;refine dw ((k+1,G)) (by exact (H).sub ⟨rfl,rfl,rfl,rfl,aB⟩) ?_ ?_
  ·(try dsimp only);exact ⟨by omega,by rw [jE hk2,jE hk3,hsame,hsm],fun b o h=>gH b o (hgm b o h)⟩
  first|omega|(dsimp only;omega)
 intro dO a H
 try have lQ:=dF dO
 refine dW ?_;refine K5 _ _ ?_;clear K5;exact kP H (SR fun _ bR=>ak bR rfl (LR results106 rfl fun H=>H.rt (aF (jT (by rw [jA (by omega),jA (by omega)] at hsame;exact hsame)).symm)))
theorem acG (G:GH) (w0:World) (hG:Hold G w0) (A B:List jg) (v u:aj) (hv:av G (.sl 2 (A.map jg.dat)) v) (hu:av G (.sl 2 (B.map jg.dat)) u) :
  Calls prog 107 #[v,u] w0 (bC w0 G fun r G'=>r=.bool (decide (A=B))):=by
 obtain ⟨vA,vc,rfl,hc1,hc2,hg⟩:=hv.slice;obtain ⟨uA,uc,rfl,hd1,hd2,hh⟩:=hu.slice;have hml:maxLen=9223372036854775807:=rfl;(iterate 2 rw [bT] at *);refine eN [(0,_),(1,_)] func107 rfl ntmps107 rfl rfl hG ?_;intro a H;refine kP H (SR fun _ K1=>ak K1 rfl (SQ fun _ K2=>SR fun _ K3=>Rm rfl (Rl pR rfl (Rm rfl (Rl pR rfl (Rc rfl (Kz K3 (Cd rfl ?_ ?_)))))))) <;> clear H K1 K3
 ·intro h10 a H
  try have lg:=dT h10
  exact kP H (SR fun _ K4=>ak K4 rfl (LR results107 rfl fun H=>H.rt (aF (jm fun e=>absurd (aA List.length e) (by omega)).symm)))
 intro h10 a H
 try have lg:=dF h10
 refine kP H (Kc K2 (SQ fun _ K5=>SR fun _ K6=>Rm rfl (Rl pR rfl (Rm rfl (Kz K6 (SB ?_))))));clear H K2 K6;intro a H;skip;refine eZ (ι:=Nat × GH) (Tc:=[(0,_),(1,_),(12,_)]) (Lc:=[]) (fun gh=>[(13,vi gh.1)]) (fun gh=>[]) (fun gh=>gh.2) (fun gh=>gh.1≤A.length∧A.take gh.1=B.take gh.1∧(∀ b o,G b=some o→gh.2 b=some o)) (fun gh=>A.length - gh.1) ((0,G)) (by exact (H).sub ⟨rfl,rfl,rfl,rfl,aB⟩) ?_ ?_
 ·exact ⟨by omega,rfl,fun _ _ h=>h⟩
 clear H;intro gh a w hI H;obtain ⟨k,g⟩:=gh;dsimp only at hI H;obtain ⟨hk,hsame,hgm⟩:=hI;dsimp only [lca,aZ] at H;refine kP H (SR fun _ K7=>Rc rfl (Kz K7 (SQ fun _ K8=>Cd rfl ?_ ?_))) <;> clear H K7
 ·intro dO a H
  try have lQ:=dT dO
  have hk2:k < A.length:=by omega
  have hk3:k < B.length:=by omega
  obtain ⟨b1,o1,cs1,rfl,Uh,GA,hr1⟩:=hg k A[k].dat (by simp [hk2]);obtain rfl:=LY hr1;obtain ⟨b2,o2,cs2,rfl,Ui,hrow2,hr2⟩:=hh k B[k].dat (by simp [hk3]);obtain rfl:=LY hr2;refine kP H (Kc K8 (SQ fun _ K9=>SB (SR fun _ aS=>Rm rfl (ak aS rfl (SQ fun _ bA=>?_)))));clear H K8 aS;intro a H;refine dI hmx [[],[],[0,1],[0,1,2],[],[],[4,5],[4,5,6],(ra 0 8)] [] (by kernel_rfl) [_,_,_,.agg A[k].cells.toArray,_,_,_,.agg B[k].cells.toArray,.bool (!decide (A[k]=B[k]))] H (aD (Z0 rfl (Rm rfl)) (Z0 rfl (Rm rfl)) (Z2 0 16 1 17 rfl (Ri pR uN rfl rfl)) ?_ (aD (Z0 rfl (Rm rfl)) (Z0 rfl (Rm rfl)) (Z2 4 20 5 21 rfl (Ri pR uN rfl rfl)) ?_ (aW ?_ bY))) ?_
  ·refine dL 2 18 rfl rfl fun _ a w G1 hG HT H fin=>?_;refine bD uN (cs:=A[k].cells) H wn rfl rfl (fun j v hj=>H.hp.aJ (aK hG (aK hgm (GA j v hj)))) rfl ?_;clear H;intro a H;exact fin H iJ rfl
  ·refine dL 6 22 rfl rfl fun _ a w G1 hG HT H fin=>?_;refine bD uN (cs:=B[k].cells) H wn rfl rfl (fun j v hj=>H.hp.aJ (aK hG (aK hgm (hrow2 j v hj)))) rfl ?_;clear H;intro a H;exact fin H iJ rfl
  ·refine dz 3 19 7 23 rfl rfl fun _ a w G1 hG HT H fin=>?_;refine Pn (.inr rfl) acK H wn rfl rfl rfl rfl ?_;clear H;intro a H;exact fin H iJ (aF (agB A[k] B[k]))
  clear H;intro a w G gH H hv;have H:=H.aQ (hv 8 24 rfl rfl) rfl;clear hv;refine aH ⟨rfl,?_⟩;refine bA _ _ ?_;clear bA;refine kV H rfl ?_ ?_
  ·intro dQ
   exact kP H (SR fun _ bK=>ak bK rfl (LR results107 rfl fun H=>H.rt (aF (jm fun e=>absurd dQ (by subst e;simp)).symm)))
  intro dQ
  try have jO:=dF dQ
  have hsm:A[k]=B[k]:=by simpa using dQ
  refine kP H (Kc K9 (SC (Rd rfl (Rm rfl ?_))));clear H K9;intro a H;refine aH ?_;refine dw ((k+1,G)) (by exact (H).sub ⟨rfl,rfl,rfl,rfl,aB⟩) ?_ ?_
  ·(try dsimp only);exact ⟨by omega,by rw [jE hk2,jE hk3,hsame,hsm],fun b o h=>gH b o (hgm b o h)⟩
  first|omega|(dsimp only;omega)
 intro dO a H
 try have lQ:=dF dO
 refine dW ?_;refine K5 _ _ ?_;clear K5;exact kP H (SR fun _ bR=>ak bR rfl (LR results107 rfl fun H=>H.rt (aF (jT (by rw [jA (by omega),jA (by omega)] at hsame;exact hsame)).symm)))
theorem acH (G:GH) (w0:World) (hG:Hold G w0) (A B:List iO) (v u:aj) (hv:av G (.sl 4 (A.map iO.dat)) v) (hu:av G (.sl 4 (B.map iO.dat)) u) :
  Calls prog 108 #[v,u] w0 (bC w0 G fun r G'=>r=.bool (decide (A=B))):=by
 obtain ⟨vA,vc,rfl,hc1,hc2,hg⟩:=hv.slice;obtain ⟨uA,uc,rfl,hd1,hd2,hh⟩:=hu.slice;have hml:maxLen=9223372036854775807:=rfl;(iterate 2 rw [bT] at *);refine eN [(0,_),(1,_)] func108 rfl ntmps108 rfl rfl hG ?_;intro a H;refine kP H (SR fun _ K1=>ak K1 rfl (SQ fun _ K2=>SR fun _ K3=>Rm rfl (Rl tN rfl (Rm rfl (Rl tN rfl (Rc rfl (Kz K3 (Cd rfl ?_ ?_)))))))) <;> clear H K1 K3
 ·intro h10 a H
  try have lg:=dT h10
  exact kP H (SR fun _ K4=>ak K4 rfl (LR results108 rfl fun H=>H.rt (aF (jm fun e=>absurd (aA List.length e) (by omega)).symm)))
 intro h10 a H
 try have lg:=dF h10
 refine kP H (Kc K2 (SQ fun _ K5=>SR fun _ K6=>Rm rfl (Rl tN rfl (Rm rfl (Kz K6 (SB ?_))))));clear H K2 K6;intro a H;skip;refine eZ (ι:=Nat × GH) (Tc:=[(0,_),(1,_),(12,_)]) (Lc:=[]) (fun gh=>[(13,vi gh.1)]) (fun gh=>[]) (fun gh=>gh.2) (fun gh=>gh.1≤A.length∧A.take gh.1=B.take gh.1∧(∀ b o,G b=some o→gh.2 b=some o)) (fun gh=>A.length - gh.1) ((0,G)) (by exact (H).sub ⟨rfl,rfl,rfl,rfl,aB⟩) ?_ ?_
 ·exact ⟨by omega,rfl,fun _ _ h=>h⟩
 clear H;intro gh a w hI H;obtain ⟨k,g⟩:=gh;dsimp only at hI H;obtain ⟨hk,hsame,hgm⟩:=hI;dsimp only [lca,aZ] at H;refine kP H (SR fun _ K7=>Rc rfl (Kz K7 (SQ fun _ K8=>Cd rfl ?_ ?_))) <;> clear H K7
 ·intro dO a H
  try have lQ:=dT dO
  have hk2:k < A.length:=by omega
  have hk3:k < B.length:=by omega
  obtain ⟨b1,o1,cs1,rfl,Uh,GA,hr1⟩:=hg k A[k].dat (by simp [hk2]);obtain rfl:=Ow hr1;obtain ⟨b2,o2,cs2,rfl,Ui,hrow2,hr2⟩:=hh k B[k].dat (by simp [hk3]);obtain rfl:=Ow hr2;refine kP H (Kc K8 (SQ fun _ K9=>SB (SR fun _ aS=>Rm rfl (ak aS rfl (SQ fun _ bA=>?_)))));clear H K8 aS;intro a H;refine dI hmx [[],[],[0,1],[0,1,2],[],[],[4,5],[4,5,6],(ra 0 8)] [] (by kernel_rfl) [_,_,_,.agg A[k].cells.toArray,_,_,_,.agg B[k].cells.toArray,.bool (!decide (A[k]=B[k]))] H (aD (Z0 rfl (Rm rfl)) (Z0 rfl (Rm rfl)) (Z2 0 16 1 17 rfl (Ri tN uO rfl rfl)) ?_ (aD (Z0 rfl (Rm rfl)) (Z0 rfl (Rm rfl)) (Z2 4 20 5 21 rfl (Ri tN uO rfl rfl)) ?_ (aW ?_ bY))) ?_
  ·refine dL 2 18 rfl rfl fun _ a w G1 hG HT H fin=>?_;refine bD uO (cs:=A[k].cells) H wn rfl rfl (fun j v hj=>H.hp.aJ (aK hG (aK hgm (GA j v hj)))) rfl ?_;clear H;intro a H;exact fin H iJ rfl
  ·refine dL 6 22 rfl rfl fun _ a w G1 hG HT H fin=>?_;refine bD uO (cs:=B[k].cells) H wn rfl rfl (fun j v hj=>H.hp.aJ (aK hG (aK hgm (hrow2 j v hj)))) rfl ?_;clear H;intro a H;exact fin H iJ rfl
  ·refine dz 3 19 7 23 rfl rfl fun _ a w G1 hG HT H fin=>?_;refine Pn (.inr rfl) acL H wn rfl rfl rfl rfl ?_;clear H;intro a H;exact fin H iJ (aF (agC A[k] B[k]))
  clear H;intro a w G gH H hv;have H:=H.aQ (hv 8 24 rfl rfl) rfl;clear hv;refine aH ⟨rfl,?_⟩;refine bA _ _ ?_;clear bA;refine kV H rfl ?_ ?_
  ·intro dQ
   exact kP H (SR fun _ bK=>ak bK rfl (LR results108 rfl fun H=>H.rt (aF (jm fun e=>absurd dQ (by subst e;simp)).symm)))
  intro dQ
  try have jO:=dF dQ
  have hsm:A[k]=B[k]:=by simpa using dQ
  refine kP H (Kc K9 (SC (Rd rfl (Rm rfl ?_))));clear H K9;intro a H;refine aH ?_;refine dw ((k+1,G)) (by exact (H).sub ⟨rfl,rfl,rfl,rfl,aB⟩) ?_ ?_
  ·(try dsimp only);exact ⟨by omega,by rw [jE hk2,jE hk3,hsame,hsm],fun b o h=>gH b o (hgm b o h)⟩
  first|omega|(dsimp only;omega)
 intro dO a H
 try have lQ:=dF dO
 refine dW ?_;refine K5 _ _ ?_;clear K5;exact kP H (SR fun _ bR=>ak bR rfl (LR results108 rfl fun H=>H.rt (aF (jT (by rw [jA (by omega),jA (by omega)] at hsame;exact hsame)).symm)))
theorem ig.eq_iff (a b:ig):(((a.props=b.props∧a.marks.ins=b.marks.ins)∧a.marks.move=b.marks.move)∧a.marks.bZ=b.marks.bZ)∧a.marks.layers=b.marks.layers↔a=b:=by
 obtain ⟨p,i,m,d,l⟩:=a;obtain ⟨p2,i2,m2,d2,l2⟩:=b
 simp [and_assoc]
instance:DecidableEq ig:=fun a b=>decidable_of_iff _ (ig.eq_iff a b)
abbrev xX (h:ig) (p d l:aj):aj:=.agg #[p,vi h.marks.ins,vi h.marks.move,d,l]
theorem acM (G:GH) (w0:World) (hG:Hold G w0) (x y:ig) (p d l p2 d2 l2:aj) (hx:jl G x p d l) (hy:jl G y p2 d2 l2) :
  Calls prog 73 #[xX x p d l,xX y p2 d2 l2] w0 (bC w0 G fun r G'=>r=.bool (decide (x=y))):=by
 obtain ⟨pA,pc,rfl,-,-,-⟩:=hx.props.slice;obtain ⟨dA,dc,rfl,-,-,-⟩:=hx.bZ.slice;obtain ⟨lA,lc,rfl,-,-,-⟩:=hx.layers.slice;obtain ⟨pA2,pc2,rfl,-,-,-⟩:=hy.props.slice;obtain ⟨dA2,dc2,rfl,-,-,-⟩:=hy.bZ.slice;obtain ⟨lA2,lc2,rfl,-,-,-⟩:=hy.layers.slice;have he:=ig.eq_iff x y;refine eN [(0,_),(1,_)] func73 rfl ntmps73 rfl rfl hG ?_;intro a H;refine cO (fun _ K1=>?_);refine fC (cs:=[_,_,_,_,_]) H wn rfl rfl rfl ?_;clear H;intro b2 a w hb2 H;refine fC (cs:=[_,_,_,_,_]) H wn rfl rfl rfl ?_;clear H;intro b3 a w hb3 H;refine kH H (ak K1 rfl (SR fun _ K2=>aR Cq Ah 1 rfl rfl (aR Cq Ah 0 rfl rfl ?_)));clear H K1;intro a H;refine s_call aaQ H wn rfl (acI _ _ H.ro x.props y.props _ _ hx.props hy.props) rfl ?_;clear H;rintro v9 G9 a w rfl wI H;refine kH H (Rm rfl (Sp 10 rfl ?_ ?_)) <;> clear H
 ·intro h10 a H
  try have lg:=dT h10
  refine kH H (YF sQ h10 rfl (YF vo h10 rfl (YO aG 1 h10 rfl (YF sQ h10 rfl (YF vo h10 rfl (YO aG 0 h10 rfl (YC h10 rfl (Pt h10 rfl (Rm rfl (Sp 19 rfl ?_ ?_)))))))))) <;> clear H
  ·intro h19 a H
   try have uK:=dT h19
   refine kH H (YF sQ h19 rfl (YF AB h19 rfl (YO aG 1 h19 rfl (YF sQ h19 rfl (YF AB h19 rfl (YO aG 0 h19 rfl (YC h19 rfl (Pt h19 rfl (Rm rfl (Sp 28 rfl ?_ ?_)))))))))) <;> clear H
   ·intro eP a H
    try have p28:=dT eP
    refine kH H (YF sQ eP rfl (YF vv eP rfl (YO vO 1 eP rfl (YF sQ eP rfl (YF vv eP rfl (YO vO 0 eP rfl ?_))))));clear H;intro a H;refine s_call aaR H (wg H rfl rfl eP) rfl (acG _ _ H.ro x.marks.bZ y.marks.bZ _ _ (hx.bZ.mono wI) (hy.bZ.mono wI)) rfl ?_;clear H;rintro v35 Qk a w rfl Us H;refine kH H (Pt eP rfl (Rm rfl (Sp 37 rfl ?_ ?_))) <;> clear H
    ·intro h37 a H
     try have p37:=dT h37
     refine kH H (YF sQ h37 rfl (YF Co h37 rfl (YO Dx 1 h37 rfl (YF sQ h37 rfl (YF Co h37 rfl (YO Dx 0 h37 rfl ?_))))));clear H;intro a H;refine s_call aaS H (wg H rfl rfl h37) rfl (acH _ _ H.ro x.marks.layers y.marks.layers _ _ ((hx.layers.mono wI).mono Us) ((hy.layers.mono wI).mono Us)) rfl ?_;clear H;rintro v44 G44 a w rfl ajV H;exact kH H (Pt h37 rfl (ak K2 rfl (LR results73 rfl fun H=>H.rt (aF (by simp_all)))))
    intro h37 a H
    try have p37:=dF h37
    exact kH H (aX h37 rfl (aP h37 rfl (aP h37 rfl (Pf h37 rfl (ak K2 rfl (LR results73 rfl fun H=>H.rt (aF (by simp_all))))))))
   intro eP a H
   try have p28:=dF eP
   exact kH H (aX eP rfl (aP eP rfl (aP eP rfl (Pf eP rfl (Rm rfl (aX rfl rfl (aP rfl rfl (aP rfl rfl (Pf rfl rfl (ak K2 rfl (LR results73 rfl fun H=>H.rt (aF (by simp_all)))))))))))))
  intro h19 a H
  try have uK:=dF h19
  exact kH H (aX h19 rfl (aP h19 rfl (aP h19 rfl (Pf h19 rfl (Rm rfl (aX rfl rfl (aP rfl rfl (aP rfl rfl (Pf rfl rfl (Rm rfl (aX rfl rfl (aP rfl rfl (aP rfl rfl (Pf rfl rfl (ak K2 rfl (LR results73 rfl fun H=>H.rt (aF (by simp_all))))))))))))))))))
 intro h10 a H
 try have lg:=dF h10
 exact kH H (aX h10 rfl (aP h10 rfl (aP h10 rfl (Pf h10 rfl (Rm rfl (aX rfl rfl (aP rfl rfl (aP rfl rfl (Pf rfl rfl (Rm rfl (aX rfl rfl (aP rfl rfl (aP rfl rfl (Pf rfl rfl (Rm rfl (aX rfl rfl (aP rfl rfl (aP rfl rfl (Pf rfl rfl (ak K2 rfl (LR results73 rfl fun H=>H.rt (aF (by simp_all)))))))))))))))))))))))
end
section
open Go.RowKit
theorem acZ:bV prog 199 0 0:=⟨by kernel_rfl⟩
theorem zo:bV prog 199 1 1:=⟨by kernel_rfl⟩
theorem Tt:bV prog 199 3 3:=⟨by kernel_rfl⟩
theorem Ef:bV prog 199 2 2:=⟨by kernel_rfl⟩
theorem Mw:∀ args w,(callFunc 91 args).run prog w=.ok (.enter 91 args) w:=enters func91 rfl (by kernel_rfl)
structure gJ where
 st:List bM
 wT:List Int
 EL:List Int
abbrev aT (st:List bM) (li:List fI) (rv:List eX):gJ:=⟨st,li.map fI.id,rv.map eX.id⟩
theorem Vm {G:GH} {l:List iO} {A:Option Addr} {n c k:Nat} (hv:av G (.sl 4 (l.map iO.dat)) (.slice A n c)) (hk:k < l.length):∃ b o,A=some ⟨b,o,none⟩∧(∀ j u,l[k].cells[j]?=some u→aJ G b (o+k*4+j)=some u):=by
 obtain ⟨A',c',he,_,_,hg⟩:=hv.slice
 injection he with e1 e2 e3
 subst e1;obtain ⟨b,o,cs,h1,h2,h3,h4⟩:=hg k l[k].dat (by simp [hk]);have:=Ow h4;subst this;exact ⟨b,o,h1,h3⟩
theorem R7 {G:GH} {l:List jg} {A:Option Addr} {n c k:Nat} (hv:av G (.sl 2 (l.map jg.dat)) (.slice A n c)) (hk:k < l.length):∃ b o,A=some ⟨b,o,none⟩∧(∀ j u,l[k].cells[j]?=some u→aJ G b (o+k*2+j)=some u):=by
 obtain ⟨A',c',he,_,_,hg⟩:=hv.slice
 injection he with e1 e2 e3
 subst e1;obtain ⟨b,o,cs,h1,h2,h3,h4⟩:=hg k l[k].dat (by simp [hk]);have:=LY h4;subst this;exact ⟨b,o,h1,h3⟩
def zW (C:gJ) (e:Int) (k:Nat) (x:iO) (pk:Int):Int :=
 if x.rev∉C.EL then 22 else if xS e x.key=false then 4 else if 0 < k∧x.key < pk then 6 else if x.had=false then bW (decide (x.before≠0)) 21 else cZ [sN x.key x.before,ni C.st C.wT x.key x.before]
def Df (C:gJ) (e:Int) (l:List iO) (k:Nat):Int:=match l[k]? with|some x=>zW C e k x ((l[k - 1]?.map iO.key).getD 0)|none=>0
theorem afW (G:GH) (w0:World) (hG:Hold G w0) (st:List bM) (li:List fI) (rv:List eX) (b ms ml mr mb mu:Nat) (n:Int) (hck:sF G st li rv ms ml mr mu) (hb:G b=some (fD b ms ml mr mb mu n).2)
  (e:Int) (l:List iO) (v:aj) (hv:av G (.sl 4 (l.map iO.dat)) v) (k:Nat) (hk:k < l.length) :
  Calls prog 93 #[(aI b 0),vi e,v,vi k] w0 (bC w0 G fun u G'=>u=vi (Df (aT st li rv) e l k)):=by
 have hc2:aJ G b 2=some (.map (some mr)):=by unfold aJ;rw [hb];rfl
 obtain ⟨A,c,rfl,hl1,hl2,-⟩:=hv.slice;have hml:maxLen=9223372036854775807:=rfl;rw [bT] at *;obtain ⟨xb,xo,rfl,hrow⟩:=Vm hv hk
 have hk1:k - 1 < l.length:=by omega
 obtain ⟨b',o',he',hrow'⟩:=Vm hv hk1
 injection he' with he'
 injection he' with e1 e2
 subst e1;subst e2
 have he:Df (aT st li rv) e l k=zW (aT st li rv) e k l[k] l[k - 1].key:=by unfold Df;rw [gP hk,gP hk1];rfl
 obtain ⟨x,hx⟩:∃ x,x=l[k]:=⟨_,rfl⟩;obtain ⟨y,hy⟩:∃ y,y=l[k - 1]:=⟨_,rfl⟩;rw [← hx] at hrow he;rw [← hy] at hrow' he;have hq:=hrow' 1 _ rfl;refine eN [(0,_),(1,_),(2,_),(3,_)] func93 rfl ntmps93 rfl rfl hG ?_;intro a H;refine kP H (SR fun _ K1=>ak K1 rfl (SR fun _ K2=>Rm rfl (Rm rfl (Ri tN uO rfl rfl ?_))));clear H K1;intro a H;refine bD uO (cs:=x.cells) H wn rfl rfl (fun j v hj=>H.hp.aJ (hrow j v hj)) rfl ?_;clear H;intro a H;refine eU uO H wn rfl ?_;clear H;intro b9 a w xW H;refine bF uO 0 (vs:=[_,_,_,_]) _ H wn rfl rfl rfl rfl rfl rfl rfl rfl ?_;clear H;intro w H;dsimp only [List.set,setRow] at H;refine K2 _ _ ?_;clear K2;refine kP H (SQ fun _ K3=>SB (SQ fun _ K4=>?_));clear H;intro a H;refine dI hmx [[],[0],[0,1],[0,1,2],[],[4],(ra 0 6),(ra 0 7),(ra 0 8)] [8] (by kernel_rfl) [_,_,_,_,_,vi x.rev,.bool (decide (x.rev∈rv.map eX.id)),_] H (aD (Z0 rfl (Rm rfl)) (Z1 0 15 rfl (Rk rfl)) (Z1 1 16 rfl (Rf FQ rfl)) (X1 2 17 rfl fun hG=>Rg yF rfl (aK hG hc2)) (aD (Z0 rfl (Rf acZ rfl)) (Z1 4 19 rfl (Ro aG 0 rfl)) ?_ (Z1 6 21 rfl (Rn rfl)) (aW (bL rfl) bY))) ?_
 ·refine dz 3 18 5 20 rfl rfl fun _ a w G1 hG HT H fin=>?_;refine wX (zv:=.bool false) yI mU (by kernel_rfl) H wn rfl rfl (H.ro _ _ (hG _ _ hck.rev)) rfl ?_;clear H;intro a H;rw [Di] at H;exact fin H iJ rfl
 clear H;intro a w G zH H hv;have H:=H.aQ (hv 7 22 rfl rfl) rfl;clear hv;refine kH H (Ra rfl ?_);clear H;intro a H;refine aH ⟨rfl,?_⟩;refine K4 _ _ ?_;clear K4;refine kV H rfl ?_ ?_
 ·intro dO
  try have lQ:=dT dO
  refine kP H (SR fun _ K5=>ak K5 rfl ?_);clear H K5;intro a H;refine lr H results93 rfl ?_
  exact H.rt (by rw [he];refine aA vi ?_;clear he hrow hrow' hq hx hy;unfold zW;(repeat' split) <;> first|rfl|(simp_all;done)|(exfalso;simp_all;done))
 intro dO
 try have lQ:=dF dO
 refine kP H (SR fun _ K6=>Rm rfl (aR zo aG 0 rfl rfl ?_));clear H;intro a H;refine s_call Sj H wn rfl (Rx (TN _ _ H.ro e x.key)) rfl ?_;clear H;rintro v27 _ a w ⟨⟨_,rfl⟩,rfl⟩ - H;refine kH H (Rn rfl (ak K6 rfl (Cd rfl ?_ ?_))) <;> clear H K6
 ·intro h23 a H
  try have rY:=dT h23
  refine kP H (SR fun _ K7=>ak K7 rfl ?_);clear H K7;intro a H;refine lr H results93 rfl ?_
  exact H.rt (by rw [he];refine aA vi ?_;clear he hrow hrow' hq hx hy;unfold zW;(repeat' split) <;> first|rfl|(simp_all;done)|(exfalso;simp_all;done))
 intro h23 a H
 try have rY:=dF h23
 refine bq (fun _ K8=>?_);replace hq:=aK zH hq
 by_cases c0:0 < (k:Int)
 ·skip
  by_cases c1:x.key < y.key
  ·skip;refine dI hmx [[],[0],[0,1],[0,1,2],(ra 0 4),[0,1,2],[0,1,2],[0,1,2,6],[0,1,2,5,6,7],[0,1,2,5,6,7,8],[0,1,2,5,6,7,8,9],(ra 0 11),(ra 0 12),(ra 0 13)] [13] (by kernel_rfl) [_,_,_,_,vi x.key,_,_,vi ((k - 1:Nat):Int),_,_,_,_,_] H (aD (Z0 rfl (Rm rfl)) (Z1 0 30 rfl (Rc rfl)) (Z1 1 31 rfl (Rm rfl)) (Z1 2 32 rfl (YF zo (aC c0) rfl)) (aD (Z2 3 33 2 32 rfl (YO aG 0 (aC c0) rfl)) (Z1 2 32 rfl (YM (aC c0) rfl)) (Z1 2 32 rfl (YM (aC c0) rfl)) ?_ (aD (Z3 5 35 7 37 2 32 rfl (YI tN uO (aC c0) rfl rfl)) (Z2 8 38 2 32 rfl (YF zo (aC c0) rfl)) (X2 9 39 2 32 rfl fun hG=>YR aG (aC c0) rfl (aK hG hq)) (Z3 4 34 10 40 2 32 rfl (YC (aC c0) rfl)) (aW (Z2 2 32 11 41 rfl (Pt (aC c0) rfl)) (aW (bL rfl) bY))))) ?_
   ·refine dz 6 36 2 32 rfl rfl fun _ a w G1 hG HT H fin=>?_;refine mF _ H (wg H rfl rfl (aC c0)) rfl rfl rfl (by omega) (by omega) rfl ?_;clear H;intro a H;exact fin H iJ (by show _=_;first|rfl|exact aA vi (by omega))
   clear H;intro a w G gH H hv;have H:=H.aQ (hv 12 42 rfl rfl) rfl;clear hv;refine kH H (Ra rfl ?_);clear H;intro a H;refine aH ⟨rfl,?_⟩;refine K8 _ _ ?_;clear K8;refine vX H rfl (aC c1) ?_;refine bq (fun _ K9=>?_);have hz:0 < k∧x.key < y.key:=⟨by omega,c1⟩;refine kP H (SC (aV K9 rfl ?_));clear H K9;intro a H;refine lr H results93 rfl ?_
   exact H.rt (by rw [he];refine aA vi ?_;clear he hrow hrow' hq hx hy;unfold zW;(repeat' split) <;> first|rfl|(simp_all;done)|(exfalso;simp_all;done))
  skip;refine dI hmx [[],[0],[0,1],[0,1,2],(ra 0 4),[0,1,2],[0,1,2],[0,1,2,6],[0,1,2,5,6,7],[0,1,2,5,6,7,8],[0,1,2,5,6,7,8,9],(ra 0 11),(ra 0 12),(ra 0 13)] [13] (by kernel_rfl) [_,_,_,_,vi x.key,_,_,vi ((k - 1:Nat):Int),_,_,_,_,_] H (aD (Z0 rfl (Rm rfl)) (Z1 0 30 rfl (Rc rfl)) (Z1 1 31 rfl (Rm rfl)) (Z1 2 32 rfl (YF zo (aC c0) rfl)) (aD (Z2 3 33 2 32 rfl (YO aG 0 (aC c0) rfl)) (Z1 2 32 rfl (YM (aC c0) rfl)) (Z1 2 32 rfl (YM (aC c0) rfl)) ?_ (aD (Z3 5 35 7 37 2 32 rfl (YI tN uO (aC c0) rfl rfl)) (Z2 8 38 2 32 rfl (YF zo (aC c0) rfl)) (X2 9 39 2 32 rfl fun hG=>YR aG (aC c0) rfl (aK hG hq)) (Z3 4 34 10 40 2 32 rfl (YC (aC c0) rfl)) (aW (Z2 2 32 11 41 rfl (Pt (aC c0) rfl)) (aW (bL rfl) bY))))) ?_
  ·refine dz 6 36 2 32 rfl rfl fun _ a w G1 hG HT H fin=>?_;refine mF _ H (wg H rfl rfl (aC c0)) rfl rfl rfl (by omega) (by omega) rfl ?_;clear H;intro a H;exact fin H iJ (by show _=_;first|rfl|exact aA vi (by omega))
  clear H;intro a w G gH H hv;have H:=H.aQ (hv 12 42 rfl rfl) rfl;clear hv;refine kH H (Ra rfl ?_);clear H;intro a H;refine aH ⟨rfl,?_⟩;refine K8 _ _ ?_;clear K8;refine kW H rfl (aO c1) ?_;refine bq (fun _ aS=>?_)
  have hz:¬ (0 < k∧x.key < y.key):=by first|exact fun h=>c1 h.2|exact fun h=>c0 (by omega)
  refine kP H (SC (aR Tt xg 0 rfl rfl (Rn rfl (aV aS rfl (Cd rfl ?_ ?_))))) <;> clear H aS
  ·intro h43 a H
   try have p43:=dT h43
   refine kP H (SR fun _ bA=>aR Ef aG 0 rfl rfl (Rc rfl ?_));clear H;intro a H;refine s_call iL H wn rfl (iN _ _ H.ro _ 21) rfl ?_;clear H;rintro v50 _ a w ⟨rfl,rfl⟩ - H;refine kH H (ak bA rfl ?_);clear H bA;intro a H;refine lr H results93 rfl ?_
   exact H.rt (by rw [he];refine aA vi ?_;clear he hrow hrow' hq hx hy;unfold zW;(repeat' split) <;> first|rfl|(simp_all;done)|(exfalso;simp_all;done))
  intro h43 a H
  try have p43:=dF h43
  refine fO ?_;refine K3 _ _ ?_;clear K3;refine bq (fun _ bK=>?_);replace hck:=(hck.mono zH).mono gH;replace hb:=gH _ _ (zH _ _ hb);refine dI hmx [[],[0],[],[2],(ra 0 4),[],[],[6],[],[8],(ra 0 10),(ra 0 11),(ra 0 12),(ra 0 13)] [11,12,13] (by kernel_rfl) [_,vi x.key,_,vi x.before,vi (sN x.key x.before),_,_,vi x.key,_,vi x.before,vi (ni st (li.map fI.id) x.key x.before)] H (aD (Z0 rfl (Rf zo rfl)) (Z1 0 51 rfl (Ro aG 0 rfl)) (Z0 rfl (Rf Ef rfl)) (Z1 2 53 rfl (Ro aG 0 rfl)) (aD ?_ (Z0 rfl (Rm rfl)) (Z0 rfl (Rf zo rfl)) (Z1 6 57 rfl (Ro aG 0 rfl)) (aD (Z0 rfl (Rf Ef rfl)) (Z1 8 59 rfl (Ro aG 0 rfl)) ?_ (bL rfl) (aW (bL rfl) (aW (bL rfl) bY))))) ?_
  ·refine dz 1 52 3 54 rfl rfl fun _ a w G1 hG HT H fin=>?_;refine s_call Mf H wn rfl (LH _ _ H.ro x.key x.before) rfl ?_;clear H;rintro v55 Ii a w rfl Ng H;exact fin H Ng (rfl)
  ·refine qF 5 56 7 58 9 60 rfl rfl fun _ a w G1 hG HT H fin=>?_;refine s_call Mw H wn rfl (LK _ _ H.ro st li rv b ms ml mr mb mu n x.key x.before (hck.mono hG) (hG _ _ hb)) rfl ?_;clear H;rintro v61 Yq a w ⟨rfl,-⟩ Nh H;exact fin H Nh (rfl)
  clear H;intro a w G mK H hv;have H:=H.aQ (hv 4 55 rfl rfl) rfl;have H:=H.aQ (hv 10 61 rfl rfl) rfl;clear hv;refine gQ nJ fV [_,_] [_,_] H wn rfl rfl rfl rfl rfl (by intro i q h;match i,h with|0,h=>exact h|1,h=>exact h|n+2,h=>simp at h) rfl rfl ?_;clear H;intro Zm a w aeu H;obtain ⟨Yr,aeQ,Nw,H⟩:=H.dP;refine s_call oD H wn rfl (oF _ _ H.ro _ _ (vN Nw)) rfl ?_;clear H;rintro v63 _ a w ⟨rfl,rfl⟩ - H;refine kH H (Ra rfl ?_);clear H;intro a H;refine aH ⟨rfl,?_⟩;refine bK _ _ ?_;clear bK;refine lr H results93 rfl ?_
  exact H.rt (by rw [he];refine aA vi ?_;clear he hrow hrow' hq hx hy;unfold zW;(repeat' split) <;> first|rfl|(simp_all;done)|(exfalso;simp_all;done))
 skip;refine dI hmx [[],[0],[0,1],[0,1,2],(ra 0 4),[0,1,2],[0,1,2],[0,1,2,6],[0,1,2,5,6,7],[0,1,2,5,6,7,8],[0,1,2,5,6,7,8,9],(ra 0 11),(ra 0 12),(ra 0 13)] [13] (by kernel_rfl) [_,_,_,undef,undef,undef,undef,undef,undef,undef,undef,undef,_] H (aD (Z0 rfl (Rm rfl)) (Z1 0 30 rfl (Rc rfl)) (Z1 1 31 rfl (Rm rfl)) (aL (j:=2) (by kernel_rfl) (fun _ _ _ _ _ h=>h) rfl rfl rfl rfl rfl (fun _ _ h=>aN h (aF (aO c0))) rfl (fun _=>rfl)) (aD (aL (j:=2) (by kernel_rfl) (fun _ _ _ _ _ h=>h) rfl rfl rfl rfl rfl (fun _ _ h=>aN h (aF (aO c0))) rfl (fun _=>rfl)) (aL (j:=2) (by kernel_rfl) (fun _ _ _ _ _ h=>h) rfl rfl rfl rfl rfl (fun _ _ h=>aN h (aF (aO c0))) rfl (fun _=>rfl)) (aL (j:=2) (by kernel_rfl) (fun _ _ _ _ _ h=>h) rfl rfl rfl rfl rfl (fun _ _ h=>aN h (aF (aO c0))) rfl (fun _=>rfl)) (aL (j:=2) (by kernel_rfl) (fun _ _ _ _ _ h=>h) rfl rfl rfl rfl rfl (fun _ _ h=>aN h (aF (aO c0))) rfl (fun _=>rfl)) (aD (aL (j:=2) (by kernel_rfl) (fun _ _ _ _ _ h=>h) rfl rfl rfl rfl rfl (fun _ _ h=>aN h (aF (aO c0))) rfl (fun _=>rfl)) (aL (j:=2) (by kernel_rfl) (fun _ _ _ _ _ h=>h) rfl rfl rfl rfl rfl (fun _ _ h=>aN h (aF (aO c0))) rfl (fun _=>rfl)) (aL (j:=2) (by kernel_rfl) (fun _ _ _ _ _ h=>h) rfl rfl rfl rfl rfl (fun _ _ h=>aN h (aF (aO c0))) rfl (fun _=>rfl)) (aL (j:=2) (by kernel_rfl) (fun _ _ _ _ _ h=>h) rfl rfl rfl rfl rfl (fun _ _ h=>aN h (aF (aO c0))) rfl (fun _=>rfl)) (aW (Z2 2 32 11 41 rfl (Pf (aO c0) rfl)) (aW (bL rfl) bY))))) ?_
 clear H;intro a w G gH H hv;have H:=H.aQ (hv 12 42 rfl rfl) rfl;clear hv;refine kH H (Ra rfl ?_);clear H;intro a H;refine aH ⟨rfl,?_⟩;refine K8 _ _ ?_;clear K8;refine kW H rfl rfl ?_;refine bq (fun _ bR=>?_)
 have hz:¬ (0 < k∧x.key < y.key):=by first|exact fun h=>c1 h.2|exact fun h=>c0 (by omega)
 refine kP H (SC (aR Tt xg 0 rfl rfl (Rn rfl (aV bR rfl (Cd rfl ?_ ?_))))) <;> clear H bR
 ·intro h43 a H
  try have p43:=dT h43
  refine kP H (SR fun _ bP=>aR Ef aG 0 rfl rfl (Rc rfl ?_));clear H;intro a H;refine s_call iL H wn rfl (iN _ _ H.ro _ 21) rfl ?_;clear H;rintro v50 _ a w ⟨rfl,rfl⟩ - H;refine kH H (ak bP rfl ?_);clear H bP;intro a H;refine lr H results93 rfl ?_
  exact H.rt (by rw [he];refine aA vi ?_;clear he hrow hrow' hq hx hy;unfold zW;(repeat' split) <;> first|rfl|(simp_all;done)|(exfalso;simp_all;done))
 intro h43 a H
 try have p43:=dF h43
 refine fO ?_;refine K3 _ _ ?_;clear K3;refine bq (fun _ dJ=>?_);replace hck:=(hck.mono zH).mono gH;replace hb:=gH _ _ (zH _ _ hb);refine dI hmx [[],[0],[],[2],(ra 0 4),[],[],[6],[],[8],(ra 0 10),(ra 0 11),(ra 0 12),(ra 0 13)] [11,12,13] (by kernel_rfl) [_,vi x.key,_,vi x.before,vi (sN x.key x.before),_,_,vi x.key,_,vi x.before,vi (ni st (li.map fI.id) x.key x.before)] H (aD (Z0 rfl (Rf zo rfl)) (Z1 0 51 rfl (Ro aG 0 rfl)) (Z0 rfl (Rf Ef rfl)) (Z1 2 53 rfl (Ro aG 0 rfl)) (aD ?_ (Z0 rfl (Rm rfl)) (Z0 rfl (Rf zo rfl)) (Z1 6 57 rfl (Ro aG 0 rfl)) (aD (Z0 rfl (Rf Ef rfl)) (Z1 8 59 rfl (Ro aG 0 rfl)) ?_ (bL rfl) (aW (bL rfl) (aW (bL rfl) bY))))) ?_
 ·refine dz 1 52 3 54 rfl rfl fun _ a w G1 hG HT H fin=>?_;refine s_call Mf H wn rfl (LH _ _ H.ro x.key x.before) rfl ?_;clear H;rintro v55 Ii a w rfl Ng H;exact fin H Ng (rfl)
 ·refine qF 5 56 7 58 9 60 rfl rfl fun _ a w G1 hG HT H fin=>?_;refine s_call Mw H wn rfl (LK _ _ H.ro st li rv b ms ml mr mb mu n x.key x.before (hck.mono hG) (hG _ _ hb)) rfl ?_;clear H;rintro v61 Yq a w ⟨rfl,-⟩ Nh H;exact fin H Nh (rfl)
 clear H;intro a w G mK H hv;have H:=H.aQ (hv 4 55 rfl rfl) rfl;have H:=H.aQ (hv 10 61 rfl rfl) rfl;clear hv;refine gQ nJ fV [_,_] [_,_] H wn rfl rfl rfl rfl rfl (by intro i q h;match i,h with|0,h=>exact h|1,h=>exact h|n+2,h=>simp at h) rfl rfl ?_;clear H;intro Zm a w aeu H;obtain ⟨Yr,aeQ,Nw,H⟩:=H.dP;refine s_call oD H wn rfl (oF _ _ H.ro _ _ (vN Nw)) rfl ?_;clear H;rintro v63 _ a w ⟨rfl,rfl⟩ - H;refine kH H (Ra rfl ?_);clear H;intro a H;refine aH ⟨rfl,?_⟩;refine dJ _ _ ?_;clear dJ;refine lr H results93 rfl ?_
 exact H.rt (by rw [he];refine aA vi ?_;clear he hrow hrow' hq hx hy;unfold zW;(repeat' split) <;> first|rfl|(simp_all;done)|(exfalso;simp_all;done))
end
section
open Go.RowKit
theorem ER:Ty prog 140 1 8 [.pointer none] false:=⟨by kernel_rfl,by kernel_rfl⟩
theorem acB:∀ args w,(callFunc 93 args).run prog w=.ok (.enter 93 args) w:=enters func93 rfl (by kernel_rfl)
theorem EU:Ty prog 27 4 64 [.int .i64 0,.int .i64 0,.slice none 0 0,.slice none 0 0] true:=⟨by kernel_rfl,by kernel_rfl⟩
theorem FR:bV prog 190 0 0:=⟨by kernel_rfl⟩
theorem Tq:bV prog 190 1 1:=⟨by kernel_rfl⟩
theorem acA:∀ args w,(callFunc 92 args).run prog w=.ok (.enter 92 args) w:=enters func92 rfl (by kernel_rfl)
theorem afV {G:GH} {st:List bM} {li:List fI} {rv:List eX} {b ms ml mr mb mu:Nat} {n:Int} (hck:sF G st li rv ms ml mr mu) (hb:G b=some (fD b ms ml mr mb mu n).2)
  {x3 x4 Qa:Nat} {e:Int} {l:List iO} {v:aj} (h3:aJ G x3 0=some (aI b 0)) (h4:aJ G x4 0=some (vi e)) (h11:aJ G Qa 3=some v) (hv:av G (.sl 4 (l.map iO.dat)) v) :
  qD (.func (.func 92) #[] #[(aI x3 0),(aI x4 0),(aI Qa 0)]) G l.length (Df (aT st li rv) e l):=by
 intro k hk G1 w0 hm hG;refine lZ (caps:=[(aI x3 0),(aI x4 0),(aI Qa 0)]) acA ?_;replace h3:=aK hm h3;replace h4:=aK hm h4;replace h11:=aK hm h11;replace hv:=hv.mono hm;obtain ⟨vA,vn,vc,rfl⟩:=hv.form;refine eN [(0,_),(1,_),(2,_),(3,_)] func92 rfl ntmps92 rfl rfl hG ?_;intro a H;refine kP H (SR fun _ K1=>ak K1 rfl (SR fun _ K2=>Rg ER rfl (by assumption) ?_));clear H K1;intro a H;refine kH H (Rg aG rfl (by assumption) ?_);clear H;intro a H;refine kH H (Rf Co rfl (Rg Dx rfl (by assumption) ?_));clear H;intro a H;refine kH H (Rm rfl ?_);clear H;intro a H;refine s_call acB H wn rfl (afW _ _ H.ro st li rv b ms ml mr mb mu n (hck.mono hm) (hm _ _ hb) e l _ hv k hk) rfl ?_;clear H;rintro v11 vS a w rfl Jm H;exact kH H (ak K2 rfl (LR results92 rfl fun H=>H.rt rfl))
def wW (C:gJ) (l:List iq):Int:=cZ (l.map fun p=>ni C.st C.wT p.key p.value)
def jv (C:gJ) (m:uS):Int:=if m.ins≠0∧m.ins∉C.EL then 22 else if ¬ (0≤m.move∧m.move≤1073741824)∨(m.move≠0∧m.ins=0) then 21 else if 16 < (m.bZ.length:Int) then 9 else 0
def wo (C:gJ) (k:Nat) (x:jg) (pr:Int):Int:=if x.rev∉C.EL then 22 else if 0 < k∧x.rev≤pr then 6 else if ¬ (0≤x.move∧x.move≤1073741824) then 21 else 0
def wm (C:gJ) (l:List jg) (k:Nat):Int:=match l[k]? with|some x=>wo C k x ((l[k - 1]?.map jg.rev).getD 0)|none=>0
def iw (C:gJ) (e:Int) (h:ig):Int:=cZ [gq e h.props,wW C h.props,jv C h.marks,jM (wm C h.marks.bZ) h.marks.bZ.length,bW (decide (64 < (h.marks.layers.length:Int))) 9,jM (Df C e h.marks.layers) h.marks.layers.length]
theorem aeC {C:gJ} {e:Int} {h:ig} (h1:gq e h.props≠0):iw C e h=gq e h.props:=by simp [iw,cZ,h1]
theorem aeD {C:gJ} {e:Int} {h:ig} (h1:gq e h.props=0) (h2:wW C h.props≠0):iw C e h=wW C h.props:=by simp [iw,cZ,h1,h2]
theorem zM {C:gJ} {e:Int} {h:ig} (h1:gq e h.props=0) (h2:wW C h.props=0) (h3:jv C h.marks≠0):iw C e h=jv C h.marks:=by simp [iw,cZ,h1,h2,h3]
theorem aeE {C:gJ} {e:Int} {h:ig} (h1:gq e h.props=0) (h2:wW C h.props=0) (h3:jv C h.marks=0) (h4:jM (wm C h.marks.bZ) h.marks.bZ.length≠0):iw C e h=jM (wm C h.marks.bZ) h.marks.bZ.length:=by simp [iw,cZ,h1,h2,h3,h4]
theorem aeF {C:gJ} {e:Int} {h:ig} (h1:gq e h.props=0) (h2:wW C h.props=0) (h3:jv C h.marks=0) (h4:jM (wm C h.marks.bZ) h.marks.bZ.length=0) (h5:64 < (h.marks.layers.length:Int)):iw C e h=9:=by simp [iw,cZ,h1,h2,h3,h4,bW,h5]
theorem aeG {C:gJ} {e:Int} {h:ig} (h1:gq e h.props=0) (h2:wW C h.props=0) (h3:jv C h.marks=0) (h4:jM (wm C h.marks.bZ) h.marks.bZ.length=0) (h5:¬ 64 < (h.marks.layers.length:Int)):iw C e h=jM (Df C e h.marks.layers) h.marks.layers.length:=by simp [iw,cZ,h1,h2,h3,h4,bW,h5];exact Eq.symm
theorem Wm {C:gJ} {l:List iq} {k:Nat} (h:k < l.length):cZ ((l.map fun p=>ni C.st C.wT p.key p.value).drop k)=if ni C.st C.wT l[k].key l[k].value≠0 then ni C.st C.wT l[k].key l[k].value else cZ ((l.map fun p=>ni C.st C.wT p.key p.value).drop (k+1)):=by
 rw [I7 (by simpa using h)];simp
theorem aeH (G:GH) (w0:World) (hG:Hold G w0) (st:List bM) (li:List fI) (rv:List eX) (b ms ml mr mb mu:Nat) (n:Int) (hck:sF G st li rv ms ml mr mu) (hb:G b=some (fD b ms ml mr mb mu n).2)
  (e:Int) (h:ig) (p d l:aj) (hh:jl G h p d l) (hz:oO h≤4294967296) :
  Calls prog 58 #[(aI b 0),vi e,xX h p d l] w0 (bC w0 G fun u G'=>u=vi (iw (aT st li rv) e h)):=by
 obtain ⟨pA,pc,rfl,-,-,-⟩:=hh.props.slice;obtain ⟨dA,dc,rfl,-,-,-⟩:=hh.bZ.slice;obtain ⟨lA,lc,rfl,-,-,-⟩:=hh.layers.slice;have hml:maxLen=9223372036854775807:=rfl;have hzz:=HV h;have hz1:=qW (h.props.map iq.dat);have hz2:=qW (h.marks.bZ.map jg.dat);have hz3:=qW (h.marks.layers.map iO.dat)
 simp only [bT] at hh hz1 hz2 hz3 ⊢
 generalize oO h=zz at hz hzz
 refine eN [(0,_),(1,_),(2,_)] func58 rfl ntmps58 rfl rfl hG ?_;intro a H;refine cO (fun _ K1=>?_);refine fC (cs:=[_]) H wn rfl rfl rfl ?_;clear H;intro b3 a w hb3 H;refine fC (cs:=[_]) H wn rfl rfl rfl ?_;clear H;intro b4 a w hb4 H;refine fC (cs:=[_,_,_,_,_]) H wn rfl rfl rfl ?_;clear H;intro b5 a w hb5 H;refine kH H (ak K1 rfl (SQ fun _ K2=>SQ fun _ K3=>?_));clear H K1;intro a H;obtain ⟨Yy,Js,xV,H⟩:=H.dP;obtain ⟨Yx,Ew,wF,H⟩:=H.dP;obtain ⟨Ga,Bh,zL,H⟩:=H.dP;replace xV:=Bh _ _ (Ew _ _ xV);replace wF:=Bh _ _ wF;have hma:∀ b o,G b=some o→Ga b=some o:=fun b o h=>Bh _ _ (Ew _ _ (Js _ _ h));clear Bh Ew Js;replace hck:=hck.mono hma;replace hb:=hma _ _ hb;replace hh:=hh.mono hma
 have g3:aJ Ga b3 0=some (aI b 0):=by unfold aJ;rw [zL];rfl
 have g4:aJ Ga b4 0=some (vi e):=by unfold aJ;rw [wF];rfl
 have g50:aJ Ga b5 0=some (.slice pA h.props.length pc):=by unfold aJ;rw [xV];rfl
 have g51:∀ (j:Nat) (u:aj),[vi h.marks.ins,vi h.marks.move,.slice dA h.marks.bZ.length dc,.slice lA h.marks.layers.length lc][j]?=some u→aJ Ga b5 (1+j)=some u:=by
  intro j u hj
  unfold aJ;rw [xV]
  match j,hj with
  | 0,hj=>exact hj
  | 1,hj=>exact hj
  | 2,hj=>exact hj
  | 3,hj=>exact hj
  | n+4,hj=>simp at hj
 have hc2:aJ Ga b 2=some (.map (some mr)):=by unfold aJ;rw [hb];rfl
 refine kP H (SC (Rg aG rfl (by assumption) ?_));clear H;intro a H;refine kH H (Rf Cq rfl (Rg Ah rfl (by assumption) ?_));clear H;intro a H;refine s_call SS H wn rfl (Rx (V9 _ _ H.ro e h.props _ hh.props)) rfl ?_;clear H;rintro v17 _ a w ⟨⟨_,rfl⟩,rfl⟩ - H;refine kH H (aV K3 rfl (SR fun _ K4=>Rm rfl (Rc rfl (Kz K4 (Cd rfl ?_ ?_))))) <;> clear H K3 K4
 ·intro h19 a H
  try have uK:=dT h19
  refine bq (fun _ K5=>?_);have hE:=aeC (C:=aT st li rv) (e:=e) (h:=h) uK;exact kP H (SC (Rm rfl (aV K5 rfl (LR results58 rfl fun H=>H.rt (by rw [hE])))))
 intro h19 a H
 try have uK:=dF h19
 have e1:gq e h.props=0:=by simpa using uK
 refine kP H (Kc K2 (SQ fun _ K6=>SR fun _ K7=>Rf Cq rfl (Rg Ah rfl (by assumption) ?_)));clear H K2;intro a H;refine kH H (Rl nY rfl (Rm rfl (Kz K7 (SB ?_))));clear H K7;intro a H;skip;refine eZ (ι:=Nat) (Tc:=[(3,_),(4,_),(5,_),(22,_),(23,_)]) (Lc:=[]) (fun gh=>[(24,vi gh)]) (fun gh=>[]) (fun gh=>Ga) (fun gh=>gh≤h.props.length∧cZ ((h.props.map fun p=>ni st (li.map fI.id) p.key p.value).drop gh)=wW (aT st li rv) h.props) (fun gh=>h.props.length - gh) (0) (by exact (H).sub ⟨rfl,rfl,rfl,rfl,rfl,rfl,aB⟩) ?_ ?_
 ·exact ⟨iK _,rfl⟩
 clear H;intro gh a w hI H;obtain ⟨k,hgh⟩:∃ x,x=gh:=⟨_,rfl⟩;subst hgh;obtain ⟨hk,heq⟩:=hI;dsimp only [lca,aZ] at H;refine kP H (SR fun _ K8=>Rc rfl (Kz K8 (SQ fun _ K9=>Cd rfl ?_ ?_))) <;> clear H K8
 ·intro kY a H
  try have p25:=dT kY
  have hk2:k < h.props.length:=by omega
  obtain ⟨xb,xo,rfl,hrow⟩:=JW hh.props hk2;refine kP H (Kc K9 (SQ fun _ aS=>SB (SR fun _ bA=>Ri nY mQ rfl rfl ?_)));clear H K9;intro a H;refine bD mQ (cs:=[_,_]) H wn rfl rfl (fun j v hj=>H.hp.aJ (hrow j v hj)) rfl ?_;clear H;intro a H;refine eU mQ H wn rfl ?_;clear H;intro b9 a w xW H;refine bF mQ 0 (vs:=[_,_]) _ H wn rfl rfl rfl rfl rfl rfl rfl rfl ?_;clear H;intro w H;dsimp only [List.set,setRow] at H;refine bA _ _ ?_;clear bA;refine kP H (SR fun _ bK=>Rg ER rfl (by assumption) ?_);clear H;intro a H;refine kH H (aR um aG 0 rfl rfl (aR Tp aG 0 rfl rfl ?_));clear H;intro a H;refine s_call Mw H wn rfl (LK _ _ H.ro st li rv b ms ml mr mb mu n h.props[k].key h.props[k].value hck hb) rfl ?_;clear H;rintro v33 _ a w ⟨rfl,rfl⟩ - H;refine kH H (ak bK rfl (SR fun _ bR=>Rm rfl (Rc rfl (Kz bR (Cd rfl ?_ ?_))))) <;> clear H bK bR
  ·intro mH a H
   try have p35:=dT mH
   refine bq (fun _ bP=>?_)
   have hr:wW (aT st li rv) h.props=ni st (li.map fI.id) h.props[k].key h.props[k].value:=by rw [← heq];exact (Wm (C:=aT st li rv) hk2).trans (au p35)
   have hE:=(aeD (C:=aT st li rv) (e:=e) (h:=h) e1 (by rw [hr];exact p35)).trans hr;exact kP H (SC (Rm rfl (aV bP rfl (LR results58 rfl fun H=>H.rt (by rw [hE])))))
  intro mH a H
  try have p35:=dF mH
  refine kP H (Kc aS (SC (Rd rfl (Rm rfl ?_))));clear H aS;intro a H;refine aH ?_;refine dw ((k+1)) (by exact (H.dU (Pl:=[_]) (cK:=[]) [] (by decide) rfl).sub ⟨rfl,rfl,rfl,rfl,rfl,rfl,aB⟩) ?_ ?_
  ·exact ⟨by omega,by rw [Wm (C:=aT st li rv) hk2,ah (by simpa using p35)] at heq;exact heq⟩
  first|omega|(dsimp only;omega)
 intro kY a H
 try have p25:=dF kY
 refine dW ?_;refine K6 _ _ ?_;clear K6;refine bq (fun _ dJ=>?_)
 have e2:wW (aT st li rv) h.props=0:=by rw [← heq,iC (by rw [bT];omega)];rfl
 refine kP H (SC (Rf sQ rfl ?_));clear H;intro a H;refine bD EU (cs:=[vi h.marks.ins,vi h.marks.move,.slice dA h.marks.bZ.length dc,.slice lA h.marks.layers.length lc]) H wn rfl rfl (fun j v hj=>H.hp.aJ (g51 j v hj)) rfl ?_;clear H;intro a H;refine eU EU H wn rfl ?_;clear H;intro b11 a w Jf H;refine bF EU 0 (vs:=[_,_,_,_]) _ H wn rfl rfl rfl rfl rfl rfl rfl rfl ?_;clear H;intro w H;dsimp only [List.set,setRow] at H;obtain ⟨Gb,hmb,Er,H⟩:=H.dP;replace hck:=hck.mono hmb;replace hb:=hmb _ _ hb;replace hh:=hh.mono hmb;replace g3:=aK hmb g3;replace g4:=aK hmb g4;replace hc2:=aK hmb hc2
 have q0:aJ Gb b11 0=some (vi h.marks.ins):=by unfold aJ;rw [Er];rfl
 have q1:aJ Gb b11 1=some (vi h.marks.move):=by unfold aJ;rw [Er];rfl
 have q2:aJ Gb b11 2=some (.slice dA h.marks.bZ.length dc):=by unfold aJ;rw [Er];rfl
 have q3:aJ Gb b11 3=some (.slice lA h.marks.layers.length lc):=by unfold aJ;rw [Er];rfl
 have hcb:=afV hck hb g3 g4 q3 hh.layers;refine aH ?_;refine dJ _ _ ?_;clear dJ;refine qd (ι:=GH) (Tc:=[(3,_),(4,_),(11,_)]) (Lc:=[]) (fun gh=>[]) (fun gh=>[]) (fun gh=>gh) (fun gh=>jv (aT st li rv) h.marks=0∧(∀ b o,Gb b=some o→gh b=some o)) (by exact (H).sub ⟨rfl,rfl,rfl,aB⟩) ?_ ?_
 ·skip;refine xK ?_;refine bq (fun _ dN=>?_)
  by_cases c0:h.marks.ins≠0
  ·skip
   by_cases c1:h.marks.ins∉rv.map eX.id
   ·skip;refine dI hmx [[],[0],[0,1],[0,1,2],(ra 0 4),(ra 0 5),(ra 0 6),(ra 0 7),(ra 0 4),[0,1,2,3,8],(ra 0 10),(ra 0 11),(ra 0 12),(ra 0 13)] [13] (by kernel_rfl) [_,_,_,_,_,(aI b 0),_,_,_,_,.bool (decide (h.marks.ins∈rv.map eX.id)),.bool (decide (h.marks.ins∉rv.map eX.id)),_] H (aD (Z0 rfl (Rf vo rfl)) (X1 0 41 rfl fun hG=>Rg aG rfl (aK hG q0)) (Z1 1 42 rfl (Rc rfl)) (Z1 2 43 rfl (Rm rfl)) (aD (X1 3 44 rfl fun hG=>YR ER (aC c0) rfl (aK hG g3)) ?_ (Z2 5 46 3 44 rfl (YF FQ (aC c0) rfl)) (X2 6 47 3 44 rfl fun hG=>YR yF (aC c0) rfl (aK hG hc2)) (aD (Z1 3 44 rfl (YF vo (aC c0) rfl)) (X2 8 49 3 44 rfl fun hG=>YR aG (aC c0) rfl (aK hG q0)) ?_ ?_ (aW (Z2 3 44 11 52 rfl (Pt (aC c0) rfl)) (aW (bL rfl) bY))))) ?_
    ·refine dz 4 45 3 44 rfl rfl fun _ a w G1 hG HT H fin=>?_;refine qR H (wg H rfl rfl (aC c0)) rfl rfl ?_;clear H;intro a H;exact fin H iJ rfl
    ·refine qF 7 48 9 50 3 44 rfl rfl fun _ a w G1 hG HT H fin=>?_;refine wX (zv:=.bool false) yI mU (by kernel_rfl) H (wg H rfl rfl (aC c0)) rfl rfl (H.ro _ _ (hG _ _ hck.rev)) rfl ?_;clear H;intro a H;rw [Di] at H;exact fin H iJ rfl
    ·refine dz 10 51 3 44 rfl rfl fun _ a w G1 hG HT H fin=>?_;refine kH H (YN (aC c0) rfl ?_);clear H;intro a H;exact fin H iJ (by show _=_;first|rfl|exact aF decide_not.symm)
    clear H;intro a w G pF H hv;have H:=H.aQ (hv 12 53 rfl rfl) rfl;clear hv;refine kH H (Ra rfl ?_);clear H;intro a H;refine aH ⟨rfl,?_⟩;refine dN _ _ ?_;clear dN;refine vX H rfl (aC c1) ?_;refine bq (fun _ dx=>?_);have e3:jv (aT st li rv) h.marks=22:=au ⟨c0,c1⟩;have hE:=(zM (C:=aT st li rv) (e:=e) (h:=h) e1 e2 (by rw [e3];decide)).trans e3;exact kP H (SC (aV dx rfl (LR results58 rfl fun H=>H.rt (by rw [hE]))))
   skip;refine dI hmx [[],[0],[0,1],[0,1,2],(ra 0 4),(ra 0 5),(ra 0 6),(ra 0 7),(ra 0 4),[0,1,2,3,8],(ra 0 10),(ra 0 11),(ra 0 12),(ra 0 13)] [13] (by kernel_rfl) [_,_,_,_,_,(aI b 0),_,_,_,_,.bool (decide (h.marks.ins∈rv.map eX.id)),.bool (decide (h.marks.ins∉rv.map eX.id)),_] H (aD (Z0 rfl (Rf vo rfl)) (X1 0 41 rfl fun hG=>Rg aG rfl (aK hG q0)) (Z1 1 42 rfl (Rc rfl)) (Z1 2 43 rfl (Rm rfl)) (aD (X1 3 44 rfl fun hG=>YR ER (aC c0) rfl (aK hG g3)) ?_ (Z2 5 46 3 44 rfl (YF FQ (aC c0) rfl)) (X2 6 47 3 44 rfl fun hG=>YR yF (aC c0) rfl (aK hG hc2)) (aD (Z1 3 44 rfl (YF vo (aC c0) rfl)) (X2 8 49 3 44 rfl fun hG=>YR aG (aC c0) rfl (aK hG q0)) ?_ ?_ (aW (Z2 3 44 11 52 rfl (Pt (aC c0) rfl)) (aW (bL rfl) bY))))) ?_
   ·refine dz 4 45 3 44 rfl rfl fun _ a w G1 hG HT H fin=>?_;refine qR H (wg H rfl rfl (aC c0)) rfl rfl ?_;clear H;intro a H;exact fin H iJ rfl
   ·refine qF 7 48 9 50 3 44 rfl rfl fun _ a w G1 hG HT H fin=>?_;refine wX (zv:=.bool false) yI mU (by kernel_rfl) H (wg H rfl rfl (aC c0)) rfl rfl (H.ro _ _ (hG _ _ hck.rev)) rfl ?_;clear H;intro a H;rw [Di] at H;exact fin H iJ rfl
   ·refine dz 10 51 3 44 rfl rfl fun _ a w G1 hG HT H fin=>?_;refine kH H (YN (aC c0) rfl ?_);clear H;intro a H;exact fin H iJ (by show _=_;first|rfl|exact aF decide_not.symm)
   clear H;intro a w G pF H hv;have H:=H.aQ (hv 12 53 rfl rfl) rfl;clear hv;refine kH H (Ra rfl ?_);clear H;intro a H;refine aH ⟨rfl,?_⟩;refine dN _ _ ?_;clear dN;refine kW H rfl (aO c1) ?_;refine bq (fun _ eu=>?_)
   have hno:¬ (h.marks.ins≠0∧h.marks.ins∉(aT st li rv).EL):=by first|exact fun h=>c1 h.2|exact fun h=>c0 h.1
   replace q0:=aK pF q0;replace q1:=aK pF q1;replace q2:=aK pF q2;refine kP H (SC (Rf AB rfl (Rg aG rfl (by assumption) ?_)));clear H;intro a H;refine s_call uj H wn rfl (uF _ _ H.ro h.marks.move 0 1073741824) rfl ?_;clear H;rintro v57 _ a w ⟨rfl,rfl⟩ - H;refine kH H (Rn rfl (Rm rfl (Sp 59 rfl ?_ ?_))) <;> clear H
   ·intro gX a H
    try have p59:=dT gX
    refine kH H (aP gX rfl (aP gX rfl (Ku rfl (Ku rfl (Ku rfl (Ks gX rfl (Pt gX rfl (aV eu rfl (Ct rfl rfl (SQ fun _ gy=>?_))))))))));clear H eu;intro a H
    have e3:jv (aT st li rv) h.marks=21:=by unfold jv;rw [ah hno,au (by first|(simp_all;done)|(simp_all;omega))]
    have hE:=(zM (C:=aT st li rv) (e:=e) (h:=h) e1 e2 (by rw [e3];decide)).trans e3;exact kP H (SC (aV gy rfl (LR results58 rfl fun H=>H.rt (by rw [hE]))))
   intro gX a H
   try have p59:=dF gX
   refine kH H (YF AB gX rfl (YR aG gX rfl (by assumption) ?_));clear H;intro a H;refine kH H (YC gX rfl (YM gX rfl (Sp 63 rfl ?_ ?_))) <;> clear H
   ·intro h63 a H
    try have p63:=dT h63
    refine kH H (YF vo h63 rfl (YR aG h63 rfl (by assumption) ?_));clear H;intro a H;refine kH H (YC h63 rfl (PT gX h63 rfl (Pf gX rfl (aV eu rfl (Cd rfl ?_ ?_))))) <;> clear H eu
    ·intro gU a H
     try have p54:=dT gU
     refine bq (fun _ fu=>?_)
     have e3:jv (aT st li rv) h.marks=21:=by unfold jv;rw [ah hno,au (by first|(simp_all;done)|(simp_all;omega))]
     have hE:=(zM (C:=aT st li rv) (e:=e) (h:=h) e1 e2 (by rw [e3];decide)).trans e3;exact kP H (SC (aV fu rfl (LR results58 rfl fun H=>H.rt (by rw [hE]))))
    intro gU a H
    try have p54:=dF gU
    refine bq (fun _ gD=>?_)
    have hn2:¬ (¬ (0≤h.marks.move∧h.marks.move≤1073741824)∨(h.marks.move≠0∧h.marks.ins=0)):=by first|(simp_all;done)|(simp_all;omega)
    refine kP H (SC (Rf vv rfl (Rg vO rfl (by assumption) ?_)));clear H;intro a H;refine kH H (Rl pR rfl (Rc rfl (aV gD rfl (Cd rfl ?_ ?_)))) <;> clear H gD
    ·intro iM a H
     refine bq (fun _ jc=>?_)
     have e3:jv (aT st li rv) h.marks=9:=by unfold jv;rw [ah hno,ah hn2,au (by simpa using iM)]
     have hE:=(zM (C:=aT st li rv) (e:=e) (h:=h) e1 e2 (by rw [e3];decide)).trans e3;exact kP H (SC (aV jc rfl (LR results58 rfl fun H=>H.rt (by rw [hE]))))
    intro iM a H
    have e3:jv (aT st li rv) h.marks=0:=by unfold jv;rw [ah hno,ah hn2,ah (by simpa using iM)]
    refine fO ?_;refine ⟨_,by exact (H).sub ⟨rfl,rfl,rfl,aB⟩,?_⟩;exact ⟨e3,pF⟩
   intro h63 a H
   try have p63:=dF h63
   refine kH H (aX h63 rfl (PF gX h63 rfl (Pf gX rfl (aV eu rfl (Cf rfl rfl (SQ fun _ kg=>?_))))));clear H eu;intro a H
   have hn2:¬ (¬ (0≤h.marks.move∧h.marks.move≤1073741824)∨(h.marks.move≠0∧h.marks.ins=0)):=by first|(simp_all;done)|(simp_all;omega)
   refine kP H (SC (Rf vv rfl (Rg vO rfl (by assumption) ?_)));clear H;intro a H;refine kH H (Rl pR rfl (Rc rfl (aV kg rfl (Cd rfl ?_ ?_)))) <;> clear H kg
   ·intro iM a H
    refine bq (fun _ jR=>?_)
    have e3:jv (aT st li rv) h.marks=9:=by unfold jv;rw [ah hno,ah hn2,au (by simpa using iM)]
    have hE:=(zM (C:=aT st li rv) (e:=e) (h:=h) e1 e2 (by rw [e3];decide)).trans e3;exact kP H (SC (aV jR rfl (LR results58 rfl fun H=>H.rt (by rw [hE]))))
   intro iM a H
   have e3:jv (aT st li rv) h.marks=0:=by unfold jv;rw [ah hno,ah hn2,ah (by simpa using iM)]
   refine fO ?_;refine ⟨_,by exact (H).sub ⟨rfl,rfl,rfl,aB⟩,?_⟩;exact ⟨e3,pF⟩
  skip;refine dI hmx [[],[0],[0,1],[0,1,2],(ra 0 4),(ra 0 5),(ra 0 6),(ra 0 7),(ra 0 4),[0,1,2,3,8],(ra 0 10),(ra 0 11),(ra 0 12),(ra 0 13)] [13] (by kernel_rfl) [_,_,_,_,undef,undef,undef,undef,undef,undef,undef,undef,_] H (aD (Z0 rfl (Rf vo rfl)) (X1 0 41 rfl fun hG=>Rg aG rfl (aK hG q0)) (Z1 1 42 rfl (Rc rfl)) (Z1 2 43 rfl (Rm rfl)) (aD (aL (j:=3) (by kernel_rfl) (fun _ _ _ _ _ h=>h) rfl rfl rfl rfl rfl (fun _ _ h=>aN h (aF (aO c0))) rfl (fun _=>rfl)) (aL (j:=3) (by kernel_rfl) (fun _ _ _ _ _ h=>h) rfl rfl rfl rfl rfl (fun _ _ h=>aN h (aF (aO c0))) rfl (fun _=>rfl)) (aL (j:=3) (by kernel_rfl) (fun _ _ _ _ _ h=>h) rfl rfl rfl rfl rfl (fun _ _ h=>aN h (aF (aO c0))) rfl (fun _=>rfl)) (aL (j:=3) (by kernel_rfl) (fun _ _ _ _ _ h=>h) rfl rfl rfl rfl rfl (fun _ _ h=>aN h (aF (aO c0))) rfl (fun _=>rfl)) (aD (aL (j:=3) (by kernel_rfl) (fun _ _ _ _ _ h=>h) rfl rfl rfl rfl rfl (fun _ _ h=>aN h (aF (aO c0))) rfl (fun _=>rfl)) (aL (j:=3) (by kernel_rfl) (fun _ _ _ _ _ h=>h) rfl rfl rfl rfl rfl (fun _ _ h=>aN h (aF (aO c0))) rfl (fun _=>rfl)) (aL (j:=3) (by kernel_rfl) (fun _ _ _ _ _ h=>h) rfl rfl rfl rfl rfl (fun _ _ h=>aN h (aF (aO c0))) rfl (fun _=>rfl)) (aL (j:=3) (by kernel_rfl) (fun _ _ _ _ _ h=>h) rfl rfl rfl rfl rfl (fun _ _ h=>aN h (aF (aO c0))) rfl (fun _=>rfl)) (aW (Z2 3 44 11 52 rfl (Pf (aO c0) rfl)) (aW (bL rfl) bY))))) ?_
  clear H;intro a w G pF H hv;have H:=H.aQ (hv 12 53 rfl rfl) rfl;clear hv;refine kH H (Ra rfl ?_);clear H;intro a H;refine aH ⟨rfl,?_⟩;refine dN _ _ ?_;clear dN;refine kW H rfl rfl ?_;refine bq (fun _ jy=>?_)
  have hno:¬ (h.marks.ins≠0∧h.marks.ins∉(aT st li rv).EL):=by first|exact fun h=>c1 h.2|exact fun h=>c0 h.1
  replace q0:=aK pF q0;replace q1:=aK pF q1;replace q2:=aK pF q2;refine kP H (SC (Rf AB rfl (Rg aG rfl (by assumption) ?_)));clear H;intro a H;refine s_call uj H wn rfl (uF _ _ H.ro h.marks.move 0 1073741824) rfl ?_;clear H;rintro v57 _ a w ⟨rfl,rfl⟩ - H;refine kH H (Rn rfl (Rm rfl (Sp 59 rfl ?_ ?_))) <;> clear H
  ·intro gX a H
   try have p59:=dT gX
   refine kH H (aP gX rfl (aP gX rfl (Ku rfl (Ku rfl (Ku rfl (Ks gX rfl (Pt gX rfl (aV jy rfl (Ct rfl rfl (SQ fun _ kE=>?_))))))))));clear H jy;intro a H
   have e3:jv (aT st li rv) h.marks=21:=by unfold jv;rw [ah hno,au (by first|(simp_all;done)|(simp_all;omega))]
   have hE:=(zM (C:=aT st li rv) (e:=e) (h:=h) e1 e2 (by rw [e3];decide)).trans e3;exact kP H (SC (aV kE rfl (LR results58 rfl fun H=>H.rt (by rw [hE]))))
  intro gX a H
  try have p59:=dF gX
  refine kH H (YF AB gX rfl (YR aG gX rfl (by assumption) ?_));clear H;intro a H;refine kH H (YC gX rfl (YM gX rfl (Sp 63 rfl ?_ ?_))) <;> clear H
  ·intro h63 a H
   try have p63:=dT h63
   refine kH H (YF vo h63 rfl (YR aG h63 rfl (by assumption) ?_));clear H;intro a H;refine kH H (YC h63 rfl (PT gX h63 rfl (Pf gX rfl (aV jy rfl (Cd rfl ?_ ?_))))) <;> clear H jy
   ·intro gU a H
    try have p54:=dT gU
    refine bq (fun _ kF=>?_)
    have e3:jv (aT st li rv) h.marks=21:=by unfold jv;rw [ah hno,au (by first|(simp_all;done)|(simp_all;omega))]
    have hE:=(zM (C:=aT st li rv) (e:=e) (h:=h) e1 e2 (by rw [e3];decide)).trans e3;exact kP H (SC (aV kF rfl (LR results58 rfl fun H=>H.rt (by rw [hE]))))
   intro gU a H
   try have p54:=dF gU
   refine bq (fun _ jd=>?_)
   have hn2:¬ (¬ (0≤h.marks.move∧h.marks.move≤1073741824)∨(h.marks.move≠0∧h.marks.ins=0)):=by first|(simp_all;done)|(simp_all;omega)
   refine kP H (SC (Rf vv rfl (Rg vO rfl (by assumption) ?_)));clear H;intro a H;refine kH H (Rl pR rfl (Rc rfl (aV jd rfl (Cd rfl ?_ ?_)))) <;> clear H jd
   ·intro iM a H
    refine bq (fun _ nL=>?_)
    have e3:jv (aT st li rv) h.marks=9:=by unfold jv;rw [ah hno,ah hn2,au (by simpa using iM)]
    have hE:=(zM (C:=aT st li rv) (e:=e) (h:=h) e1 e2 (by rw [e3];decide)).trans e3;exact kP H (SC (aV nL rfl (LR results58 rfl fun H=>H.rt (by rw [hE]))))
   intro iM a H
   have e3:jv (aT st li rv) h.marks=0:=by unfold jv;rw [ah hno,ah hn2,ah (by simpa using iM)]
   refine fO ?_;refine ⟨_,by exact (H).sub ⟨rfl,rfl,rfl,aB⟩,?_⟩;exact ⟨e3,pF⟩
  intro h63 a H
  try have p63:=dF h63
  refine kH H (aX h63 rfl (PF gX h63 rfl (Pf gX rfl (aV jy rfl (Cf rfl rfl (SQ fun _ og=>?_))))));clear H jy;intro a H
  have hn2:¬ (¬ (0≤h.marks.move∧h.marks.move≤1073741824)∨(h.marks.move≠0∧h.marks.ins=0)):=by first|(simp_all;done)|(simp_all;omega)
  refine kP H (SC (Rf vv rfl (Rg vO rfl (by assumption) ?_)));clear H;intro a H;refine kH H (Rl pR rfl (Rc rfl (aV og rfl (Cd rfl ?_ ?_)))) <;> clear H og
  ·intro iM a H
   refine bq (fun _ oP=>?_)
   have e3:jv (aT st li rv) h.marks=9:=by unfold jv;rw [ah hno,ah hn2,au (by simpa using iM)]
   have hE:=(zM (C:=aT st li rv) (e:=e) (h:=h) e1 e2 (by rw [e3];decide)).trans e3;exact kP H (SC (aV oP rfl (LR results58 rfl fun H=>H.rt (by rw [hE]))))
  intro iM a H
  have e3:jv (aT st li rv) h.marks=0:=by unfold jv;rw [ah hno,ah hn2,ah (by simpa using iM)]
  refine fO ?_;refine ⟨_,by exact (H).sub ⟨rfl,rfl,rfl,aB⟩,?_⟩;exact ⟨e3,pF⟩
 clear H;intro gh a w hI H;obtain ⟨g,hgh⟩:∃ x,x=gh:=⟨_,rfl⟩;subst hgh;obtain ⟨e3,uE⟩:=hI;replace hck:=hck.mono uE;replace hb:=uE _ _ hb;replace hh:=hh.mono uE;replace g3:=aK uE g3;replace q2:=aK uE q2;replace q3:=aK uE q3;replace hc2:=aK uE hc2;replace hcb:=hcb.mono uE;dsimp only [lca,aZ] at H;refine kP H (SQ fun _ pW=>SR fun _ oQ=>Rf vv rfl (Rg vO rfl (by assumption) ?_));clear H;intro a H;refine kH H (Rl pR rfl (Rm rfl (Kz oQ (SB ?_))));clear H oQ;intro a H;skip;refine eZ (ι:=Nat × GH) (Tc:=[(3,_),(4,_),(11,_),(75,_),(76,_)]) (Lc:=[]) (fun gh=>[(77,vi gh.1)]) (fun gh=>[]) (fun gh=>gh.2) (fun gh=>gh.1≤h.marks.bZ.length∧cZ (((List.range h.marks.bZ.length).map (wm (aT st li rv) h.marks.bZ)).drop gh.1)=jM (wm (aT st li rv) h.marks.bZ) h.marks.bZ.length∧(∀ b o,g b=some o→gh.2 b=some o)) (fun gh=>h.marks.bZ.length - gh.1) ((0,g)) (by exact (H).sub ⟨rfl,rfl,rfl,rfl,rfl,rfl,aB⟩) ?_ ?_
 ·exact ⟨iK _,rfl,fun _ _ h=>h⟩
 clear H;intro gh a w hI H;obtain ⟨k,g2⟩:=gh;dsimp only at hI H;obtain ⟨hk,heq,hgm⟩:=hI;dsimp only [lca,aZ] at H;refine kP H (SR fun _ rE=>Rc rfl (Kz rE (SQ fun _ tV=>Cd rfl ?_ ?_))) <;> clear H rE
 ·intro mq a H
  try have OV:=dT mq
  have hk2:k < h.marks.bZ.length:=by omega
  have hd2:=hh.bZ.mono hgm;obtain ⟨xb,xo,rfl,hrow⟩:=R7 hd2 hk2
  have hk1:k - 1 < h.marks.bZ.length:=by omega
  obtain ⟨b',o',he',hrow'⟩:=R7 hd2 hk1
  injection he' with he'
  injection he' with e1 e2
  subst e1;subst e2
  have hde:wm (aT st li rv) h.marks.bZ k=wo (aT st li rv) k h.marks.bZ[k] h.marks.bZ[k - 1].rev:=by unfold wm;rw [gP hk2,gP hk1];rfl
  have hX:∀ v,wo (aT st li rv) k h.marks.bZ[k] h.marks.bZ[k - 1].rev=v→v≠0→iw (aT st li rv) e h=v:=fun v h1 h2=>by
   have h4:jM (wm (aT st li rv) h.marks.bZ) h.marks.bZ.length=v:=by rw [← heq,Ch hk2,hde,h1,au h2]
   exact (aeE e1 e2 e3 (by rw [h4];exact h2)).trans h4
  have hp:=hrow' 0 _ rfl;have g3':=aK hgm g3;have hc2':=aK hgm hc2;have q2':=aK hgm q2;refine kP H (Kc tV (SQ fun _ qE=>SB (SR fun _ vT=>Rm rfl (Ri pR uN rfl rfl ?_))));clear H tV;intro a H;refine bD uN (cs:=h.marks.bZ[k].cells) H wn rfl rfl (fun j v hj=>H.hp.aJ (hrow j v hj)) rfl ?_;clear H;intro a H;refine eU uN H wn rfl ?_;clear H;intro b13 a w Ns H;refine kH H (Ra rfl ?_);clear H;intro a H;refine bF uN 0 (vs:=[_,_]) _ H wn rfl rfl rfl rfl rfl rfl rfl rfl ?_;clear H;intro w H;dsimp only [List.set,setRow] at H;refine vT _ _ ?_;clear vT;refine xK ?_;refine bq (fun _ BU=>?_);refine dI hmx [[],[0],[0,1],[0,1,2],[],[4],(ra 0 6),(ra 0 7),(ra 0 8)] [8] (by kernel_rfl) [_,_,_,_,_,vi h.marks.bZ[k].rev,.bool (decide (h.marks.bZ[k].rev∈rv.map eX.id)),_] H (aD (X0 rfl fun hG=>Rg ER rfl (aK hG g3')) (Z1 0 83 rfl (Rk rfl)) (Z1 1 84 rfl (Rf FQ rfl)) (X1 2 85 rfl fun hG=>Rg yF rfl (aK hG hc2')) (aD (Z0 rfl (Rf FR rfl)) (Z1 4 87 rfl (Ro aG 0 rfl)) ?_ (Z1 6 89 rfl (Rn rfl)) (aW (bL rfl) bY))) ?_
  ·refine dz 3 86 5 88 rfl rfl fun _ a w G1 hG HT H fin=>?_;refine wX (zv:=.bool false) yI mU (by kernel_rfl) H wn rfl rfl (H.ro _ _ (hG _ _ (hgm _ _ hck.rev))) rfl ?_;clear H;intro a H;rw [Di] at H;exact fin H iJ rfl
  clear H;intro a w G El H hv;have H:=H.aQ (hv 7 90 rfl rfl) rfl;clear hv;refine kH H (Ra rfl ?_);clear H;intro a H;refine aH ⟨rfl,?_⟩;refine BU _ _ ?_;clear BU;refine kV H rfl ?_ ?_
  ·intro sW
   refine bq (fun _ BX=>?_);have hE:=hX 22 (by unfold wo;rw [au (by simpa using sW)]) (by decide);exact kP H (SC (aV BX rfl (LR results58 rfl fun H=>H.rt (by rw [hE]))))
  intro sW
  try have V5:=dF sW
  have Gn:¬ (h.marks.bZ[k].rev∉(aT st li rv).EL):=by simpa using sW
  refine bq (fun _ oh=>?_);replace hp:=aK El hp;replace q2':=aK El q2'
  by_cases c3:0 < (k:Int)
  ·skip
   by_cases c4:h.marks.bZ[k].rev≤h.marks.bZ[k - 1].rev
   ·skip;refine dI hmx [[],[0],[0,1],[0,1,2],(ra 0 4),[0,1,2],[0,1,2,5],[0,1,2],[0,1,2,7],[0,1,2,5,6,7,8],[0,1,2,5,6,7,8,9],([0,1,2]++ra 5 6),(ra 0 12),(ra 0 13),(ra 0 14)] [14] (by kernel_rfl) [_,_,_,_,vi h.marks.bZ[k].rev,_,_,_,vi ((k - 1:Nat):Int),_,_,_,_,_] H (aD (Z0 rfl (Rm rfl)) (Z1 0 92 rfl (Rc rfl)) (Z1 1 93 rfl (Rm rfl)) (Z1 2 94 rfl (YF FR (aC c3) rfl)) (aD (Z2 3 95 2 94 rfl (YO aG 0 (aC c3) rfl)) (Z1 2 94 rfl (YF vv (aC c3) rfl)) (X2 5 97 2 94 rfl fun hG=>YR vO (aC c3) rfl (aK hG q2')) (Z1 2 94 rfl (YM (aC c3) rfl)) (aD ?_ (Z3 6 98 8 100 2 94 rfl (YI pR uN (aC c3) rfl rfl)) (Z2 9 101 2 94 rfl (YF FR (aC c3) rfl)) (X2 10 102 2 94 rfl fun hG=>YR aG (aC c3) rfl (aK hG hp)) (aW (Z3 4 96 11 103 2 94 rfl (YC (aC c3) rfl)) (aW (Z2 2 94 12 104 rfl (Pt (aC c3) rfl)) (aW (bL rfl) bY)))))) ?_
    ·refine dz 7 99 2 94 rfl rfl fun _ a w G1 hG HT H fin=>?_;refine mF _ H (wg H rfl rfl (aC c3)) rfl rfl rfl (by omega) (by omega) rfl ?_;clear H;intro a H;exact fin H iJ (by show _=_;first|rfl|exact aA vi (by omega))
    clear H;intro a w G Jc H hv;have H:=H.aQ (hv 13 105 rfl rfl) rfl;clear hv;refine kH H (Ra rfl ?_);clear H;intro a H;refine aH ⟨rfl,?_⟩;refine oh _ _ ?_;clear oh;refine vX H rfl (aC c4) ?_;refine bq (fun _ DR=>?_);have hz:0 < k∧h.marks.bZ[k].rev≤h.marks.bZ[k - 1].rev:=⟨by omega,c4⟩;have hE:=hX 6 (by unfold wo;rw [ah Gn,au hz]) (by decide);exact kP H (SC (aV DR rfl (LR results58 rfl fun H=>H.rt (by rw [hE]))))
   skip;refine dI hmx [[],[0],[0,1],[0,1,2],(ra 0 4),[0,1,2],[0,1,2,5],[0,1,2],[0,1,2,7],[0,1,2,5,6,7,8],[0,1,2,5,6,7,8,9],([0,1,2]++ra 5 6),(ra 0 12),(ra 0 13),(ra 0 14)] [14] (by kernel_rfl) [_,_,_,_,vi h.marks.bZ[k].rev,_,_,_,vi ((k - 1:Nat):Int),_,_,_,_,_] H (aD (Z0 rfl (Rm rfl)) (Z1 0 92 rfl (Rc rfl)) (Z1 1 93 rfl (Rm rfl)) (Z1 2 94 rfl (YF FR (aC c3) rfl)) (aD (Z2 3 95 2 94 rfl (YO aG 0 (aC c3) rfl)) (Z1 2 94 rfl (YF vv (aC c3) rfl)) (X2 5 97 2 94 rfl fun hG=>YR vO (aC c3) rfl (aK hG q2')) (Z1 2 94 rfl (YM (aC c3) rfl)) (aD ?_ (Z3 6 98 8 100 2 94 rfl (YI pR uN (aC c3) rfl rfl)) (Z2 9 101 2 94 rfl (YF FR (aC c3) rfl)) (X2 10 102 2 94 rfl fun hG=>YR aG (aC c3) rfl (aK hG hp)) (aW (Z3 4 96 11 103 2 94 rfl (YC (aC c3) rfl)) (aW (Z2 2 94 12 104 rfl (Pt (aC c3) rfl)) (aW (bL rfl) bY)))))) ?_
   ·refine dz 7 99 2 94 rfl rfl fun _ a w G1 hG HT H fin=>?_;refine mF _ H (wg H rfl rfl (aC c3)) rfl rfl rfl (by omega) (by omega) rfl ?_;clear H;intro a H;exact fin H iJ (by show _=_;first|rfl|exact aA vi (by omega))
   clear H;intro a w G Jc H hv;have H:=H.aQ (hv 13 105 rfl rfl) rfl;clear hv;refine kH H (Ra rfl ?_);clear H;intro a H;refine aH ⟨rfl,?_⟩;refine oh _ _ ?_;clear oh;refine kW H rfl (aO c4) ?_;refine bq (fun _ Fa=>?_)
   have hz:¬ (0 < k∧h.marks.bZ[k].rev≤h.marks.bZ[k - 1].rev):=by first|exact fun h=>c4 h.2|exact fun h=>c3 (by omega)
   refine kP H (SC (aR Tq aG 0 rfl rfl ?_));clear H;intro a H;refine s_call uj H wn rfl (uF _ _ H.ro h.marks.bZ[k].move 0 1073741824) rfl ?_;clear H;rintro v109 _ a w ⟨rfl,rfl⟩ - H;refine kH H (Rn rfl (aV Fa rfl (Cd rfl ?_ ?_))) <;> clear H Fa
   ·intro wz a H
    try have OQ:=dT wz
    refine bq (fun _ Ik=>?_);have hE:=hX 21 (by unfold wo;rw [ah Gn,ah hz,au (by have h0:=wz;simp at h0;omega)]) (by decide);exact kP H (SC (aV Ik rfl (LR results58 rfl fun H=>H.rt (by rw [hE]))))
   intro wz a H
   try have OQ:=dF wz
   have ND:wo (aT st li rv) k h.marks.bZ[k] h.marks.bZ[k - 1].rev=0:=by unfold wo;rw [ah Gn,ah hz,ah (by have h0:=wz;simp at h0;omega)]
   have M6:=fun b o h=>Jc b o (El b o (hgm b o h));refine kP H (Kc qE (SC (Rd rfl (Rm rfl ?_))));clear H qE;intro a H;refine aH ?_;refine dw ((k+1,G)) (by exact (H.dU (Pl:=[_]) (cK:=[]) [] (by decide) rfl).sub ⟨rfl,rfl,rfl,rfl,rfl,rfl,aB⟩) ?_ ?_
   ·(try dsimp only);exact ⟨by omega,by rw [Ch hk2,ah (by rw [hde];simpa using ND)] at heq;exact heq,M6⟩
   first|omega|(dsimp only;omega)
  skip;refine dI hmx [[],[0],[0,1],[0,1,2],(ra 0 4),[0,1,2],[0,1,2,5],[0,1,2],[0,1,2,7],[0,1,2,5,6,7,8],[0,1,2,5,6,7,8,9],([0,1,2]++ra 5 6),(ra 0 12),(ra 0 13),(ra 0 14)] [14] (by kernel_rfl) [_,_,_,undef,undef,undef,undef,undef,undef,undef,undef,undef,undef,_] H (aD (Z0 rfl (Rm rfl)) (Z1 0 92 rfl (Rc rfl)) (Z1 1 93 rfl (Rm rfl)) (aL (j:=2) (by kernel_rfl) (fun _ _ _ _ _ h=>h) rfl rfl rfl rfl rfl (fun _ _ h=>aN h (aF (aO c3))) rfl (fun _=>rfl)) (aD (aL (j:=2) (by kernel_rfl) (fun _ _ _ _ _ h=>h) rfl rfl rfl rfl rfl (fun _ _ h=>aN h (aF (aO c3))) rfl (fun _=>rfl)) (aL (j:=2) (by kernel_rfl) (fun _ _ _ _ _ h=>h) rfl rfl rfl rfl rfl (fun _ _ h=>aN h (aF (aO c3))) rfl (fun _=>rfl)) (aL (j:=2) (by kernel_rfl) (fun _ _ _ _ _ h=>h) rfl rfl rfl rfl rfl (fun _ _ h=>aN h (aF (aO c3))) rfl (fun _=>rfl)) (aL (j:=2) (by kernel_rfl) (fun _ _ _ _ _ h=>h) rfl rfl rfl rfl rfl (fun _ _ h=>aN h (aF (aO c3))) rfl (fun _=>rfl)) (aD (aL (j:=2) (by kernel_rfl) (fun _ _ _ _ _ h=>h) rfl rfl rfl rfl rfl (fun _ _ h=>aN h (aF (aO c3))) rfl (fun _=>rfl)) (aL (j:=2) (by kernel_rfl) (fun _ _ _ _ _ h=>h) rfl rfl rfl rfl rfl (fun _ _ h=>aN h (aF (aO c3))) rfl (fun _=>rfl)) (aL (j:=2) (by kernel_rfl) (fun _ _ _ _ _ h=>h) rfl rfl rfl rfl rfl (fun _ _ h=>aN h (aF (aO c3))) rfl (fun _=>rfl)) (aL (j:=2) (by kernel_rfl) (fun _ _ _ _ _ h=>h) rfl rfl rfl rfl rfl (fun _ _ h=>aN h (aF (aO c3))) rfl (fun _=>rfl)) (aW (aL (j:=2) (by kernel_rfl) (fun _ _ _ _ _ h=>h) rfl rfl rfl rfl rfl (fun _ _ h=>aN h (aF (aO c3))) rfl (fun _=>rfl)) (aW (Z2 2 94 12 104 rfl (Pf (aO c3) rfl)) (aW (bL rfl) bY)))))) ?_
  clear H;intro a w G Jc H hv;have H:=H.aQ (hv 13 105 rfl rfl) rfl;clear hv;refine kH H (Ra rfl ?_);clear H;intro a H;refine aH ⟨rfl,?_⟩;refine oh _ _ ?_;clear oh;refine kW H rfl rfl ?_;refine bq (fun _ Fb=>?_)
  have hz:¬ (0 < k∧h.marks.bZ[k].rev≤h.marks.bZ[k - 1].rev):=by first|exact fun h=>c4 h.2|exact fun h=>c3 (by omega)
  refine kP H (SC (aR Tq aG 0 rfl rfl ?_));clear H;intro a H;refine s_call uj H wn rfl (uF _ _ H.ro h.marks.bZ[k].move 0 1073741824) rfl ?_;clear H;rintro v109 _ a w ⟨rfl,rfl⟩ - H;refine kH H (Rn rfl (aV Fb rfl (Cd rfl ?_ ?_))) <;> clear H Fb
  ·intro wz a H
   try have OQ:=dT wz
   refine bq (fun _ Il=>?_);have hE:=hX 21 (by unfold wo;rw [ah Gn,ah hz,au (by have h0:=wz;simp at h0;omega)]) (by decide);exact kP H (SC (aV Il rfl (LR results58 rfl fun H=>H.rt (by rw [hE]))))
  intro wz a H
  try have OQ:=dF wz
  have ND:wo (aT st li rv) k h.marks.bZ[k] h.marks.bZ[k - 1].rev=0:=by unfold wo;rw [ah Gn,ah hz,ah (by have h0:=wz;simp at h0;omega)]
  have M6:=fun b o h=>Jc b o (El b o (hgm b o h));refine kP H (Kc qE (SC (Rd rfl (Rm rfl ?_))));clear H qE;intro a H;refine aH ?_;refine dw ((k+1,G)) (by exact (H.dU (Pl:=[_]) (cK:=[]) [] (by decide) rfl).sub ⟨rfl,rfl,rfl,rfl,rfl,rfl,aB⟩) ?_ ?_
  ·(try dsimp only);exact ⟨by omega,by rw [Ch hk2,ah (by rw [hde];simpa using ND)] at heq;exact heq,M6⟩
  first|omega|(dsimp only;omega)
 intro mq a H
 try have OV:=dF mq
 refine dW ?_;refine pW _ _ ?_;clear pW;refine bq (fun _ Fe=>?_);refine bq (fun _ Fg=>?_)
 have e4:jM (wm (aT st li rv) h.marks.bZ) h.marks.bZ.length=0:=by rw [← heq,iC (by simp;omega)];rfl
 replace q3:=aK hgm q3;refine kP H (SC (Rf Co rfl (Rg Dx rfl (by assumption) ?_)));clear H;intro a H;refine kH H (Rl tN rfl (Rc rfl (Kn Fg (Cd rfl ?_ ?_)))) <;> clear H Fg
 ·intro MP a H
  try have OT:=dT MP
  refine bq (fun _ Im=>?_);have hE:=aeF (C:=aT st li rv) (e:=e) (h:=h) e1 e2 e3 e4 OT;exact kP H (SC (aV Im rfl (LR results58 rfl fun H=>H.rt (by rw [hE]))))
 intro MP a H
 try have OT:=dF MP
 refine fO ?_;refine Fe _ _ ?_;clear Fe;refine bq (fun _ Io=>?_);have hE:=aeG (C:=aT st li rv) (e:=e) (h:=h) e1 e2 e3 e4 OT;refine kP H (SC (Rf Co rfl (Rg Dx rfl (by assumption) ?_)));clear H;intro a H;refine kH H (Rl tN rfl ?_);clear H;intro a H;refine pO H wn rfl rfl ?_;clear H;intro a H;refine s_call Ec H wn rfl (Fx _ _ H.ro h.marks.layers.length (Df (aT st li rv) e h.marks.layers) _ (by omega) (hcb.mono hgm)) rfl ?_;clear H;rintro akt ajo a w rfl ajw H;exact kH H (aV Io rfl (LR results58 rfl fun H=>H.rt (by rw [hE])))
end
section
open Go.RowKit
theorem Cv:bV prog 63 1 1:=⟨by kernel_rfl⟩
def codeOk (x:ay):Bool:=if x.kind=4 then decide (1≤x.code∧x.code≤3) else if x.kind=6 then decide (1≤x.code∧x.code≤2) else if x.kind=8 then decide (1≤x.code∧x.code≤4) else true
def yC (x:ay):Bool:=decide (x.kind=8∧x.code=1)
def yJ (x:ay):Bool:=decide (x.kind=1∨x.kind=5) || yC x
def yu (x:ay):Bool:=decide (x.kind=6∨x.kind=7∨x.kind=8)
def xL (x:ay):Bool:=decide (x.kind=4∨x.kind=6∨x.kind=8)
def rP (s:ByteArray):Bool:=s.toList == (⟨#[]⟩:ByteArray).toList
def vF (x:ay):Bool:=!xL x && decide (x.code≠0) || !yu x && decide (x.id≠0) || !yJ x && !rP x.text || decide (x.kind≠6) && decide (0 < (x.flow.length:Int)) || decide (x.kind≠7) && decide (0 < (x.rows.length:Int))
def jW (x:ay):Int :=
 if (!decide (1≤x.kind∧x.kind≤8) || !codeOk x)=true then 3 else if vF x=true then 15 else if oN x.text=false then 12 else if (decide (x.kind=1∨x.kind=5) && rP x.text)=true then 11
 else if (decide (x.kind=5) && decide (1024 < (x.text.size:Int)))=true then 10 else if (yC x && !oC x.text)=true then 13 else 0
theorem adG (G:GH) (w0:World) (hG:Hold G w0) (x:ay) (p d l:aj) (fA rA:Option Addr) (fc rc:Nat) (hs:x.text.size < 4611686018427387904) :
  Calls prog 127 #[.agg #[vi x.kind,vi x.code,vi x.id,.string x.text,p,vi x.head.marks.ins,vi x.head.marks.move,d,l,.slice fA x.flow.length fc,.slice rA x.rows.length rc]] w0 (bC w0 G fun u G'=>u=vi (jW x)∧G=G'):=by
 refine eN [(0,_)] func127 rfl ntmps127 rfl rfl hG ?_;intro a H;refine cO (fun _ K1=>?_);refine fC (cs:=[_,_,_,_,_,_,_,_,_,_,_]) H wn rfl rfl rfl ?_;clear H;intro b1 a w hb1 H;refine kH H (ak K1 rfl ?_);clear H K1;intro a H;refine qd (ι:=Bool) (Tc:=[(1,_)]) (Lc:=[(_,_)]) (fun gh=>[(3,.bool gh)]) (fun gh=>[]) (fun gh=>G) (fun gh=>gh=yC x) (by exact (H).sub ⟨rfl,aB⟩) ?_ ?_
 ·skip;refine kP H (SC (aR jh aG 0 rfl rfl (Rc rfl (Rm rfl (Sp 11 rfl ?_ ?_))))) <;> clear H
  ·intro h11 a H
   try have mZ:=dT h11
   refine kH H (YF Cv h11 rfl (YO aG 0 h11 rfl (YC h11 rfl (Pt h11 rfl (Ra rfl ?_)))));clear H;intro a H;refine aH ?_;refine ⟨_,by exact (H).sub ⟨rfl,rfl,aB⟩,?_⟩
   unfold yC;first|(simp_all;done)
  intro h11 a H
  try have mZ:=dF h11
  refine kH H (aX h11 rfl (Pf h11 rfl (Ra rfl ?_)));clear H;intro a H;refine aH ?_;refine ⟨_,by exact (H).sub ⟨rfl,rfl,aB⟩,?_⟩
  unfold yC;first|(simp_all;done)
 clear H;intro gh a w hI H;obtain ⟨st,hgh⟩:∃ x,x=gh:=⟨_,rfl⟩;subst hgh;have hst:=hI;dsimp only [lca,aZ] at H;refine qd (ι:=Bool) (Tc:=[(1,_),(3,_)]) (Lc:=[(_,_)]) (fun gh=>[(4,.bool gh)]) (fun gh=>[]) (fun gh=>G) (fun gh=>gh=yJ x) (by exact (H).sub ⟨rfl,rfl,aB⟩) ?_ ?_
 ·skip;refine kP H (SC (aR jh aG 0 rfl rfl (Rc rfl (Rm rfl (Sp 19 rfl ?_ ?_))))) <;> clear H
  ·intro h19 a H
   try have uK:=dT h19
   refine kH H (aX h19 rfl (Pt h19 rfl (Rm rfl (Ks rfl rfl (Pt rfl rfl (Ra rfl ?_))))));clear H;intro a H;refine aH ?_;refine ⟨_,by exact (H).sub ⟨rfl,rfl,rfl,aB⟩,?_⟩
   unfold yJ;first|(simp_all;done)
  intro h19 a H
  try have uK:=dF h19
  refine kH H (YF jh h19 rfl (YO aG 0 h19 rfl (YC h19 rfl (Pf h19 rfl (Rm rfl (Sp 24 rfl ?_ ?_)))))) <;> clear H
  ·intro dQ a H
   try have jO:=dT dQ
   refine kH H (Ks dQ rfl (Pt dQ rfl (Ra rfl ?_)));clear H;intro a H;refine aH ?_;refine ⟨_,by exact (H).sub ⟨rfl,rfl,rfl,aB⟩,?_⟩
   unfold yJ;first|(simp_all;done)
  intro dQ a H
  try have jO:=dF dQ
  refine kH H (YM dQ rfl (Pf dQ rfl (Ra rfl ?_)));clear H;intro a H;refine aH ?_;refine ⟨_,by exact (H).sub ⟨rfl,rfl,rfl,aB⟩,?_⟩
  unfold yJ;first|(simp_all;done)
 clear H;intro gh a w hI H;obtain ⟨wd,hgh⟩:∃ x,x=gh:=⟨_,rfl⟩;subst hgh;have hwd:=hI;dsimp only [lca,aZ] at H;refine qd (ι:=Bool) (Tc:=[(1,_),(3,_),(4,_)]) (Lc:=[(_,_)]) (fun gh=>[(5,.bool gh)]) (fun gh=>[]) (fun gh=>G) (fun gh=>gh=yu x) (by exact (H).sub ⟨rfl,rfl,rfl,aB⟩) ?_ ?_
 ·skip;refine kP H (SC (aR jh aG 0 rfl rfl (Rc rfl (Rm rfl (Sp 30 rfl ?_ ?_))))) <;> clear H
  ·intro qh a H
   try have p30:=dT qh
   refine kH H (aX qh rfl (Pt qh rfl (Rm rfl (aX rfl rfl (Pt rfl rfl (Ra rfl ?_))))));clear H;intro a H;refine aH ?_;refine ⟨_,by exact (H).sub ⟨rfl,rfl,rfl,rfl,aB⟩,?_⟩
   unfold yu;first|(simp_all;done)
  intro qh a H
  try have p30:=dF qh
  refine kH H (YF jh qh rfl (YO aG 0 qh rfl (YC qh rfl (Pf qh rfl (Rm rfl (Sp 35 rfl ?_ ?_)))))) <;> clear H
  ·intro mH a H
   try have p35:=dT mH
   refine kH H (aX mH rfl (Pt mH rfl (Ra rfl ?_)));clear H;intro a H;refine aH ?_;refine ⟨_,by exact (H).sub ⟨rfl,rfl,rfl,rfl,aB⟩,?_⟩
   unfold yu;first|(simp_all;done)
  intro mH a H
  try have p35:=dF mH
  refine kH H (YF jh mH rfl (YO aG 0 mH rfl (YC mH rfl (Pf mH rfl (Ra rfl ?_)))));clear H;intro a H;refine aH ?_;refine ⟨_,by exact (H).sub ⟨rfl,rfl,rfl,rfl,aB⟩,?_⟩
  unfold yu;first|(simp_all;done)
 clear H;intro gh a w hI H;obtain ⟨nm,hgh⟩:∃ x,x=gh:=⟨_,rfl⟩;subst hgh;have hnm:=hI;dsimp only [lca,aZ] at H;refine kP H (SR fun _ K2=>ak K2 rfl ?_);clear H K2;intro a H;refine qd (ι:=Bool) (Tc:=[(1,_),(3,_),(4,_),(5,_)]) (Lc:=[(_,_)]) (fun gh=>[(6,.bool gh)]) (fun gh=>[]) (fun gh=>G) (fun gh=>gh=codeOk x) (by exact (H).sub ⟨rfl,rfl,rfl,rfl,aB⟩) ?_ ?_
 ·skip;refine kP H (SR fun _ K3=>aR jh aG 0 rfl rfl (Kz K3 (SB (SR fun _ K4=>Rc rfl (ak K4 rfl (Cd rfl ?_ ?_)))))) <;> clear H K3 K4
  ·intro Cy a H
   try have p42:=dT Cy
   refine kP H (SC (aR Cv aG 0 rfl rfl ?_));clear H;intro a H;refine s_call uj H wn rfl (uF _ _ H.ro x.code 1 3) rfl ?_;clear H;rintro v46 _ a w ⟨rfl,rfl⟩ - H;refine kH H (Ra rfl ?_);clear H;intro a H;refine aH ?_;refine ⟨_,by exact (H).sub ⟨rfl,rfl,rfl,rfl,rfl,aB⟩,?_⟩
   unfold codeOk;first|(simp_all;done)
  intro Cy a H
  try have p42:=dF Cy
  refine kP H (SR fun _ K5=>Rc rfl (ak K5 rfl (Cd rfl ?_ ?_))) <;> clear H K5
  ·intro h47 a H
   try have p47:=dT h47
   refine kP H (SC (aR Cv aG 0 rfl rfl ?_));clear H;intro a H;refine s_call uj H wn rfl (uF _ _ H.ro x.code 1 2) rfl ?_;clear H;rintro v51 _ a w ⟨rfl,rfl⟩ - H;refine kH H (Ra rfl ?_);clear H;intro a H;refine aH ?_;refine ⟨_,by exact (H).sub ⟨rfl,rfl,rfl,rfl,rfl,aB⟩,?_⟩
   unfold codeOk;first|(simp_all;done)
  intro h47 a H
  try have p47:=dF h47
  refine kP H (SR fun _ K6=>Rc rfl (ak K6 rfl (Cd rfl ?_ ?_))) <;> clear H K6
  ·intro mI a H
   try have p52:=dT mI
   refine kP H (SC (aR Cv aG 0 rfl rfl ?_));clear H;intro a H;refine s_call uj H wn rfl (uF _ _ H.ro x.code 1 4) rfl ?_;clear H;rintro v56 _ a w ⟨rfl,rfl⟩ - H;refine kH H (Ra rfl ?_);clear H;intro a H;refine aH ?_;refine ⟨_,by exact (H).sub ⟨rfl,rfl,rfl,rfl,rfl,aB⟩,?_⟩
   unfold codeOk;first|(simp_all;done)
  intro mI a H
  try have p52:=dF mI
  refine fO ?_;refine ⟨_,by exact (H).sub ⟨rfl,rfl,rfl,rfl,rfl,aB⟩,?_⟩
  unfold codeOk;first|(simp_all;done)
 clear H;intro gh a w hI H;obtain ⟨ck,hgh⟩:∃ x,x=gh:=⟨_,rfl⟩;subst hgh;have hck:=hI;dsimp only [lca,aZ] at H;refine qd (ι:=Bool) (Tc:=[(1,_),(3,_),(4,_),(5,_),(6,_)]) (Lc:=[(_,_)]) (fun gh=>[(7,.bool gh)]) (fun gh=>[]) (fun gh=>G) (fun gh=>gh=xL x) (by exact (H).sub ⟨rfl,rfl,rfl,rfl,rfl,aB⟩) ?_ ?_
 ·skip;refine kP H (SC (aR jh aG 0 rfl rfl (Rc rfl (Rm rfl (Sp 60 rfl ?_ ?_))))) <;> clear H
  ·intro iU a H
   try have p60:=dT iU
   refine kH H (aX iU rfl (Pt iU rfl (Rm rfl (aX rfl rfl (Pt rfl rfl (Ra rfl ?_))))));clear H;intro a H;refine aH ?_;refine ⟨_,by exact (H).sub ⟨rfl,rfl,rfl,rfl,rfl,rfl,aB⟩,?_⟩
   unfold xL;first|(simp_all;done)
  intro iU a H
  try have p60:=dF iU
  refine kH H (YF jh iU rfl (YO aG 0 iU rfl (YC iU rfl (Pf iU rfl (Rm rfl (Sp 65 rfl ?_ ?_)))))) <;> clear H
  ·intro qj a H
   try have p65:=dT qj
   refine kH H (aX qj rfl (Pt qj rfl (Ra rfl ?_)));clear H;intro a H;refine aH ?_;refine ⟨_,by exact (H).sub ⟨rfl,rfl,rfl,rfl,rfl,rfl,aB⟩,?_⟩
   unfold xL;first|(simp_all;done)
  intro qj a H
  try have p65:=dF qj
  refine kH H (YF jh qj rfl (YO aG 0 qj rfl (YC qj rfl (Pf qj rfl (Ra rfl ?_)))));clear H;intro a H;refine aH ?_;refine ⟨_,by exact (H).sub ⟨rfl,rfl,rfl,rfl,rfl,rfl,aB⟩,?_⟩
  unfold xL;first|(simp_all;done)
 clear H;intro gh a w hI H;obtain ⟨cd,hgh⟩:∃ x,x=gh:=⟨_,rfl⟩;subst hgh;have hcd:=hI;dsimp only [lca,aZ] at H;refine kP H (SQ fun _ K7=>SB (SR fun _ K8=>?_));clear H;intro a H;refine Ao (ι:=Bool) (Tc:=[(1,_),(3,_),(4,_),(5,_),(7,_)]) 8 (fun (q0:Bool)=>[(78,.bool q0)]) (fun (q0:Bool)=>q0=(!decide (1≤x.kind∧x.kind≤8) || !codeOk x)) (by exact H.sub ⟨rfl,rfl,rfl,rfl,rfl,aB⟩) ?_ ?_
 ·intro Ua;refine kH H (aR jh aG 0 rfl rfl ?_);clear H;intro a H;refine s_call uj H wn rfl (uF _ _ H.ro x.kind 1 8) rfl ?_;clear H;rintro v73 _ a w ⟨rfl,rfl⟩ - H;refine kH H (Rn rfl (Rm rfl (Sp 75 rfl ?_ ?_))) <;> clear H
  ·intro AX a H
   try have p75:=dT AX
   refine kH H (aP AX rfl (Pt AX rfl ?_));clear H;intro a H;refine Ua (_) _ _ ?_ (by exact H.sub ⟨rfl,rfl,rfl,rfl,rfl,rfl,aB⟩);rw [← hck];clear hst hwd hnm hck hcd;(try clear hq1);(try clear hq2);(try clear hq3);(try clear hq0);(try clear hq4);(try clear lK);(try clear lM);(try clear lN);simp_all
  intro AX a H
  try have p75:=dF AX
  refine kH H (YM AX rfl (YN AX rfl (Pf AX rfl ?_)));clear H;intro a H;refine Ua (_) _ _ ?_ (by exact H.sub ⟨rfl,rfl,rfl,rfl,rfl,rfl,aB⟩);rw [← hck];clear hst hwd hnm hck hcd;(try clear hq1);(try clear hq2);(try clear hq3);(try clear hq0);(try clear hq4);(try clear lK);(try clear lM);(try clear lN);simp_all
 clear H;intro q0 a w hI H;dsimp only [lca,aZ] at H;simp only [yZ,tZ];have hq0:=hI;refine kH H (ak K8 rfl (Cd rfl ?_ ?_)) <;> clear H K8
 ·intro uy a H
  refine bq (fun _ K9=>?_)
  have e:jW x=3:=by unfold jW;rw [au (by rw [← hq0];exact uy)]
  exact kP H (SC (aV K9 rfl (LR results127 rfl fun H=>H.rt ⟨by rw [e],rfl⟩)))
 intro uy a H
 try have p70:=dF uy
 have f0:¬ (!decide (1≤x.kind∧x.kind≤8) || !codeOk x)=true:=by rw [← hq0,uy];decide
 refine cO (fun _ aS=>?_);refine Ao (ι:=Bool) (Tc:=[(1,_),(3,_),(4,_),(5,_)]) 7 (fun (q1:Bool)=>[(86,.bool q1)]) (fun (q1:Bool)=>q1=(!xL x && decide (x.code≠0))) (by exact H.sub ⟨rfl,rfl,rfl,rfl,aB⟩) ?_ ?_
 ·intro Ub;refine kH H (Rm rfl (Rn rfl (Rm rfl (Sp 82 rfl ?_ ?_)))) <;> clear H
  ·intro sW a H
   try have V5:=dT sW
   refine kH H (YF Cv sW rfl (YO aG 0 sW rfl (YC sW rfl (Pt sW rfl ?_))));clear H;intro a H;refine Ub (_) _ _ ?_ (by exact H.sub ⟨rfl,rfl,rfl,rfl,rfl,aB⟩);rw [← hcd];clear hst hwd hnm hck hcd;(try clear hq1);(try clear hq2);(try clear hq3);(try clear hq0);(try clear hq4);(try clear lK);(try clear lM);(try clear lN);simp_all
  intro sW a H
  try have V5:=dF sW
  refine kH H (aX sW rfl (Pf sW rfl ?_));clear H;intro a H;refine Ub (_) _ _ ?_ (by exact H.sub ⟨rfl,rfl,rfl,rfl,rfl,aB⟩);rw [← hcd];clear hst hwd hnm hck hcd;(try clear hq1);(try clear hq2);(try clear hq3);(try clear hq0);(try clear hq4);(try clear lK);(try clear lM);(try clear lN);simp_all
 clear H;intro q1 a w hI H;dsimp only [lca,aZ] at H;simp only [yZ,tZ];have hq1:=hI;refine Ao (ι:=Bool) (Tc:=[(1,_),(3,_),(4,_)]) 9 (fun (q2:Bool)=>[(95,.bool q2)]) (fun (q2:Bool)=>q2=(q1 || !yu x && decide (x.id≠0))) (by exact H.sub ⟨rfl,rfl,rfl,aB⟩) ?_ ?_
 ·intro Nn;refine kH H (Rm rfl (Sp 87 rfl ?_ ?_)) <;> clear H
  ·intro h87 a H
   try have OX:=dT h87
   refine kH H (aX h87 rfl (Ku rfl (Ku rfl (Ku rfl (Ks h87 rfl (Pt h87 rfl ?_))))));clear H;intro a H;refine Nn (_) _ _ ?_ (by exact H.sub ⟨rfl,rfl,rfl,rfl,aB⟩);rw [← hnm];clear hst hwd hnm hck hcd;(try clear hq1);(try clear hq2);(try clear hq3);(try clear hq0);(try clear hq4);(try clear lK);(try clear lM);(try clear lN);simp_all
  intro h87 a H
  try have OX:=dF h87
  refine kH H (YM h87 rfl (YN h87 rfl (YM h87 rfl (Sp 90 rfl ?_ ?_)))) <;> clear H
  ·intro zD a H
   try have p90:=dT zD
   refine kH H (YF zq zD rfl (YO aG 0 zD rfl (YC zD rfl (PT h87 zD rfl (Pf h87 rfl ?_)))));clear H;intro a H;refine Nn (_) _ _ ?_ (by exact H.sub ⟨rfl,rfl,rfl,rfl,aB⟩);rw [← hnm];clear hst hwd hnm hck hcd;(try clear hq1);(try clear hq2);(try clear hq3);(try clear hq0);(try clear hq4);(try clear lK);(try clear lM);(try clear lN);simp_all
  intro zD a H
  try have p90:=dF zD
  refine kH H (aX zD rfl (PF h87 zD rfl (Pf h87 rfl ?_)));clear H;intro a H;refine Nn (_) _ _ ?_ (by exact H.sub ⟨rfl,rfl,rfl,rfl,aB⟩);rw [← hnm];clear hst hwd hnm hck hcd;(try clear hq1);(try clear hq2);(try clear hq3);(try clear hq0);(try clear hq4);(try clear lK);(try clear lM);(try clear lN);simp_all
 clear H;intro q2 a w hI H;dsimp only [lca,aZ] at H;simp only [yZ,tZ];have hq2:=hI;refine Ao (ι:=Bool) (Tc:=[(1,_),(3,_)]) 9 (fun (q3:Bool)=>[(104,.bool q3)]) (fun (q3:Bool)=>q3=(q2 || !yJ x && !rP x.text)) (by exact H.sub ⟨rfl,rfl,aB⟩) ?_ ?_
 ·intro Nj;refine kH H (Rm rfl (Sp 96 rfl ?_ ?_)) <;> clear H
  ·intro ql a H
   try have GU:=dT ql
   refine kH H (aX ql rfl (Ku rfl (Ku rfl (Ku rfl (Ks ql rfl (Pt ql rfl ?_))))));clear H;intro a H;refine Nj (_) _ _ ?_ (by exact H.sub ⟨rfl,rfl,rfl,aB⟩);rw [← hwd];clear hst hwd hnm hck hcd;(try clear hq1);(try clear hq2);(try clear hq3);(try clear hq0);(try clear hq4);(try clear lK);(try clear lM);(try clear lN);simp_all [rP]
  intro ql a H
  try have GU:=dF ql
  refine kH H (YM ql rfl (YN ql rfl (YM ql rfl (Sp 99 rfl ?_ ?_)))) <;> clear H
  ·intro zF a H
   try have p99:=dT zF
   refine kH H (YF sS zF rfl (YO fZ 0 zF rfl ?_));clear H;intro a H;refine ahH H (wg H rfl rfl zF) rfl rfl rfl ?_;clear H;intro a H;refine kH H (PT ql zF rfl (Pf ql rfl ?_));clear H;intro a H;refine Nj (_) _ _ ?_ (by exact H.sub ⟨rfl,rfl,rfl,aB⟩);rw [← hwd];clear hst hwd hnm hck hcd;(try clear hq1);(try clear hq2);(try clear hq3);(try clear hq0);(try clear hq4);(try clear lK);(try clear lM);(try clear lN);simp_all [rP]
  intro zF a H
  try have p99:=dF zF
  refine kH H (aX zF rfl (PF ql zF rfl (Pf ql rfl ?_)));clear H;intro a H;refine Nj (_) _ _ ?_ (by exact H.sub ⟨rfl,rfl,rfl,aB⟩);rw [← hwd];clear hst hwd hnm hck hcd;(try clear hq1);(try clear hq2);(try clear hq3);(try clear hq0);(try clear hq4);(try clear lK);(try clear lM);(try clear lN);simp_all [rP]
 clear H;intro q3 a w hI H;dsimp only [lca,aZ] at H;simp only [yZ,tZ];have hq3:=hI;refine Ao (ι:=Bool) (Tc:=[(1,_),(3,_)]) 11 (fun (q4:Bool)=>[(115,.bool q4)]) (fun (q4:Bool)=>q4=(q3 || decide (x.kind≠6) && decide (0 < (x.flow.length:Int)))) (by exact H.sub ⟨rfl,rfl,aB⟩) ?_ ?_
 ·intro Nk;refine kH H (Rm rfl (Sp 105 rfl ?_ ?_)) <;> clear H
  ·intro oG a H
   try have EH:=dT oG
   refine kH H (aP oG rfl (aP oG rfl (Ku rfl (Ku rfl (Ku rfl (Ku rfl (Ks oG rfl (Pt oG rfl ?_))))))));clear H;intro a H;refine Nk (_) _ _ ?_ (by exact H.sub ⟨rfl,rfl,rfl,aB⟩);clear hst hwd hnm hck hcd;(try clear hq1);(try clear hq2);(try clear hq3);(try clear hq0);(try clear hq4);(try clear lK);(try clear lM);(try clear lN);simp_all
  intro oG a H
  try have EH:=dF oG
  refine kH H (YF jh oG rfl (YO aG 0 oG rfl (YC oG rfl (YM oG rfl (Sp 109 rfl ?_ ?_))))) <;> clear H
  ·intro wB a H
   try have agO:=dT wB
   refine kH H (YF xR wB rfl (YO gZ 0 wB rfl (YL gI wB rfl (YC wB rfl (PT oG wB rfl (Pf oG rfl ?_))))));clear H;intro a H;refine Nk (_) _ _ ?_ (by exact H.sub ⟨rfl,rfl,rfl,aB⟩);clear hst hwd hnm hck hcd;(try clear hq1);(try clear hq2);(try clear hq3);(try clear hq0);(try clear hq4);(try clear lK);(try clear lM);(try clear lN);simp_all
  intro wB a H
  try have agO:=dF wB
  refine kH H (aP wB rfl (aP wB rfl (PF oG wB rfl (Pf oG rfl ?_))));clear H;intro a H;refine Nk (_) _ _ ?_ (by exact H.sub ⟨rfl,rfl,rfl,aB⟩);clear hst hwd hnm hck hcd;(try clear hq1);(try clear hq2);(try clear hq3);(try clear hq0);(try clear hq4);(try clear lK);(try clear lM);(try clear lN);simp_all
 clear H;intro q4 a w hI H;dsimp only [lca,aZ] at H;simp only [yZ,tZ];have hq4:=hI;refine Ao (ι:=Bool) (Tc:=[(1,_),(3,_)]) 11 (fun (q5:Bool)=>[(126,.bool q5)]) (fun (q5:Bool)=>q5=vF x) (by exact H.sub ⟨rfl,rfl,aB⟩) ?_ ?_
 ·intro Nl;refine kH H (Rm rfl (Sp 116 rfl ?_ ?_)) <;> clear H
  ·intro h116 a H
   try have agQ:=dT h116
   refine kH H (aP h116 rfl (aP h116 rfl (Ku rfl (Ku rfl (Ku rfl (Ku rfl (Ks h116 rfl (Pt h116 rfl ?_))))))));clear H;intro a H;refine Nl (_) _ _ ?_ (by exact H.sub ⟨rfl,rfl,rfl,aB⟩);rw [show vF x=(q4 || decide (x.kind≠7) && decide (0 < (x.rows.length:Int))) by rw [hq4,hq3,hq2,hq1];rfl];clear hq4;clear hst hwd hnm hck hcd;(try clear hq1);(try clear hq2);(try clear hq3);(try clear hq0);(try clear hq4);(try clear lK);(try clear lM);(try clear lN);simp_all
  intro h116 a H
  try have agQ:=dF h116
  refine kH H (YF jh h116 rfl (YO aG 0 h116 rfl (YC h116 rfl (YM h116 rfl (Sp 120 rfl ?_ ?_))))) <;> clear H
  ·intro wC a H
   try have agR:=dT wC
   refine kH H (YF qg wC rfl (YO qz 0 wC rfl (YL mG wC rfl (YC wC rfl (PT h116 wC rfl (Pf h116 rfl ?_))))));clear H;intro a H;refine Nl (_) _ _ ?_ (by exact H.sub ⟨rfl,rfl,rfl,aB⟩);rw [show vF x=(q4 || decide (x.kind≠7) && decide (0 < (x.rows.length:Int))) by rw [hq4,hq3,hq2,hq1];rfl];clear hq4;clear hst hwd hnm hck hcd;(try clear hq1);(try clear hq2);(try clear hq3);(try clear hq0);(try clear hq4);(try clear lK);(try clear lM);(try clear lN);simp_all
  intro wC a H
  try have agR:=dF wC
  refine kH H (aP wC rfl (aP wC rfl (PF h116 wC rfl (Pf h116 rfl ?_))));clear H;intro a H;refine Nl (_) _ _ ?_ (by exact H.sub ⟨rfl,rfl,rfl,aB⟩);rw [show vF x=(q4 || decide (x.kind≠7) && decide (0 < (x.rows.length:Int))) by rw [hq4,hq3,hq2,hq1];rfl];clear hq4;clear hst hwd hnm hck hcd;(try clear hq1);(try clear hq2);(try clear hq3);(try clear hq0);(try clear hq4);(try clear lK);(try clear lM);(try clear lN);simp_all
 clear H;intro q5 a w hI H;dsimp only [lca,aZ] at H;simp only [yZ,tZ];have lK:=hI;refine kH H (ak aS rfl (Cd rfl ?_ ?_)) <;> clear H aS
 ·intro AY a H
  refine bq (fun _ bA=>?_)
  have e:jW x=15:=by unfold jW;rw [ah f0,au (by rw [← lK];exact AY)]
  exact kP H (SC (aV bA rfl (LR results127 rfl fun H=>H.rt ⟨by rw [e],rfl⟩)))
 intro AY a H
 try have OW:=dF AY
 have f1:¬ vF x=true:=by rw [← lK,AY];decide
 refine kP H (SR fun _ bK=>aR sS fZ 0 rfl rfl ?_);clear H;intro a H;refine s_call FM H wn rfl (Hw _ _ H.ro x.text hs) rfl ?_;clear H;rintro v130 _ a w ⟨rfl,rfl⟩ - H;refine kH H (Rn rfl (ak bK rfl (Cd rfl ?_ ?_))) <;> clear H bK
 ·intro h127 a H
  refine bq (fun _ bR=>?_)
  have e:jW x=12:=by unfold jW;rw [ah f0,ah f1,au (by simpa using h127)]
  exact kP H (SC (aV bR rfl (LR results127 rfl fun H=>H.rt ⟨by rw [e],rfl⟩)))
 intro h127 a H
 try have akp:=dF h127
 have f2:¬ oN x.text=false:=by simpa using h127
 refine cO (fun _ bP=>?_);refine Ao (ι:=Bool) (Tc:=[(1,_),(3,_)]) 13 (fun (q6:Bool)=>[(145,.bool q6)]) (fun (q6:Bool)=>q6=(decide (x.kind=1∨x.kind=5) && rP x.text)) (by exact H.sub ⟨rfl,rfl,aB⟩) ?_ ?_
 ·intro Np;refine kH H (aR jh aG 0 rfl rfl (Rc rfl (Rm rfl (Sp 136 rfl ?_ ?_)))) <;> clear H
  ·intro zy a H
   try have agS:=dT zy
   refine kH H (aX zy rfl (Pt zy rfl (Rm rfl ?_)));clear H;intro a H;refine GY sS H (wg H rfl rfl rfl) rfl rfl ?_;clear H;intro a H;refine uM fZ H (wg H rfl rfl rfl) rfl (H.hp.mY 0 rfl rfl) rfl ?_;clear H;intro a H;refine Bt H (wg H rfl rfl rfl) rfl rfl rfl ?_;clear H;intro a H;refine kH H (Pt rfl rfl ?_);clear H;intro a H;refine Np (_) _ _ ?_ (by exact H.sub ⟨rfl,rfl,rfl,aB⟩);clear hst hwd hnm hck hcd;(try clear hq1);(try clear hq2);(try clear hq3);(try clear hq0);(try clear hq4);(try clear lK);(try clear lM);(try clear lN);simp_all [rP]
  intro zy a H
  try have agS:=dF zy
  refine kH H (YF jh zy rfl (YO aG 0 zy rfl (YC zy rfl (Pf zy rfl (Rm rfl (Sp 141 rfl ?_ ?_)))))) <;> clear H
  ·intro zB a H
   try have agT:=dT zB
   refine kH H (YF sS zB rfl (YO fZ 0 zB rfl ?_));clear H;intro a H;refine Bt H (wg H rfl rfl zB) rfl rfl rfl ?_;clear H;intro a H;refine kH H (Pt zB rfl ?_);clear H;intro a H;refine Np (_) _ _ ?_ (by exact H.sub ⟨rfl,rfl,rfl,aB⟩);clear hst hwd hnm hck hcd;(try clear hq1);(try clear hq2);(try clear hq3);(try clear hq0);(try clear hq4);(try clear lK);(try clear lM);(try clear lN);simp_all [rP]
  intro zB a H
  try have agT:=dF zB
  refine kH H (aX zB rfl (Pf zB rfl ?_));clear H;intro a H;refine Np (_) _ _ ?_ (by exact H.sub ⟨rfl,rfl,rfl,aB⟩);clear hst hwd hnm hck hcd;(try clear hq1);(try clear hq2);(try clear hq3);(try clear hq0);(try clear hq4);(try clear lK);(try clear lM);(try clear lN);simp_all [rP]
 clear H;intro q6 a w hI H;dsimp only [lca,aZ] at H;simp only [yZ,tZ];have lM:=hI;refine kH H (ak bP rfl (Cd rfl ?_ ?_)) <;> clear H bP
 ·intro AU a H
  refine bq (fun _ dJ=>?_)
  have e:jW x=11:=by unfold jW;rw [ah f0,ah f1,ah f2,au (by rw [← lM];exact AU)]
  exact kP H (SC (aV dJ rfl (LR results127 rfl fun H=>H.rt ⟨by rw [e],rfl⟩)))
 intro AU a H
 try have V4:=dF AU
 have f3:¬ (decide (x.kind=1∨x.kind=5) && rP x.text)=true:=by rw [← lM,AU];decide
 refine cO (fun _ dN=>?_);refine Ao (ι:=Bool) (Tc:=[(1,_),(3,_)]) 9 (fun (q7:Bool)=>[(155,.bool q7)]) (fun (q7:Bool)=>q7=(decide (x.kind=5) && decide (1024 < (x.text.size:Int)))) (by exact H.sub ⟨rfl,rfl,aB⟩) ?_ ?_
 ·intro Uc;refine kH H (aR jh aG 0 rfl rfl (Rc rfl (Rm rfl (Sp 150 rfl ?_ ?_)))) <;> clear H
  ·intro wD a H
   try have agU:=dT wD
   refine kH H (YF sS wD rfl (YO fZ 0 wD rfl ?_));clear H;intro a H;refine Bv fP H (wg H rfl rfl wD) rfl rfl ?_;clear H;intro a H;refine kH H (YC wD rfl (Pt wD rfl ?_));clear H;intro a H;refine Uc (_) _ _ ?_ (by exact H.sub ⟨rfl,rfl,rfl,aB⟩);clear hst hwd hnm hck hcd;(try clear hq1);(try clear hq2);(try clear hq3);(try clear hq0);(try clear hq4);(try clear lK);(try clear lM);(try clear lN);simp_all
  intro wD a H
  try have agU:=dF wD
  refine kH H (aP wD rfl (aP wD rfl (Pf wD rfl ?_)));clear H;intro a H;refine Uc (_) _ _ ?_ (by exact H.sub ⟨rfl,rfl,rfl,aB⟩);clear hst hwd hnm hck hcd;(try clear hq1);(try clear hq2);(try clear hq3);(try clear hq0);(try clear hq4);(try clear lK);(try clear lM);(try clear lN);simp_all
 clear H;intro q7 a w hI H;dsimp only [lca,aZ] at H;simp only [yZ,tZ];have lN:=hI;refine kH H (ak dN rfl (Cd rfl ?_ ?_)) <;> clear H dN
 ·intro I9 a H
  refine bq (fun _ dx=>?_)
  have e:jW x=10:=by unfold jW;rw [ah f0,ah f1,ah f2,ah f3,au (by rw [← lN];exact I9)]
  exact kP H (SC (aV dx rfl (LR results127 rfl fun H=>H.rt ⟨by rw [e],rfl⟩)))
 intro I9 a H
 try have akq:=dF I9
 have f4:¬ (decide (x.kind=5) && decide (1024 < (x.text.size:Int)))=true:=by rw [← lN,I9];decide
 refine cO (fun _ eu=>?_);refine Ao (ι:=Bool) (Tc:=[]) 7 (fun (q8:Bool)=>[(163,.bool q8)]) (fun (q8:Bool)=>q8=(yC x && !oC x.text)) (by exact H.sub trivial) ?_ ?_
 ·intro Ud;refine kH H (Rm rfl (Rm rfl (Sp 158 rfl ?_ ?_))) <;> clear H
  ·intro wE a H
   try have agV:=dT wE
   refine kH H (YF sS wE rfl (YO fZ 0 wE rfl ?_));clear H;intro a H;refine s_call Me H (wg H rfl rfl wE) rfl (LV _ _ H.ro x.text hs) rfl ?_;clear H;rintro aku _ a w ⟨rfl,rfl⟩ - H;refine kH H (YN wE rfl (Pt wE rfl ?_));clear H;intro a H;refine Ud (_) _ _ ?_ (by exact H.sub ⟨rfl,aB⟩);rw [← hst];clear hst hwd hnm hck hcd;(try clear hq1);(try clear hq2);(try clear hq3);(try clear hq0);(try clear hq4);(try clear lK);(try clear lM);(try clear lN);simp_all
  intro wE a H
  try have agV:=dF wE
  refine kH H (aP wE rfl (aP wE rfl (Pf wE rfl ?_)));clear H;intro a H;refine Ud (_) _ _ ?_ (by exact H.sub ⟨rfl,aB⟩);rw [← hst];clear hst hwd hnm hck hcd;(try clear hq1);(try clear hq2);(try clear hq3);(try clear hq0);(try clear hq4);(try clear lK);(try clear lM);(try clear lN);simp_all
 clear H;intro q8 a w hI H;dsimp only [lca,aZ] at H;simp only [yZ,tZ];have hq8:=hI;refine kH H (ak eu rfl (Cd rfl ?_ ?_)) <;> clear H eu
 ·intro MQ a H
  refine bq (fun _ gy=>?_)
  have e:jW x=13:=by unfold jW;rw [ah f0,ah f1,ah f2,ah f3,ah f4,au (by rw [← hq8];exact MQ)]
  exact kP H (SC (aV gy rfl (LR results127 rfl fun H=>H.rt ⟨by rw [e],rfl⟩)))
 intro MQ a H
 refine fO ?_;refine K7 _ _ ?_;clear K7;refine bq (fun _ fu=>?_)
 have e:jW x=0:=by unfold jW;rw [ah f0,ah f1,ah f2,ah f3,ah f4,ah (by rw [← hq8,MQ];decide)]
 exact kP H (SC (aV fu rfl (LR results127 rfl fun H=>H.rt ⟨by rw [e],rfl⟩)))
end
section
open Go.RowKit
structure CS where
 n:Int
 bE:List Int
abbrev CR:=Int × CS
def fG (r:CR) (f:CS→CR):CR:=if r.1≠0 then r else f r.2
theorem Fy {r:CR} {f:CS→CR} (h:r.1=0):fG r f=f r.2:=by rw [fG,ah (fun h'=>h' h)]
theorem Iy {r:CR} {f:CS→CR} (h:r.1≠0):fG r f=r:=by rw [fG,au h]
def jC (s:CS) (x:Int):CR:=(oH s.bE x,⟨s.n,jB s.bE x⟩)
def jP (body note:Bool) (t k i:Int) (s:CS):CR :=
 if k=3 then (bW (!body) 19,s) else if k=6 then fG (bW note 19,s) fun s=>jC s i else if k=7 then fG (bW (decide (4≤t)) 17,s) fun s=>jC s i else if k=8 then (bW (!decide (1≤i∧i≤1073741824)) 18,s) else (0,s)
def Dr (C:gJ) (h:ig) (n:Nat):Int:=cZ [iw C 9 h,bW (decide ((n:Int)=0)) 11,bW (decide (32 < (n:Int))) 9]
def kQ (n:Nat) (f:CS→CR) (s:CS):CR:=if n=0 then (11,s) else if 256 < n then (9,s) else f s
mutual
def eF (C:gJ) (body note:Bool) (t:Int):ay→CS→CR
 | .mk k c i tx h f r,s =>
  fG (jW (.mk k c i tx h f r),s) fun s=>fG (jP body note t k i ⟨s.n+(if k=1 then uZ tx else 1:Nat),s.bE⟩) fun s=>fG (iw C k h,s) fun s =>
   if k=6 then iY C false true t f s else if k=7 then kQ r.length (fun s=>iG C note (t+1) r s) s else (0,s)
def Br (C:gJ) (note:Bool) (t:Int):bO→CS→CR
 | .mk h cs,s=>fG (Dr C h cs.length,s) fun s=>qI C note t cs s
def cellC (C:gJ) (note:Bool) (t:Int):bN→CS→CR
 | .mk i h f,s=>fG (jC s i) fun s=>fG (iw C 10 h,s) fun s=>iY C false note t f s
def iY (C:gJ) (body note:Bool) (t:Int):List ay→CS→CR
 | [],s=>(0,s)
 | x :: r,s=>fG (eF C body note t x s) fun s=>iY C body note t r s
def iG (C:gJ) (note:Bool) (t:Int):List bO→CS→CR
 | [],s=>(0,s)
 | x :: r,s=>fG (Br C note t x s) fun s=>iG C note t r s
def qI (C:gJ) (note:Bool) (t:Int):List bN→CS→CR
 | [],s=>(0,s)
 | x :: r,s=>fG (cellC C note t x s) fun s=>qI C note t r s
end
theorem Oo (C:gJ) (body note:Bool) (t:Int) (x:ay) (s:CS):eF C body note t x s=fG (jW x,s) fun s=>fG (jP body note t x.kind x.id ⟨s.n+(dV x:Nat),s.bE⟩) fun s=>fG (iw C x.kind x.head,s) fun s =>
  if x.kind=6 then iY C false true t x.flow s else if x.kind=7 then kQ x.rows.length (fun s=>iG C note (t+1) x.rows s) s else (0,s):=by cases x;rw [eF];rfl
theorem JY (C:gJ) (note:Bool) (t:Int) (x:bO) (s:CS):Br C note t x s=fG (Dr C x.head x.cells.length,s) fun s=>qI C note t x.cells s:=by cases x;rw [Br];rfl
theorem IE (C:gJ) (note:Bool) (t:Int) (x:bN) (s:CS):cellC C note t x s=fG (jC s x.id) fun s=>fG (iw C 10 x.head,s) fun s=>iY C false note t x.flow s:=by cases x;rw [cellC];rfl
def Up (s:CS) (z:Nat) (r:CR):Prop:=s.n≤r.2.n∧r.2.n≤s.n+z
theorem Up.and {s:CS} {z y q:Nat} {r:CR} {f:CS→CR} (h:Up s z r) (hq:z+y≤q) (hf:∀ s,Up s y (f s)):Up s q (fG r f):=by
 obtain ⟨h1,h2⟩:=h
 unfold fG
 split
 ·exact ⟨h1,by omega⟩
 obtain ⟨h3,h4⟩:=hf r.2;exact ⟨by omega,by omega⟩
theorem Up.zero (s:CS) (e:Int) (q:Nat):Up s q (e,s):=⟨Int.le_refl _,by dsimp only;omega⟩
theorem Up.le {s:CS} {z y:Nat} {r:CR} (h:Up s z r) (hq:z≤y):Up s y r:=⟨h.1,by have:=h.2;omega⟩
theorem Xu (s:CS) (x:Int) (q:Nat):Up s q (jC s x):=⟨Int.le_refl _,by dsimp only [jC];omega⟩
theorem aiN (body note:Bool) (t k i:Int) (s:CS) (q:Nat):Up s q (jP body note t k i s):=by
 unfold jP
 (repeat' split) <;> first|exact Up.zero _ _ _|exact (Up.zero _ _ 0).and (y:=0) (by omega) fun s=>Xu _ _ _
mutual
theorem Xv (C:gJ) (body note:Bool) (t:Int):∀ (x:ay) (s:CS),Up s (cB x.dat) (eF C body note t x s)
 | .mk k c i tx h f r,s=>by
  have hz:=nZ (.mk k c i tx h f r);have hf:=KA C false true t f;have hr:=Xw C note (t+1) r;rw [eF];obtain ⟨u,hu'⟩:∃ u,u=(if k=1 then uZ tx else 1:Nat):=⟨_,rfl⟩
  have hu:u≤tx.size+1:=by
   have:=FH tx
   rw [hu'];split <;> omega
  rw [← hu'];dsimp only [ay.text,ay.flow,ay.rows,ay.head] at hz;refine (Up.zero s _ 0).and (Nat.le_of_eq (kK _)) fun s=>?_
  have h2:Up s (u) (jP body note t k i ⟨s.n+(u:Nat),s.bE⟩):=by
   obtain ⟨h3,h4⟩:=aiN body note t k i ⟨s.n+(u:Nat),s.bE⟩ 0;dsimp only at h3 h4;exact ⟨by omega,by omega⟩
  refine h2.and (y:=bg f+gT r) (by omega) fun s=>(Up.zero s _ 0).and (Nat.le_of_eq (kK _)) fun s=>?_
  by_cases h6:k=6
  ·rw [au h6];exact (hf s).le (by omega)
  rw [ah h6]
  by_cases h7:k=7
  ·rw [au h7]
   unfold kQ
   by_cases c1:r.length=0
   ·rw [au c1];exact Up.zero _ _ _
   rw [ah c1]
   by_cases c2:256 < r.length
   ·rw [au c2];exact Up.zero _ _ _
   rw [ah c2];exact (hr s).le (by omega)
  rw [ah h7];exact Up.zero _ _ _
theorem aiO (C:gJ) (note:Bool) (t:Int):∀ (x:bO) (s:CS),Up s (cB x.dat) (Br C note t x s)
 | .mk h cs,s=>by
  have hz:=Ar (.mk h cs);have hc:=Xt C note t cs;rw [JY];dsimp only [bO.cells,bO.head] at hz ⊢;exact (Up.zero s _ 0).and (y:=iZ cs) (by omega) fun s=>hc s
theorem aiM (C:gJ) (note:Bool) (t:Int):∀ (x:bN) (s:CS),Up s (cB x.dat) (cellC C note t x s)
 | .mk i h f,s=>by
  have hz:=Aq (.mk i h f);have hf:=KA C false note t f;rw [IE];dsimp only [bN.flow,bN.head,bN.id] at hz ⊢;exact (Xu s _ 0).and (y:=bg f) (by omega) fun s=>(Up.zero s _ 0).and (Nat.le_of_eq (kK _)) fun s=>hf s
theorem KA (C:gJ) (body note:Bool) (t:Int):∀ (l:List ay) (s:CS),Up s (bg l) (iY C body note t l s)
 | [],s=>by rw [iY];exact Up.zero _ _ _
 | x :: r,s=>by
  rw [iY];exact (Xv C body note t x s).and (y:=bg r) (by simp only [bg,eY,eD];omega) fun s=>KA C body note t r s
theorem Xw (C:gJ) (note:Bool) (t:Int):∀ (l:List bO) (s:CS),Up s (gT l) (iG C note t l s)
 | [],s=>by rw [iG];exact Up.zero _ _ _
 | x :: r,s=>by
  rw [iG];exact (aiO C note t x s).and (y:=gT r) (by simp only [gT,eY,eD];omega) fun s=>Xw C note t r s
theorem Xt (C:gJ) (note:Bool) (t:Int):∀ (l:List bN) (s:CS),Up s (iZ l) (qI C note t l s)
 | [],s=>by rw [qI];exact Up.zero _ _ _
 | x :: r,s=>by
  rw [qI];exact (aiM C note t x s).and (y:=iZ r) (by simp only [iZ,eY,eD];omega) fun s=>Xt C note t r s
end
def nV {α:Type} (f:α→CS→CR) (l:List α) (s:CS):Nat→CS
 | 0=>s
 | i+1=>match l[i]? with|some x=>(f x (nV f l s i)).2|none=>nV f l s i
def zl {α:Type} (f:α→CS→CR) (l:List α) (s:CS) (i:Nat):Int:=match l[i]? with|some x=>(f x (nV f l s i)).1|none=>0
theorem PE {α:Type} (f:α→CS→CR) (x:α) (l:List α) (s:CS):∀ i,nV f (x :: l) s (i+1)=nV f l (f x s).2 i
 | 0=>rfl
 | i+1=>by
  have ih:=PE f x l s i
  simp only [nV,List.getElem?_cons_succ] at ih ⊢
  rw [ih]
theorem acN {α:Type} (f:α→CS→CR) (x:α) (l:List α) (s:CS) (i:Nat):zl f (x :: l) s (i+1)=zl f l (f x s).2 i:=by
 unfold zl
 simp only [List.getElem?_cons_succ,PE]
theorem Y6 (E:Nat→Int) (n:Nat):jM E (n+1)=if E 0≠0 then E 0 else jM (fun i=>E (i+1)) n:=by
 unfold jM
 rw [List.range_succ_eq_map,eY,cZ,List.map_map]
 rfl
theorem Vg (C:gJ) (body note:Bool) (t:Int):∀ (l:List ay) (s:CS),(iY C body note t l s).1=jM (zl (eF C body note t) l s) l.length∧((iY C body note t l s).1=0→(iY C body note t l s).2=nV (eF C body note t) l s l.length)
 | [],s=>by rw [iY];exact ⟨rfl,fun _=>rfl⟩
 | x :: r,s=>by
  obtain ⟨h1,h2⟩:=Vg C body note t r (eF C body note t x s).2;have e0:zl (eF C body note t) (x :: r) s 0=(eF C body note t x s).1:=rfl;rw [iY,nA,Y6,e0,PE]
  simp only [acN]
  unfold fG
  split
  ·next h=>exact ⟨rfl,fun h0=>absurd h0 h⟩
  exact ⟨h1,h2⟩
theorem Xx (C:gJ) (body note:Bool) (t:Int) (l:List ay) (s:CS):∀ i,i≤l.length→s.n≤(nV (eF C body note t) l s i).n∧(nV (eF C body note t) l s i).n+(bg (l.drop i):Nat)≤s.n+(bg l:Nat)
 | 0,_=>⟨Int.le_refl _,Int.le_refl _⟩
 | i+1,hi=>by
  have hi':i < l.length:=hi;obtain ⟨h1,h2⟩:=Xx C body note t l s i (by omega)
  have hs:nV (eF C body note t) l s (i+1)=(eF C body note t l[i] (nV (eF C body note t) l s i)).2:=by rw [nV,gP hi']
  have hd:bg (l.drop i)=1+cB l[i].dat+bg (l.drop (i+1)):=by
   simp only [bg];rw [lG hi',eY,eD]
  obtain ⟨h3,h4⟩:=Xv C body note t l[i] (nV (eF C body note t) l s i);rw [hs];exact ⟨by omega,by omega⟩
end
section
open Go.RowKit
mutual
/-- The ids in items, in document order. -/
def zT:ay→List Int
 | .mk k _ i _ _ f r=>(if k=6∨k=7 then [i] else [])++((if k=6 then tH f else [])++(if k=7 then zU r else []))
def tH:List ay→List Int
 | []=>[]
 | x :: r=>zT x++tH r
def Bl:bO→List Int
 | .mk _ c=>zS c
def zU:List bO→List Int
 | []=>[]
 | x :: r=>Bl x++zU r
def Bj:bN→List Int
 | .mk i _ f=>i :: tH f
def zS:List bN→List Int
 | []=>[]
 | x :: r=>Bj x++zS r
end
end
section
open Go.RowKit
theorem ow {r:CR} {f:CS→CR} {s':CS} (h:fG r f=(0,s')):r.1=0∧f r.2=(0,s'):=by
 unfold fG at h
 split at h
 ·rename_i h1;rw [h] at h1;exact absurd rfl h1
 rename_i h1;exact ⟨lY.1 h1,h⟩
theorem RZ {r:CR} (h:r.1=0):r=(0,r.2):=Prod.ext h rfl
structure jZ (a b c:List Int):Prop where
 eq:c=a++b
 nd:a.Nodup→c.Nodup
 pos:∀ i∈b,1≤i∧i≤1073741824
theorem jZ.nil (a:List Int):jZ a [] a:=⟨by simp,fun h=>h,fun i h=>by cases h⟩
theorem jZ.trans {a b c d e:List Int} (h:jZ a b c) (g:jZ c d e):jZ a (b++d) e:=⟨by rw [g.eq,h.eq,ou],fun h1=>g.nd (h.nd h1),fun i hi=>(lF.1 hi).elim (h.pos i) (g.pos i)⟩
theorem jZ.id {a:List Int} {x:Int} (h:oH a x=0):jZ a [x] (jB a x):=by
 unfold jB
 rw [au h]
 unfold oH at h
 by_cases h1:1≤x∧x≤1073741824
 ·rw [ah (fun h'=>h' h1)] at h
  by_cases h2:x∈a
  ·rw [au h2] at h;cases h
  exact ⟨rfl,fun h3=>List.nodup_append.2 ⟨h3,by simp,fun u hu v hv=>by rw [rG.1 hv];exact fun e=>h2 (e ▸ hu)⟩,fun i hi=>by rw [rG.1 hi];exact h1⟩
 rw [au h1] at h;cases h
theorem jZ.jC {s s':CS} {x:Int} (h:jC s x=(0,s')):jZ s.bE [x] s'.bE:=by
 unfold Go.Proofs.YteopmoocmoigcaaGreat.jC at h
 injection h with h1 h2
 rw [← h2];exact jZ.id h1
theorem aha {body note:Bool} {t k i:Int} {s s':CS} (h:jP body note t k i s=(0,s')):jZ s.bE (if k=6∨k=7 then [i] else []) s'.bE:=by
 unfold jP at h
 by_cases h3:k=3
 ·rw [au h3] at h;injection h with _ h2;rw [ah (by omega),← h2];exact jZ.nil _
 rw [ah h3] at h
 by_cases h6:k=6
 ·rw [au h6] at h;rw [au (.inl h6)];exact jZ.jC (ow h).2
 rw [ah h6] at h
 by_cases h7:k=7
 ·rw [au h7] at h;rw [au (.inr h7)];exact jZ.jC (ow h).2
 rw [ah h7] at h;rw [ah (by omega)]
 by_cases h8:k=8
 ·rw [au h8] at h;injection h with _ h2;rw [← h2];exact jZ.nil _
 rw [ah h8] at h;injection h with _ h2;rw [← h2];exact jZ.nil _
theorem Wo {n:Nat} {f:CS→CR} {s s':CS} (h:kQ n f s=(0,s')):n≠0∧f s=(0,s'):=by
 unfold kQ at h
 split at h
 ·cases h
 rename_i h1
 split at h
 ·cases h
 exact ⟨h1,h⟩
mutual
theorem acR (C:gJ) (body note:Bool) (t:Int):∀ (x:ay) (s s':CS),eF C body note t x s=(0,s')→jZ s.bE (zT x) s'.bE
 | .mk k c i tx h f r,s,s',e=>by
  have hf:=IX C false true t f;have hr:=Tg C note (t+1) r;rw [eF] at e;obtain ⟨-,e⟩:=ow e;obtain ⟨e1,e⟩:=ow e;obtain ⟨-,e⟩:=ow e;have h1:=aha (RZ e1);rw [zT];refine h1.trans ?_
  by_cases h6:k=6
  ·rw [au h6] at e ⊢;rw [ah (show ¬ k=7 by omega),oW];exact hf _ _ e
  rw [ah h6] at e ⊢;rw [ko]
  by_cases h7:k=7
  ·rw [au h7] at e ⊢;exact hr _ _ (Wo e).2
  rw [ah h7] at e ⊢
  injection e with _ e
  rw [← e];exact jZ.nil _
theorem acS (C:gJ) (note:Bool) (t:Int):∀ (x:bO) (s s':CS),Br C note t x s=(0,s')→jZ s.bE (Bl x) s'.bE
 | .mk h cs,s,s',e=>by
  have hc:=Tf C note t cs;rw [JY] at e;rw [Bl];exact hc _ _ (ow e).2
theorem acQ (C:gJ) (note:Bool) (t:Int):∀ (x:bN) (s s':CS),cellC C note t x s=(0,s')→jZ s.bE (Bj x) s'.bE
 | .mk i h f,s,s',e=>by
  have hf:=IX C false note t f;rw [IE] at e;dsimp only [bN.id,bN.head,bN.flow] at e;obtain ⟨e1,e⟩:=ow e;have h1:=jZ.jC (s':=(jC s i).2) (Prod.ext e1 rfl);rw [Bj];exact h1.trans (hf _ _ (ow e).2)
theorem IX (C:gJ) (body note:Bool) (t:Int):∀ (l:List ay) (s s':CS),iY C body note t l s=(0,s')→jZ s.bE (tH l) s'.bE
 | [],s,s',e=>by rw [iY] at e;injection e with _ e;rw [← e];exact jZ.nil _
 | x :: r,s,s',e=>by
  rw [iY] at e;obtain ⟨e1,e⟩:=ow e;rw [tH];exact (acR C body note t x s _ (Prod.ext e1 rfl)).trans (IX C body note t r _ _ e)
theorem Tg (C:gJ) (note:Bool) (t:Int):∀ (l:List bO) (s s':CS),iG C note t l s=(0,s')→jZ s.bE (zU l) s'.bE
 | [],s,s',e=>by rw [iG] at e;injection e with _ e;rw [← e];exact jZ.nil _
 | x :: r,s,s',e=>by
  rw [iG] at e;obtain ⟨e1,e⟩:=ow e;rw [zU];exact (acS C note t x s _ (Prod.ext e1 rfl)).trans (Tg C note t r _ _ e)
theorem Tf (C:gJ) (note:Bool) (t:Int):∀ (l:List bN) (s s':CS),qI C note t l s=(0,s')→jZ s.bE (zS l) s'.bE
 | [],s,s',e=>by rw [qI] at e;injection e with _ e;rw [← e];exact jZ.nil _
 | x :: r,s,s',e=>by
  rw [qI] at e;obtain ⟨e1,e⟩:=ow e;rw [zS];exact (acQ C note t x s _ (Prod.ext e1 rfl)).trans (Tf C note t r _ _ e)
end
def fQ (l:List ay):Prop:=∃ (C:gJ) (body note:Bool) (t:Int) (s s':CS),iY C body note t l s=(0,s')
structure xD (x:ay):Prop where
 txt:oN x.text=true
 kd:1≤x.kind∧x.kind≤8
 J2:x.kind≠7→x.rows=[]
 fl0:x.kind≠6→x.flow=[]
 fl:fQ x.flow
 rw:∀ r∈x.rows,∀ c∈r.cells,fQ c.flow
theorem agJ:fQ []:=⟨⟨[],[],[]⟩,false,false,0,⟨0,[]⟩,⟨0,[]⟩,by rw [iY]⟩
theorem adF {x:ay} (h:jW x=0):oN x.text=true∧(1≤x.kind∧x.kind≤8)∧(x.kind≠7→x.rows=[])∧(x.kind≠6→x.flow=[]):=by
 unfold jW at h
 split at h
 ·cases h
 rename_i h1
 split at h
 ·cases h
 rename_i h2
 split at h
 ·cases h
 rename_i h3
 have hk:decide (1≤x.kind∧x.kind≤8)=true:=by
  cases hd:decide (1≤x.kind∧x.kind≤8)
  ·rw [hd] at h1;exact absurd rfl h1
  rfl
 refine ⟨by simpa using h3,rH hk,fun h7=>?_,fun h6=>?_⟩
 ·rw [Bool.not_eq_true] at h2
  unfold vF at h2
  simp only [Bool.or_eq_false_iff] at h2
  have h4:=h2.2;rw [jT h7,Cg,qG] at h4;exact List.length_eq_zero_iff.1 (by omega)
 rw [Bool.not_eq_true] at h2
 unfold vF at h2
 simp only [Bool.or_eq_false_iff] at h2
 have h4:=h2.1.2;rw [jT h6,Cg,qG] at h4;exact List.length_eq_zero_iff.1 (by omega)
theorem cells_ok {C:gJ} {note:Bool} {t:Int}:∀ {l:List bN} {s s':CS},qI C note t l s=(0,s')→∀ c∈l,fQ c.flow
 | [],_,_,_,_,h=>by cases h
 | x :: r,s,s',e,c,h=>by
  rw [qI] at e;obtain ⟨e1,e⟩:=ow e
  rcases lX.1 h with rfl|h
  ·have e2:cellC C note t c s=(0,(cellC C note t c s).2):=Prod.ext e1 rfl
   generalize (cellC C note t c s).2=s2 at e2
   rw [IE] at e2;exact ⟨C,false,note,t,_,_,(ow (ow e2).2).2⟩
  exact cells_ok e c h
theorem Wp {C:gJ} {note:Bool} {t:Int}:∀ {l:List bO} {s s':CS},iG C note t l s=(0,s')→∀ r∈l,∀ c∈r.cells,fQ c.flow
 | [],_,_,_,_,h=>by cases h
 | x :: r,s,s',e,q,h=>by
  rw [iG] at e;obtain ⟨e1,e⟩:=ow e
  rcases lX.1 h with rfl|h
  ·have e2:Br C note t q s=(0,(Br C note t q s).2):=Prod.ext e1 rfl
   generalize (Br C note t q s).2=s2 at e2
   rw [JY] at e2;exact cells_ok (ow e2).2
  exact Wp e q h
theorem fQ.head {x:ay} {l:List ay} (h:fQ (x :: l)):xD x∧fQ l:=by
 obtain ⟨C,body,note,t,s,s',e⟩:=h;rw [iY] at e;obtain ⟨e1,e⟩:=ow e;have e2:eF C body note t x s=(0,(eF C body note t x s).2):=Prod.ext e1 rfl
 generalize (eF C body note t x s).2=s2 at e2
 refine ⟨?_,⟨C,body,note,t,_,_,e⟩⟩;rw [Oo] at e2;obtain ⟨f1,e2⟩:=ow e2;(iterate 2 obtain ⟨-,e2⟩:=ow e2);obtain ⟨h1,h2,h3,h4⟩:=adF f1;refine ⟨h1,h2,h3,h4,?_,?_⟩
 ·by_cases h6:x.kind=6
  ·rw [au h6] at e2;exact ⟨_,_,_,_,_,_,e2⟩
  rw [h4 h6];exact agJ
 by_cases h7:x.kind=7
 ·rw [ah (by omega),au h7] at e2;exact Wp (Wo e2).2
 rw [h3 h7];exact fun _ h=>by cases h
theorem fQ.tail {x:ay} {l:List ay} (h:fQ (x :: l)):fQ l:=h.head.2
theorem fQ.mem:∀ {l:List ay} {x:ay},fQ l→x∈l→xD x
 | y :: l,x,h,hx=>by
  rcases lX.1 hx with rfl|hx
  ·exact h.head.1
  exact fQ.mem h.head.2 hx
theorem xD.e {x:ay} (h:xD x):qB x=0:=by unfold qB EY;rw [au h.txt];split <;> rfl
theorem xD.n1 {x:ay} (h:xD x):n1 x=dV x:=by unfold Go.Proofs.YteopmoocmoigcaaGreat.n1;rw [au h.e]
theorem fQ.div {l:List ay} (h:fQ l):uh l=true:=by
 unfold uh
 rw [kI];exact fun x hx=>jT (h.mem hx).e
theorem fQ.len {l:List ay} (h:fQ l):vJ l=nW l:=by unfold vJ;rw [au h.div]
def rD (f t:Int) (L:List jL):Prop:=∃ F∈L,F.id=f∧0≤t∧t≤vJ F.items
theorem JE {f t:Int}:rD f t []↔False:=⟨fun ⟨_,h,_⟩=>(by cases h),False.elim⟩
theorem Oj {f t:Int} {L M:List jL}:rD f t (L++M)↔rD f t L∨rD f t M:=by
 unfold rD
 constructor
 ·rintro ⟨F,h,r⟩
  rcases lF.1 h with h|h
  ·exact .inl ⟨F,h,r⟩
  exact .inr ⟨F,h,r⟩
 rintro (⟨F,h,r⟩|⟨F,h,r⟩)
 ·exact ⟨F,lF.2 (.inl h),r⟩
 exact ⟨F,lF.2 (.inr h),r⟩
theorem U9 {f t:Int} {F:jL} {L:List jL}:rD f t (F :: L)↔(F.id=f∧0≤t∧t≤vJ F.items)∨rD f t L:=by
 unfold rD
 constructor
 ·rintro ⟨E,h,r⟩
  rcases lX.1 h with rfl|h
  ·exact .inl r
  exact .inr ⟨E,h,r⟩
 rintro (r|⟨E,h,r⟩)
 ·exact ⟨F,iB,r⟩
 exact ⟨E,jU _ h,r⟩
mutual
theorem VE (g:Int) (at_:Nat) (note:Bool) (tt f t:Int):∀ x:ay,xD x→((f,t)∈BK g at_ x↔(g=f∧(at_:Int)≤t∧t < at_+dV x)∨rD f t (Al note tt x))
 | .mk k c i tx h fl r,hx=>by
  have hf:=JK i 0 true tt f t fl hx.fl;have hr:=OC note tt f t r hx.rw;have hn:=hx.n1;have h0:=hx.J2;have hl:=hx.fl.len;rw [BK,Al,hn]
  simp only [ay.kind,ay.rows,ay.flow] at h0 hl
  generalize dV (.mk k c i tx h fl r)=u
  have h1:(f,t)∈(List.range u).map (fun q=>(g,((at_+q:Nat):Int)))↔(g=f∧(at_:Int)≤t∧t < at_+u):=by
   rw [List.mem_map]
   constructor
   ·rintro ⟨q,hq,e⟩
    injection e with e1 e2
    have:=nN.1 hq;exact ⟨e1,by omega,by omega⟩
   rintro ⟨e,h2,h3⟩;exact ⟨(t - at_).toNat,nN.2 (by omega),by rw [e];exact Prod.ext rfl (by simp only;omega)⟩
  rw [lF,lF,h1];refine or_congr Iff.rfl ?_
  by_cases h6:k=6
  ·rw [au h6,au h6,h0 (by omega),hf,U9]
   simp only [rz,List.not_mem_nil,or_false,hl]
   constructor
   ·rintro (⟨e,h2,h3⟩|h2)
    ·exact .inl ⟨e,by omega,by omega⟩
    exact .inr h2
   rintro (⟨e,h2,h3⟩|h2)
   ·exact .inl ⟨e,by omega,by omega⟩
   exact .inr h2
  rw [ah h6,ah h6]
  by_cases h7:k=7
  ·rw [au h7,hr];simp
  rw [ah h7,h0 h7,JE];simp [rz]
theorem JK (g:Int) (at_:Nat) (note:Bool) (tt f t:Int):∀ l:List ay,fQ l→((f,t)∈uP g at_ l↔(g=f∧(at_:Int)≤t∧t≤at_+nW l)∨rD f t (jk note tt l))
 | [],_=>by
  rw [uP,jk,JE,rG]
  constructor
  ·intro e;injection e with e1 e2;exact .inl ⟨e1.symm,by omega,by simp only [nW];omega⟩
  rintro (⟨e,h2,h3⟩|h)
  ·simp only [nW] at h3;rw [e];exact Prod.ext rfl (by simp only;omega)
  exact h.elim
 | x :: l,hl=>by
  obtain ⟨hx,hl⟩:=hl.head;have h1:=VE g at_ note tt f t x hx;have h2:=JK g (at_+n1 x) note tt f t l hl;rw [uP,jk,lF,h1,h2,Oj,hx.n1]
  simp only [nW]
  constructor
  ·rintro ((⟨e,h3,h4⟩|h3)|(⟨e,h3,h4⟩|h3))
   ·exact .inl ⟨e,by omega,by omega⟩
   ·exact .inr (.inl h3)
   ·exact .inl ⟨e,by omega,by omega⟩
   exact .inr (.inr h3)
  rintro (⟨e,h3,h4⟩|(h3|h3))
  ·by_cases hlt:t < at_+dV x
   ·exact .inl (.inl ⟨e,h3,hlt⟩)
   exact .inr (.inl ⟨e,by omega,by omega⟩)
  ·exact .inl (.inr h3)
  exact .inr (.inr h3)
theorem mem_row (note:Bool) (tt f t:Int):∀ x:bO,(∀ c∈x.cells,fQ c.flow)→((f,t)∈BL x↔rD f t (Am note tt x))
 | .mk h cs,hx=>by
  have hc:=OB note tt f t cs hx;rw [BL,Am];exact hc
theorem OC (note:Bool) (tt f t:Int):∀ l:List bO,(∀ r∈l,∀ c∈r.cells,fQ c.flow)→((f,t)∈rz l↔rD f t (rC note tt l))
 | [],_=>by rw [rz,rC,JE];simp
 | x :: l,hx=>by
  have h1:=mem_row note tt f t x (hx x iB);have h2:=OC note tt f t l (fun r hr=>hx r (jU _ hr));rw [rz,rC,lF,h1,h2,Oj]
theorem VD (note:Bool) (tt f t:Int):∀ x:bN,fQ x.flow→((f,t)∈BJ x↔rD f t (Ak note tt x))
 | .mk i h fl,hx=>by
  have h1:=JK i 0 note (tt+1) f t fl hx;have hl:=hx.len
  simp only [bN.flow] at hl
  rw [BJ,Ak,h1,U9]
  simp only [hl]
  refine or_congr ?_ Iff.rfl
  constructor
  ·rintro ⟨e,h2,h3⟩;exact ⟨e,by omega,by omega⟩
  rintro ⟨e,h2,h3⟩;exact ⟨e,by omega,by omega⟩
theorem OB (note:Bool) (tt f t:Int):∀ l:List bN,(∀ c∈l,fQ c.flow)→((f,t)∈xw l↔rD f t (sw note tt l))
 | [],_=>by rw [xw,sw,JE];simp
 | x :: l,hx=>by
  have h1:=VD note tt f t x (hx x iB);have h2:=OB note tt f t l (fun r hr=>hx r (jU _ hr));rw [xw,sw,lF,h1,h2,Oj]
end
mutual
theorem XH (note:Bool) (t:Int):∀ x:ay,((Al note t x).map jL.id).Sublist (zT x)
 | .mk k c i tx h f r=>by
  have hf:=Hy true t f;have hr:=P6 note t r;rw [Al,zT]
  by_cases h6:k=6
  ·rw [au h6,au (.inl h6),au h6,ah (by omega),oW];exact List.Sublist.cons_cons _ hf
  rw [ah h6,ah h6,ko]
  by_cases h7:k=7
  ·rw [au h7,au h7,au (.inr h7)];exact List.Sublist.cons _ hr
  rw [ah h7];exact List.nil_sublist _
theorem Hy (note:Bool) (t:Int):∀ l:List ay,((jk note t l).map jL.id).Sublist (tH l)
 | []=>by rw [jk];exact List.nil_sublist _
 | x :: l=>by
  rw [jk,tH,nD];exact (XH note t x).append (Hy note t l)
theorem XI (note:Bool) (t:Int):∀ x:bO,((Am note t x).map jL.id).Sublist (Bl x)
 | .mk h cs=>by rw [Am,Bl];exact P5 note t cs
theorem P6 (note:Bool) (t:Int):∀ l:List bO,((rC note t l).map jL.id).Sublist (zU l)
 | []=>by rw [rC];exact List.nil_sublist _
 | x :: l=>by
  rw [rC,zU,nD];exact (XI note t x).append (P6 note t l)
theorem XG (note:Bool) (t:Int):∀ x:bN,((Ak note t x).map jL.id).Sublist (Bj x)
 | .mk i h f=>by rw [Ak,Bj];exact List.Sublist.cons_cons _ (Hy note (t+1) f)
theorem P5 (note:Bool) (t:Int):∀ l:List bN,((sw note t l).map jL.id).Sublist (zS l)
 | []=>by rw [sw];exact List.nil_sublist _
 | x :: l=>by
  rw [sw,zS,nD];exact (XG note t x).append (P5 note t l)
end
structure yN (l:List ay):Prop where
 ok:fQ l
 nd:(tH l).Nodup
 pos:∀ i∈tH l,1≤i∧i≤1073741824
theorem yN.of {C:gJ} {body note:Bool} {t n:Int} {l:List ay} {s':CS} (h:iY C body note t l ⟨n,[]⟩=(0,s')):yN l:=by
 have he:=IX C body note t l _ _ h;have hn:=he.nd List.nodup_nil;rw [he.eq] at hn;exact ⟨⟨C,body,note,t,_,_,h⟩,by simpa using hn,he.pos⟩
theorem yN.ids {l:List ay} (h:yN l):((Cw l).map jL.id).Nodup:=by
 have hs:=Hy false 0 l;rw [Cw,eY,List.nodup_cons];exact ⟨fun hm=>by have:=h.pos _ (hs.subset hm);dsimp only at this;omega,hs.nodup h.nd⟩
end
section
open Go.RowKit
def Ay (s:CS) (z:Nat) (r:CR):Prop:=r.2.bE.length≤s.bE.length+z
theorem Ay.and {s:CS} {z y q:Nat} {r:CR} {f:CS→CR} (h:Ay s z r) (hq:z+y≤q) (hf:∀ s,Ay s y (f s)):Ay s q (fG r f):=by
 unfold Ay at *
 unfold fG
 split
 ·omega
 have:=hf r.2
 omega
theorem Ay.zero (s:CS) (e:Int) (q:Nat):Ay s q (e,s):=by unfold Ay;dsimp only;omega
theorem XQ {l:List ay} {k:Nat} (hk:k < l.length):bg (l.drop k)=1+cB l[k].dat+bg (l.drop (k+1)):=by
 simp only [bg];rw [lG hk,eY,eD]
end
section
open Go.RowKit
structure bJ where
 code:Int
 id:Int
 name:ByteArray
 flow:Int
 at_:Int
def bJ.dat (x:bJ):List Dat:=[li x.code,li x.id,.lf (.string x.name),li x.flow,li x.at_]
abbrev bJ.cells (x:bJ):List aj:=[vi x.code,vi x.id,.string x.name,vi x.flow,vi x.at_]
abbrev bJ.val (x:bJ):aj:=.agg #[vi x.code,vi x.id,.string x.name,vi x.flow,vi x.at_]
theorem Rh {G:GH} {x:bJ} {cs:List aj} (h:aY G x.dat cs):cs=x.cells:=by
 simp only [bJ.dat,aY,av] at h
 obtain ⟨_,_,rfl,⟨rfl,_⟩,_,_,rfl,⟨rfl,_⟩,_,_,rfl,⟨rfl,_⟩,_,_,rfl,⟨rfl,_⟩,_,_,rfl,⟨rfl,_⟩,rfl⟩:=h
 rfl
theorem Zb (G:GH) (x:bJ):aY G x.dat x.cells :=
 ⟨_,_,rfl,⟨rfl,rfl⟩,_,_,rfl,⟨rfl,rfl⟩,_,_,rfl,⟨rfl,rfl⟩,_,_,rfl,⟨rfl,rfl⟩,_,_,rfl,⟨rfl,rfl⟩,rfl⟩
mutual
def yR (g:Int) (t:Nat):ay→List bJ
 | .mk k c i tx _ f r=>(if k=8 then [⟨c,i,tx,g,(t:Int)⟩] else [])++((if k=6 then fJ i 0 f else [])++(if k=7 then lW r else []))
/-- The anchors of a flow, and of those in it, in document order. -/
def fJ (g:Int):Nat→List ay→List bJ
 | _,[]=>[]
 | t,x :: l=>yR g t x++fJ g (t+n1 x) l
def lW:List bO→List bJ
 | []=>[]
 | x :: l=>yT x++lW l
def yT:bO→List bJ
 | .mk _ cs=>oo cs
def oo:List bN→List bJ
 | []=>[]
 | x :: l=>yQ x++oo l
def yQ:bN→List bJ
 | .mk i _ f=>fJ i 0 f
end
theorem La (g:Int) (t:Nat) (x:ay):yR g t x=(if x.kind=8 then [⟨x.code,x.id,x.text,g,(t:Int)⟩] else [])++((if x.kind=6 then fJ x.id 0 x.flow else [])++(if x.kind=7 then lW x.rows else [])):=by cases x;rw [yR];rfl
theorem Q5 (x:bO):yT x=oo x.cells:=by cases x;rw [yT];rfl
theorem QZ (x:bN):yQ x=fJ x.id 0 x.flow:=by cases x;rw [yQ];rfl
mutual
theorem YZ (g:Int) (t:Nat):∀ x:ay,(yR g t x).length≤cB x.dat
 | .mk k c i tx h fl r=>by
  have h4:=nZ (.mk k c i tx h fl r);have hf:=yS i 0 fl;have hr:=Lb r;dsimp only [ay.text,ay.head,ay.flow,ay.rows] at h4;rw [yR,lH,lH]
  split <;> split <;> split <;> simp only [nA,List.length_nil] <;> omega
theorem yS (g:Int):∀ (t:Nat) (l:List ay),(fJ g t l).length≤bg l
 | _,[]=>by simp [fJ]
 | t,x :: l=>by
  have h1:=YZ g t x;have h2:=yS g (t+n1 x) l;rw [fJ,lH]
  simp only [bg,eY,eD] at *;omega
theorem Y0:∀ x:bO,(yT x).length≤cB x.dat
 | .mk h cs=>by
  have h4:=Ar (.mk h cs);have hc:=Q0 cs;dsimp only [bO.head,bO.cells] at h4;rw [yT];omega
theorem Lb:∀ l:List bO,(lW l).length≤gT l
 | []=>by simp [lW]
 | x :: l=>by
  have h1:=Y0 x;have h2:=Lb l;rw [lW,lH]
  simp only [gT,eY,eD] at *;omega
theorem YW:∀ x:bN,(yQ x).length≤cB x.dat
 | .mk i h fl=>by
  have h4:=Aq (.mk i h fl);have hf:=yS i 0 fl;dsimp only [bN.head,bN.flow] at h4;rw [yQ];omega
theorem Q0:∀ l:List bN,(oo l).length≤iZ l
 | []=>by simp [oo]
 | x :: l=>by
  have h1:=YW x;have h2:=Q0 l;rw [oo,lH]
  simp only [iZ,eY,eD] at *;omega
end
theorem OG (x:ay):n1 x+bg x.flow+gT x.rows < cB x.dat:=by
 have h1:=nZ x;have h2:=FH x.text
 unfold n1 dV
 split <;> first|omega|(split <;> omega)
def Ci (a:bJ):AP:=fun args _=>args=[a.val]
def Qe (P:Program) (fv:aj) (Gi:GH) (xs:List AP) (J:Nat→GH→OL→Prop):Prop :=
 ∀ k args G L w,tQ xs k args G→(∀ b o,Gi b=some o→G b=some o)→J k G L→gW G L w→sD P fv args w (gF w G L fun _ G' L'=>J (k+1) G' L')
end
section
open Go.RowKit
abbrev oI (p:Int × Int):aj:=.agg #[vi p.1,vi p.2]
def kC:Nat→List ((Int × Int) × aj)→List MapEntry
 | _,[]=>[]
 | i,(k,v) :: r=>⟨oI k,v,i⟩ :: kC (i+1) r
theorem VA (x:(Int × Int) × aj):∀ (i:Nat) (l:List ((Int × Int) × aj)),kC i (l++[x])=kC i l++[⟨oI x.1,x.2,i+l.length⟩]
 | _,[]=>rfl
 | i,k :: r=>by
  rw [nC,kC,VA x (i+1) r,kC,nC,nA,show i+1+r.length=i+(r.length+1) by omega]
def mE (x:Int × Int):List ((Int × Int) × aj)→Option aj
 | []=>none
 | (k,v) :: r=>if k=x then some v else mE x r
theorem Ws {P:Program} {kt:TypeId} (he:yK P kt [0,1]) (w:World) (p q:Int × Int):(Op.equal kt (oI p) (oI q)).run P w=.ok (decide (p=q)) w:=by
 have h1:=O8 (P:=P) (w:=w) (d:=9998) (xs:=#[vi p.1,vi p.2]) (ys:=#[vi q.1,vi q.2]) _ he.ok (by rw [he.sU];rfl)
 rw [he.sU] at h1
 have h2:=run_equalIn_struct w 9999 kt #[vi p.1,vi p.2] #[vi q.1,vi q.2] he.und he.held
 show (Op.equalIn 10000 kt (oI p) (oI q)).run P w=_
 rw [h2,h1]
 congr 1
 obtain ⟨a,b⟩:=p
 obtain ⟨c,d⟩:=q
 rw [nE]
 simp [jq]
theorem O7 {P:Program} {kt:TypeId} (he:yK P kt [0,1]) (w:World) (e:Bool) (p:Int × Int):(Instr.checkKey e 10000 kt (oI p)).run P w=.ok () w:=by
 show (Instr.checkKey e (9999+1) kt (oI p)).run P w=_
 have hok:=he.ok
 have hfl:=he.sU
 rw [Instr.checkKey]
 simp only [bX,run_underlying he.und,jD]
 rw [← Array.forIn_toList]
 have hall:∀ f∈(P.fieldsOf kt).toList,f.name ≠ "_"∧P.plainKey f.type=true∧P.underlying f.type=some (.int .i64)∧∃ m,(#[vi p.1,vi p.2]:Array aj)[f.offset]?=some (.int .i64 m):=by
  intro f hf
  have h1:=kI.1 hok f hf
  simp only [kJ,oq] at h1
  refine ⟨h1.1.1,h1.1.2,?_,?_⟩
  ·have h2:=h1.2
   unfold GJ at h2
   split at h2
   ·assumption
   ·cases h2
  ·have:f.offset∈[0,1]:=by rw [← hfl];exact List.mem_map_of_mem hf
   simp only [lX,List.not_mem_nil,or_false] at this
   rcases this with h|h
   ·rw [h];exact ⟨p.1,rfl⟩
   ·rw [h];exact ⟨p.2,rfl⟩
 clear hok hfl
 generalize (P.fieldsOf kt).toList=fs at hall
 induction fs with
 | nil=>simp
 | cons f fs ih =>
  obtain ⟨hn,hp,hu,m,hm⟩:=hall f iB
  have p1:=run_part_plain w hp hm
  have p2:=MapKept.run_checkKey (P:=P) (w:=w) (k:=.int .i64 m) hu (by trivial) e 9998
  simp only [List.forIn_cons,bX,hn,ne_eq,not_false_eq_true,if_true,jD,p1,p2,oV]
  exact ih fun y hy=>hall y (jU _ hy)
theorem Wt {P:Program} {kt:TypeId} (he:yK P kt [0,1]) (w:World) (x:Int × Int):∀ (i j:Nat) (l:List ((Int × Int) × aj)),∃ an,(Instr.findAsking kt (oI x) (kC i l) j).run P w=.ok an w∧an.map (·.2)=mE x l
 | _,_,[]=>⟨none,by simp [kC,Instr.findAsking],rfl⟩
 | i,j,(k,v) :: r=>by
  obtain ⟨an,h1,h2⟩:=Wt he w x (i+1) (j+1) r
  by_cases e:k=x
  ·subst e
   exact ⟨some (j,v),by simp [kC,Instr.findAsking,Ws he,bX],by rw [mE,au rfl];rfl⟩
  ·exact ⟨an,by simp [kC,Instr.findAsking,Ws he,bX,show ¬ x=k from fun h=>e h.symm,h1],by rw [mE,ah e];exact h2⟩
theorem adq {P:Program} {kt:TypeId} (he:yK P kt [0,1]) (x:aj):∀ (l:List MapEntry) (j:Nat),l≠[]→Instr.findNow (.struct (P.fieldsOf kt)) x l j=none
 | [],_,h=>absurd rfl h
 | e :: l,j,_=>by simp [Instr.findNow,Instr.sameNow]
theorem Pb {P:Program} {kt:TypeId} (he:yK P kt [0,1]) (w:World) (x:Int × Int) (l:List ((Int × Int) × aj)):∃ an,(Instr.findKey kt (oI x) (kC 0 l)).run P w=.ok an w∧an.map (·.2)=mE x l:=by
 obtain ⟨an,h1,h2⟩:=Wt he w x 0 0 l
 refine ⟨an,?_,h2⟩
 unfold Instr.findKey
 simp only [bX,run_underlying he.und,jD]
 cases l with
 | nil=>simp only [kC,Instr.findAsking] at h1 ⊢;simpa [Instr.findNow] using h1
 | cons y l =>
  rw [adq he _ _ _ (by obtain ⟨k,v⟩:=y;simp [kC])]
  exact h1
abbrev Bo (l:List ((Int × Int) × aj)):Obj:=.map (kC 0 l).toArray l.length
section
variable {N:Nat} {D:List Deferred} {w0:World} {F:Nat→Prop} {G0 G:GH} {L:OL} {T:List (Nat × aj)}
variable {r:Option Nat} {P:Program} {ops:Array Oper} {Q:Exit→Act→World→Prop} {rest:List Oper} {a:Act} {w:World}
variable {d:Nat} {ty:TypeId} {pos:String} {aM:Array Edge} {g:Option (Nat × Bool)}
theorem ahF {t kt et:TypeId} {x y:Operand} {b:Nat} {l:List ((Int × Int) × aj)} {ky:Int × Int} {zv:aj} (hm:P.underlying t=some (.map kt et)) (he:yK P kt [0,1]) (hz:(P.info? et).map (fun i=>i.zero)=some (some zv)) (H:St N D w0 F G0 G L T a w)
  (hw:Region.wanted ⟨some d,.lookup t x y false,ty,pos,aM,g⟩ (yielded ops a.tmps)=true) (hx:ev T x=some (.map (some b))) (hy:ev T y=some (oI ky)) (hb:w.heap[b]?=some (Bo l)) (hd:Nat.blt d N=true)
  (k:∀ a',St N D w0 F G0 G L ((d,(mE ky l).getD zv) :: T) a' w→WL r P ops Q rest a' w):WL r P ops Q (⟨some d,.lookup t x y false,ty,pos,aM,g⟩ :: rest) a w:=by
 obtain ⟨an,h2,han⟩:=Pb he w ky l
 obtain ⟨inf,hi1,hi2⟩:=lD.1 hz
 refine fF (v:=(mE ky l).getD zv) (w':=w) hw rfl ?_ (k _ (H.put hd _ H.hp))
 have h1:=O7 he w (kC 0 l).toArray.isEmpty ky
 replace hb:w.heap[b]?=some (.map (kC 0 l).toArray l.length):=hb
 have h2':(Instr.findKey kt (oI ky) (kC 0 l).toArray.toList).run P w=.ok an w:=by simpa using h2
 generalize (kC 0 l).toArray=es at hb h1 h2'
 rw [← han]
 cases an with
 | none=>simp [execOp,Instr.lookup,H.ev hx,H.ev hy,bX,lq hm,MapKept.run_getObj_map hb,h1,h2',Result.andThen,zeroValue,zZ hi1,hi2]
 | some q=>simp [execOp,Instr.lookup,H.ev hx,H.ev hy,bX,lq hm,MapKept.run_getObj_map hb,h1,h2',Result.andThen]
theorem WA {t kt et:TypeId} {x y:Operand} {b:Nat} {l:List ((Int × Int) × aj)} {ky:Int × Int} {zv:aj} (hm:P.underlying t=some (.map kt et)) (he:yK P kt [0,1]) (hz:(P.info? et).map (fun i=>i.zero)=some (some zv)) (H:St N D w0 F G0 G L T a w)
  (hw:Region.wanted ⟨some d,.lookup t x y true,ty,pos,aM,g⟩ (yielded ops a.tmps)=true) (hx:ev T x=some (.map (some b))) (hy:ev T y=some (oI ky)) (hb:w.heap[b]?=some (Bo l)) (hd:Nat.blt d N=true)
  (k:∀ a',St N D w0 F G0 G L ((d,.tuple #[(mE ky l).getD zv,.bool (mE ky l).isSome]) :: T) a' w→WL r P ops Q rest a' w):WL r P ops Q (⟨some d,.lookup t x y true,ty,pos,aM,g⟩ :: rest) a w:=by
 obtain ⟨an,h2,han⟩:=Pb he w ky l
 obtain ⟨inf,hi1,hi2⟩:=lD.1 hz
 refine fF (v:=.tuple #[(mE ky l).getD zv,.bool (mE ky l).isSome]) (w':=w) hw rfl ?_ (k _ (H.put hd _ H.hp))
 have h1:=O7 he w (kC 0 l).toArray.isEmpty ky
 replace hb:w.heap[b]?=some (.map (kC 0 l).toArray l.length):=hb
 have h2':(Instr.findKey kt (oI ky) (kC 0 l).toArray.toList).run P w=.ok an w:=by simpa using h2
 generalize (kC 0 l).toArray=es at hb h1 h2'
 rw [← han]
 cases an with
 | none=>simp [execOp,Instr.lookup,H.ev hx,H.ev hy,bX,lq hm,MapKept.run_getObj_map hb,h1,h2',Result.andThen,zeroValue,zZ hi1,hi2]
 | some q=>simp [execOp,Instr.lookup,H.ev hx,H.ev hy,bX,lq hm,MapKept.run_getObj_map hb,h1,h2',Result.andThen]
theorem ahI {t kt et:TypeId} {x y z:Operand} {b i:Nat} {l:List ((Int × Int) × aj)} {ky:Int × Int} {v:aj} (hm:P.underlying t=some (.map kt et)) (he:yK P kt [0,1]) (H:St N D w0 F G0 G L T a w)
  (hw:Region.wanted ⟨none,.mapUpdate t x y z,ty,pos,aM,g⟩ (yielded ops a.tmps)=true) (hx:ev T x=some (.map (some b))) (hy:ev T y=some (oI ky)) (hzv:ev T z=some v) (hi:L[i]?=some (b,Bo l)) (hn:mE ky l=none)
  (k:∀ w',St N D w0 F G0 G (L.set i (b,Bo (l++[(ky,v)]))) T a w'→WL r P ops Q rest a w'):WL r P ops Q (⟨none,.mapUpdate t x y z,ty,pos,aM,g⟩ :: rest) a w:=by
 obtain ⟨an,h2,han⟩:=Pb he w ky l
 have hnone:an=none:=by
  rw [hn] at han
  cases an with
  | none=>rfl
  | some q=>cases han
 subst hnone
 have hb:w.heap[b]?=some (.map (kC 0 l).toArray l.length):=H.hp.own _ (kT hi)
 have h1:=O7 he w false ky
 have h2':(Instr.findKey kt (oI ky) (kC 0 l).toArray.toList).run P w=.ok none w:=by simpa using h2
 have e:(kC 0 l).toArray.push ⟨oI ky,v,l.length⟩=(kC 0 (l++[(ky,v)])).toArray:=by
  rw [VA,List.push_toArray,kK]
 refine P9 (w':={ w with heap:=w.heap.setIfInBounds b (.map ((kC 0 l).toArray.push ⟨oI ky,v,l.length⟩) (l.length+1)) }) hw rfl ?_ ?_
 ·generalize (kC 0 l).toArray=es at hb h2'
  simp [execOp,Instr.mapUpdate,H.ev hx,H.ev hy,H.ev hzv,bX,lq hm,MapKept.run_getObj_map hb,h1,h2',MapKept.run_setObj_map _ hb,Result.andThen]
 ·refine k _ ?_
  have H':=H.move (H.hp.upd hi (Xy (o:=.map ((kC 0 l).toArray.push ⟨oI ky,v,l.length⟩) (l.length+1)) hb))
  rw [e] at H' ⊢
  rw [Bo,lH]
  exact H'
end
end
section
open Go.RowKit
theorem EC {f t:Int} {L:List jL} (h:rD f t L):f∈L.map jL.id:=by
 obtain ⟨F,hF,rfl,-⟩:=h;exact List.mem_map_of_mem hF
theorem MN {g:Int} {at_:Nat} {l:List ay} (h:fQ l) {p:Int × Int} (hp:p∈uP g at_ l):(g=p.1∧(at_:Int)≤p.2)∨p.1∈tH l:=by
 rcases (JK g at_ false 0 p.1 p.2 l h).1 hp with ⟨h1,h2,-⟩|h1
 ·exact .inl ⟨h1,h2⟩
 exact .inr ((Hy false 0 l).subset (EC h1))
theorem adJ {g:Int} {at_:Nat} {x:ay} (h:xD x) {p:Int × Int} (hp:p∈BK g at_ x):(g=p.1∧p.2 < at_+dV x)∨p.1∈zT x:=by
 rcases (VE g at_ false 0 p.1 p.2 x h).1 hp with ⟨h1,-,h2⟩|h1
 ·exact .inl ⟨h1,h2⟩
 exact .inr ((XH false 0 x).subset (EC h1))
theorem TT {l:List bO} (h:∀ r∈l,∀ c∈r.cells,fQ c.flow) {p:Int × Int} (hp:p∈rz l):p.1∈zU l:=(P6 false 0 l).subset (EC ((OC false 0 p.1 p.2 l h).1 hp))
theorem adK {x:bO} (h:∀ c∈x.cells,fQ c.flow) {p:Int × Int} (hp:p∈BL x):p.1∈Bl x:=(XI false 0 x).subset (EC ((mem_row false 0 p.1 p.2 x h).1 hp))
theorem adI {l:List bN} (h:∀ c∈l,fQ c.flow) {p:Int × Int} (hp:p∈xw l):p.1∈zS l:=(P5 false 0 l).subset (EC ((OB false 0 p.1 p.2 l h).1 hp))
theorem adH {x:bN} (h:fQ x.flow) {p:Int × Int} (hp:p∈BJ x):p.1∈Bj x:=(XG false 0 x).subset (EC ((VD false 0 p.1 p.2 x h).1 hp))
theorem JN (g:Int) (a:Nat):∀ u:Nat,((List.range u).map fun q=>(g,((a+q:Nat):Int))).Nodup
 | 0=>List.nodup_nil
 | u+1=>by
  rw [List.range_succ,nD,List.nodup_append];refine ⟨JN g a u,by simp,fun p hp q hq=>?_⟩;obtain ⟨i,hi,rfl⟩:=List.mem_map.1 hp;have hi:=nN.1 hi
  simp only [eY,oZ,rG] at hq
  subst hq;intro e
  injection e with _ e
  omega
mutual
theorem agz (g:Int) (at_:Nat):∀ x:ay,xD x→(zT x).Nodup→g∉zT x→(BK g at_ x).Nodup
 | .mk k c i tx h fl r,hx,hn,hg=>by
  have hf:=JM i 0 fl hx.fl;have hr:=VL r hx.rw;have h0:=hx.J2;have hxf:fQ fl:=hx.fl;have JC:∀ q∈r,∀ c∈q.cells,fQ c.flow:=hx.rw
  simp only [ay.kind,ay.rows] at h0
  rw [zT] at hn hg;rw [BK]
  by_cases h6:k=6
  ·rw [au (.inl h6),au h6,ah (show ¬ k=7 by omega),oW] at hn hg;rw [au h6,h0 (by omega),rz,oW]
   simp only [nC,ko,List.nodup_cons,lX,not_or] at hn hg
   rw [List.nodup_append];refine ⟨JN _ _ _,hf hn.2 hn.1,fun p hp q hq e=>?_⟩;subst e;obtain ⟨j,-,rfl⟩:=List.mem_map.1 hp
   rcases MN hxf hq with ⟨h1,-⟩|h1
   ·exact hg.1 h1.symm
   exact hg.2 h1
  rw [ah h6,ko]
  by_cases h7:k=7
  ·rw [au (.inr h7),ah h6,au h7,ko] at hn hg
   simp only [nC,ko,List.nodup_cons,lX,not_or] at hn hg
   rw [List.nodup_append];refine ⟨JN _ _ _,hr hn.2,fun p hp q hq e=>?_⟩;subst e;obtain ⟨j,-,rfl⟩:=List.mem_map.1 hp;exact hg.2 (TT JC hq)
  rw [h0 h7,rz,oW];exact JN _ _ _
theorem JM (g:Int) (at_:Nat):∀ l:List ay,fQ l→(tH l).Nodup→g∉tH l→(uP g at_ l).Nodup
 | [],_,_,_=>by rw [uP];simp
 | x :: l,hl,hn,hg=>by
  obtain ⟨hx,hl⟩:=hl.head;rw [tH,List.nodup_append] at hn;rw [tH,lF,not_or] at hg;rw [uP,List.nodup_append];refine ⟨agz g at_ x hx hn.1 hg.1,JM g (at_+n1 x) l hl hn.2.1 hg.2,fun p hp q hq e=>?_⟩;subst e
  rcases adJ hx hp with ⟨h1,h2⟩|h1
  ·rcases MN hl hq with ⟨h3,h4⟩|h3
   ·rw [hx.n1] at h4;push_cast at h4;omega
   exact hg.2 (h1 ▸ h3)
  rcases MN hl hq with ⟨h3,h4⟩|h3
  ·exact hg.1 (h3 ▸ h1)
  exact hn.2.2 _ h1 _ h3 rfl
theorem agA:∀ x:bO,(∀ c∈x.cells,fQ c.flow)→(Bl x).Nodup→(BL x).Nodup
 | .mk h cs,hx,hn=>by
  rw [Bl] at hn;rw [BL];exact VK cs hx hn
theorem VL:∀ l:List bO,(∀ r∈l,∀ c∈r.cells,fQ c.flow)→(zU l).Nodup→(rz l).Nodup
 | [],_,_=>by rw [rz];exact List.nodup_nil
 | x :: l,hx,hn=>by
  rw [zU,List.nodup_append] at hn;rw [rz,List.nodup_append];exact ⟨agA x (hx x iB) hn.1,VL l (fun r hr=>hx r (jU _ hr)) hn.2.1,fun p hp q hq e=>hn.2.2 _ (adK (hx x iB) hp) _ (TT (fun r hr=>hx r (jU _ hr)) hq) (by rw [e])⟩
theorem agy:∀ x:bN,fQ x.flow→(Bj x).Nodup→(BJ x).Nodup
 | .mk i h fl,hx,hn=>by
  rw [Bj,List.nodup_cons] at hn;rw [BJ];exact JM i 0 fl hx hn.2 hn.1
theorem VK:∀ l:List bN,(∀ c∈l,fQ c.flow)→(zS l).Nodup→(xw l).Nodup
 | [],_,_=>by rw [xw];exact List.nodup_nil
 | x :: l,hx,hn=>by
  rw [zS,List.nodup_append] at hn;rw [xw,List.nodup_append];exact ⟨agy x (hx x iB) hn.1,VK l (fun r hr=>hx r (jU _ hr)) hn.2.1,fun p hp q hq e=>hn.2.2 _ (adH (hx x iB) hp) _ (adI (fun r hr=>hx r (jU _ hr)) hq) (by rw [e])⟩
end
theorem yN.vnd {l:List ay} (h:yN l):(uP 0 0 l).Nodup:=JM 0 0 l h.ok h.nd fun hm=>by have:=h.pos _ hm;omega
end
section
open Go.RowKit
theorem bJ.eq_iff (a b:bJ):(a.code=b.code∧a.id=b.id∧a.name=b.name∧a.flow=b.flow∧a.at_=b.at_)↔a=b:=by cases a;cases b;simp
instance:DecidableEq bJ:=fun a b=>decidable_of_iff _ (bJ.eq_iff a b)
def mo (l:List bJ) (c i:Int):Option bJ:=l.find? fun a=>decide (a.code=c∧a.id=i)
theorem TU {l:List bJ} {k:Nat} (hk:k < l.length) (c i:Int):mo (l.take (k+1)) c i=(mo (l.take k) c i).or (if l[k].code=c∧l[k].id=i then some l[k] else none):=by
 unfold mo
 rw [jE hk,List.find?_append,List.find?_cons,List.find?_nil]
 by_cases h:l[k].code=c∧l[k].id=i
 ·rw [au h,jT h]
 rw [ah h,jm h]
theorem Vr (p q:Int × Int) (v:aj):∀ l:List ((Int × Int) × aj),mE p (l++[(q,v)])=(mE p l).or (if q=p then some v else none)
 | []=>by
  by_cases h:q=p
  ·simp [mE,h]
  simp [mE,h]
 | (k,u) :: r=>by
  rw [nC,mE,mE]
  by_cases h:k=p
  ·rw [au h,au h];rfl
  rw [ah h,ah h];exact Vr p q v r
def tT (acc:List ((Int × Int) × aj)) (l:List bJ):Prop:=∀ p:Int × Int,mE p acc=(mo l p.1 p.2).map bJ.val
theorem tT.nil:tT [] []:=fun _=>rfl
theorem tT.new {acc:List ((Int × Int) × aj)} {l:List bJ} {k:Nat} (h:tT acc (l.take k)) (hk:k < l.length) (hn:mE (l[k].code,l[k].id) acc=none):tT (acc++[((l[k].code,l[k].id),l[k].val)]) (l.take (k+1)):=by
 intro p;rw [Vr,h p,TU hk]
 by_cases e:(l[k].code,l[k].id)=p
 ·subst e;rw [au rfl,au ⟨rfl,rfl⟩];rw [h] at hn
  cases hf:mo (l.take k) l[k].code l[k].id with
  | none=>rfl
  | some x=>rw [hf] at hn;cases hn
 rw [ah e,ah (fun h=>e (Prod.ext h.1 h.2))]
 cases mo (l.take k) p.1 p.2 <;> rfl
theorem tT.old {acc:List ((Int × Int) × aj)} {l:List bJ} {k:Nat} (h:tT acc (l.take k)) (hk:k < l.length) (hn:(mE (l[k].code,l[k].id) acc).isSome=true):tT acc (l.take (k+1)):=by
 intro p;rw [h p,TU hk]
 by_cases e:l[k].code=p.1∧l[k].id=p.2
 ·rw [h,Option.isSome_map] at hn;rw [e.1,e.2] at hn;obtain ⟨x,hx⟩:=Option.isSome_iff_exists.1 hn;rw [hx];rfl
 rw [ah e,Option.or_none]
structure iP where
 id:Int
 name:ByteArray
 ff:Int
 fa:Int
 tf:Int
 ta:Int
def iP.dat (x:iP):List Dat:=[li x.id,.lf (.string x.name),li x.ff,li x.fa,li x.tf,li x.ta]
abbrev iP.cells (x:iP):List aj:=[vi x.id,.string x.name,vi x.ff,vi x.fa,vi x.tf,vi x.ta]
theorem Xa {G:GH} {x:iP} {cs:List aj} (h:aY G x.dat cs):cs=x.cells:=by
 simp only [iP.dat,aY,av] at h
 obtain ⟨_,_,rfl,⟨rfl,_⟩,_,_,rfl,⟨rfl,_⟩,_,_,rfl,⟨rfl,_⟩,_,_,rfl,⟨rfl,_⟩,_,_,rfl,⟨rfl,_⟩,_,_,rfl,⟨rfl,_⟩,rfl⟩:=h
 rfl
theorem Xb (G:GH) (x:iP):aY G x.dat x.cells :=
 ⟨_,_,rfl,⟨rfl,rfl⟩,_,_,rfl,⟨rfl,rfl⟩,_,_,rfl,⟨rfl,rfl⟩,_,_,rfl,⟨rfl,rfl⟩,_,_,rfl,⟨rfl,rfl⟩,_,_,rfl,⟨rfl,rfl⟩,rfl⟩
def zk (l:List bJ) (c:Int) (a:bJ):Int × Int:=match mo l (c+1) a.id with
 | some e=>if e.flow=a.flow∧a.at_ < e.at_ then (e.flow,e.at_) else (a.flow,a.at_+1)
 | none=>(a.flow,a.at_+1)
def wY (l:List bJ) (c:Int) (a:bJ):iP:=⟨a.id,a.name,a.flow,a.at_+1,(zk l c a).1,(zk l c a).2⟩
def nU (l:List bJ) (c:Int) (a:bJ):Bool:=decide (a.code=c∧mo l c a.id=some a)
def qx (l:List bJ) (c:Int):List iP:=(l.filter (nU l c)).map (wY l c)
theorem W9 {l m:List bJ} {c:Int} {k:Nat} (hk:k < l.length):((l.take (k+1)).filter (nU m c)).map (wY m c)=((l.take k).filter (nU m c)).map (wY m c)++if nU m c l[k]=true then [wY m c l[k]] else []:=by
 rw [jE hk,List.filter_append,nD]
 congr 1
 by_cases h:nU m c l[k]=true
 ·rw [au h,List.filter_cons,au h];rfl
 rw [ah h,List.filter_cons,ah h];rfl
mutual
theorem Zh (g:Int) (t:Nat):∀ x:ay,xD x→((yR g t x).map fun a=>(a.flow,a.at_)).Sublist (BK g t x)
 | .mk k c i tx h fl r,hx=>by
  have hf:=IB i 0 fl hx.fl;have hr:=Rq r hx.rw;have h0:=hx.J2
  simp only [ay.kind,ay.rows] at h0
  rw [yR,BK,nD,nD];have hn:=hx.n1
  by_cases h8:k=8
  ·subst h8
   have hu:dV (.mk 8 c i tx h fl r)=1:=by unfold dV;rw [ah (by simp [ay.kind])]
   rw [hn,hu,au rfl,ah (by omega),ah (by omega),h0 (by omega),rz,show List.range 1=[0] from rfl]
   simp
  rw [ah h8,oZ,ko];refine List.Sublist.trans ?_ (List.sublist_append_right _ _)
  by_cases h6:k=6
  ·rw [au h6,au h6,ah (by omega),oZ,oW];exact hf.trans (List.sublist_append_left _ _)
  rw [ah h6,ah h6,oZ,ko,ko]
  by_cases h7:k=7
  ·rw [au h7];exact hr
  rw [ah h7];exact List.nil_sublist _
theorem IB (g:Int):∀ (t:Nat) (l:List ay),fQ l→((fJ g t l).map fun a=>(a.flow,a.at_)).Sublist (uP g t l)
 | _,[],_=>by rw [fJ];exact List.nil_sublist _
 | t,x :: l,hl=>by
  obtain ⟨hx,hl⟩:=hl.head;rw [fJ,uP,nD,hx.n1];have h2:=IB g (t+n1 x) l hl;rw [hx.n1] at h2;exact (Zh g t x hx).append h2
theorem Rq:∀ l:List bO,(∀ r∈l,∀ c∈r.cells,fQ c.flow)→((lW l).map fun a=>(a.flow,a.at_)).Sublist (rz l)
 | [],_=>by rw [lW];exact List.nil_sublist _
 | x :: l,h=>by
  rw [lW,rz,nD];exact (Zi x (h x iB)).append (Rq l fun r hr=>h r (jU _ hr))
theorem Zi:∀ x:bO,(∀ c∈x.cells,fQ c.flow)→((yT x).map fun a=>(a.flow,a.at_)).Sublist (BL x)
 | .mk hd cs,h=>by rw [yT,BL];exact Rp cs h
theorem Rp:∀ l:List bN,(∀ c∈l,fQ c.flow)→((oo l).map fun a=>(a.flow,a.at_)).Sublist (xw l)
 | [],_=>by rw [oo];exact List.nil_sublist _
 | x :: l,h=>by
  rw [oo,xw,nD];exact (Zg x (h x iB)).append (Rp l fun r hr=>h r (jU _ hr))
theorem Zg:∀ x:bN,fQ x.flow→((yQ x).map fun a=>(a.flow,a.at_)).Sublist (BJ x)
 | .mk i hd fl,h=>by rw [yQ,BJ];exact IB i 0 fl h
end
end
section
open Go.RowKit
section
variable {N:Nat} {D:List Deferred} {w0:World} {F:Nat→Prop} {G0 G:GH} {L Lo:OL} {T:List (Nat × aj)}
variable {r:Option Nat} {P:Program} {ops:Array Oper} {Q:Exit→Act→World→Prop} {rest:List Oper} {a:Act} {w:World}
variable {d:Nat} {ty:TypeId} {pos:String} {aM:Array Edge} {g:Option (Nat × Bool)}
end
end
section
open Go.RowKit
theorem Mq:∀ args w,(callFunc 34 args).run prog w=.ok (.enter 34 args) w:=enters func34 rfl (by kernel_rfl)
theorem PD:oU prog 45 [(0,1),(1,1)] [.int .i64 0,.int .i64 0]:=⟨by kernel_rfl,by kernel_rfl⟩
theorem Xf:oU prog 47 [(0,1),(1,1),(2,1),(3,2)] [.int .i64 0,.int .i64 0,.string ⟨#[]⟩,.int .i64 0,.int .i64 0]:=⟨by kernel_rfl,by kernel_rfl⟩
theorem Sz:∀ args w,(callFunc 18 args).run prog w=.ok (.enter 18 args) w:=enters func18 rfl (by kernel_rfl)
def KH (n:Nat):Prop:=∀ (fv:aj) (Gi:GH) (xs:List AP) (J:Nat→GH→OL→Prop) (G:GH) (L:OL) (w0:World) (j:Nat) (g:Int) (l:List ay) (v:aj),
 (∀ b o,Gi b=some o→G b=some o)→Qe prog fv Gi xs J→BS J→J j G L→gW G L w0→av G (.sl 11 (l.map ay.dat)) v→fQ l→bg l < n→(∀ i a,(fJ g 0 l)[i]?=some a→xs[j+i]?=some (Ci a)) →
 Calls prog 34 #[vi g,v,fv] w0 (gF w0 G L fun _ G' L'=>J (j+(fJ g 0 l).length) G' L')
set_option maxHeartbeats 4000000 in
theorem Zj {n:Nat} (ih:KH n) (hn:n≤4294967296):KH (n+1):=by
 intro fv Gi xs J G L w0 j0 g l v hGi hcb uz hJ0 hO hv hok hz hx0;obtain ⟨A,c,rfl,hc1,hc2,hg⟩:=hv.slice;rw [bT] at *;have hll:=BM l;have hml:maxLen=9223372036854775807:=rfl;refine jN (N:=83) (T:=[(0,_),(1,_),(2,_)]) func34 rfl ntmps34 rfl rfl hO ?_;intro a H;refine kP H (SR fun _ K1=>ak K1 rfl (SR fun _ K2=>Rm rfl (Rl gI rfl (Rm rfl (Kz K2 (SB ?_))))));clear H K1 K2;intro a H;skip;refine eZ (ι:=Nat × Nat × Nat × OL × GH) (Tc:=[(0,_),(1,_),(2,_),(15,_),(16,_)]) (Lc:=[]) (fun gh=>[(6,vi gh.2.1),(17,vi gh.1)]) (fun gh=>[]++gh.2.2.2.1) (fun gh=>gh.2.2.2.2) (fun gh=>gh.1≤l.length∧(∀ b o,G b=some o→gh.2.2.2.2 b=some o)∧fQ (l.drop gh.1)∧gh.2.1+bg (l.drop gh.1)≤4294967297∧Now xs Ci J (j0+(fJ g 0 l).length) gh.2.2.1 (fJ g gh.2.1 (l.drop gh.1)) gh.2.2.2.2 gh.2.2.2.1) (fun gh=>l.length - gh.1) ((0,0,j0,L,G)) (by exact (H).sub ⟨rfl,rfl,rfl,rfl,rfl,rfl,rfl,aB⟩) ?_ ?_
 ·exact ⟨by omega,fun _ _ h=>h,hok,by dsimp only;rw [tZ];omega,⟨hJ0,hx0,rfl⟩⟩
 clear H;intro gh a w hI H;obtain ⟨k,t,j,Lt,g1⟩:=gh;dsimp only at hI H;obtain ⟨hk,hgm,hok1,hat,dX⟩:=hI;dsimp only [lca,aZ] at H;refine kP H (SR fun _ K3=>Rc rfl (Kz K3 (SQ fun _ K4=>Cd rfl ?_ ?_))) <;> clear H K3
 ·intro h18 a H
  try have vK:=dT h18
  have hk2:k < l.length:=by omega
  obtain ⟨b,o,pA,pn,pc,dA,dn,dc,yA,yn,yc,fA,fn,fc,rA,rn,rc,rfl,hrow,hhd,hfl,hrw⟩:=zw hk2 hg;replace hrow:=fun j u hj=>aK hgm (hrow j u hj);replace hfl:=hfl.mono hgm;replace hrw:=hrw.mono hgm;have hpart:=(hv.mono hgm).part k (k+1) (by omega) (by rw [bT];omega)
  have he1:((l.map ay.dat).drop k).take 1=[l[k]].map ay.dat:=by rw [lG (by simpa using hk2)];simp
  have hc3:¬ c=k:=by omega
  have hrn:=hrw.len;rw [bT] at hrn;subst hrn;have hzs:=XQ hk2;have hzi:=nZ l[k];have JD:=HY (iQ hk2);have CY:=OG l[k];rw [lG hk2] at hok1 dX;obtain ⟨hox,hok2⟩:=hok1.head;have hn1:=hox.n1;rw [fJ,La] at dX;obtain ⟨x,hx⟩:∃ x,x=l[k]:=⟨_,rfl⟩;rw [← hx] at dX hox hrow hhd hfl hrw hzs hzi JD CY he1 hn1;have hrl:=H6 x.rows;refine kP H (Kc K4 (SQ fun _ K5=>SB (SR fun _ K6=>Rm rfl (Ri gI dB rfl rfl ?_))));clear H K4;intro a H;refine bD dB (cs:=[_,_,_,_,_,_,_,_,_,_,_]) H wn rfl rfl (fun j v hj=>H.hp.aJ (hrow j v hj)) rfl ?_;clear H;intro a H;refine eU dB H wn rfl ?_;clear H;intro b8 a w F9 H;refine kH H (Ra rfl ?_);clear H;intro a H;refine bF dB 0 (vs:=[_,_,_,_,_,_,_,_,_,_,_]) _ H wn rfl rfl rfl rfl rfl rfl rfl rfl ?_;clear H;intro w H;dsimp only [List.set,setRow] at H;refine K6 _ _ ?_;clear K6;refine qd (ι:=Nat × OL × GH) (Tc:=[(0,_),(1,_),(2,_),(6,_),(7,_),(15,_),(16,_),(17,_)]) (Lc:=[(_,_)]) (fun gh=>[]) (fun gh=>[]++gh.2.1) (fun gh=>gh.2.2) (fun gh=>(∀ b o,g1 b=some o→gh.2.2 b=some o)∧Now xs Ci J (j0+(fJ g 0 l).length) gh.1 (fJ g (t+n1 x) (l.drop (k+1))) gh.2.2 gh.2.1) (by exact (H).sub ⟨rfl,rfl,rfl,rfl,rfl,rfl,rfl,rfl,aB⟩) ?_ ?_
  ·skip;refine kP H (SR fun _ K7=>aR jh aG 0 rfl rfl (Kz K7 (SB (SR fun _ K8=>Rc rfl (ak K8 rfl (Cd rfl ?_ ?_)))))) <;> clear H K7 K8
   ·intro dQ a H
    try have jO:=dT dQ
    rw [au jO,ah (by omega),ah (by omega)] at dX
    simp only [nC,ko] at dX
    refine kP H (SC (Rm rfl (aR Cv aG 0 rfl rfl (aR zq aG 0 rfl rfl (aR sS fZ 0 rfl rfl (Rm rfl (Rm rfl ?_)))))));clear H;intro a H;refine jJ PD [_,_] H wn rfl rfl rfl rfl ?_;clear H;intro a H;refine jJ Xf [_,_,_,_,_] H wn rfl rfl rfl rfl ?_;clear H;intro a H;refine EM (Li:=[_]) (L:=Lt) H wn rfl rfl (hcb _ _ _ _ _ ⟨_,dX.head,rfl⟩ (fun b o h=>hgm b o (hGi b o h)) dX.now (Hp.owns (Li:=[_]) H.hp)) rfl ?_;clear H;intro v37 Yk YQ a w adZ aeL H;have qO:=dX.step adZ;refine aH ?_;refine ⟨(j+1,YQ,Yk),by exact (H).sub ⟨rfl,rfl,rfl,rfl,rfl,rfl,rfl,rfl,aB⟩,?_⟩;(try dsimp only);exact ⟨aeL,qO⟩
   intro dQ a H
   try have jO:=dF dQ
   rw [ah jO,ko,ou] at dX;refine kP H (SR fun _ K9=>Rc rfl (ak K9 rfl (Cd rfl ?_ ?_))) <;> clear H K9
   ·intro nP a H
    try have p38:=dT nP
    rw [au p38,ah (by omega),ko] at dX;refine kP H (SC (aR zq aG 0 rfl rfl (aR xR gZ 0 rfl rfl (Rm rfl ?_))));clear H;intro a H;refine gN Mq (Li:=[_]) (L:=Lt) H wn rfl (ih fv Gi xs J _ _ _ j x.id x.flow _ (fun b o h=>hgm b o (hGi b o h)) hcb uz dX.now (Hp.owns (Li:=[_]) H.hp) hfl hox.fl (by omega) dX.part) rfl ?_;clear H;intro v45 KP YS a w aea NK H;have qO:=dX.jump aea;refine aH ?_;refine ⟨(j+(fJ x.id 0 x.flow).length,YS,KP),by exact (H).sub ⟨rfl,rfl,rfl,rfl,rfl,rfl,rfl,rfl,aB⟩,?_⟩;(try dsimp only);exact ⟨NK,qO⟩
   intro nP a H
   try have p38:=dF nP
   rw [ah p38,ko] at dX;refine kP H (SR fun _ aS=>Rc rfl (ak aS rfl (Cd rfl ?_ ?_))) <;> clear H aS
   ·intro h46 a H
    try have p46:=dT h46
    rw [au p46] at dX;refine kP H (SR fun _ bA=>aR qg qz 0 rfl rfl (Rl mG rfl (Rm rfl (Kz bA (SB ?_)))));clear H bA;intro a H;skip;refine eZ (ι:=Nat × Nat × OL × GH) (Tc:=[(0,_),(1,_),(2,_),(6,_),(7,_),(15,_),(16,_),(17,_),(49,_),(50,_)]) (Lc:=[(_,_)]) (fun gh=>[(51,vi gh.1)]) (fun gh=>[]++gh.2.2.1) (fun gh=>gh.2.2.2) (fun gh=>gh.1≤x.rows.length∧(∀ b o,g1 b=some o→gh.2.2.2 b=some o)∧Now xs Ci J (j0+(fJ g 0 l).length) gh.2.1 (lW (x.rows.drop gh.1)++fJ g (t+n1 x) (l.drop (k+1))) gh.2.2.2 gh.2.2.1) (fun gh=>x.rows.length - gh.1) ((0,j,Lt,g1)) (by exact (H).sub ⟨rfl,rfl,rfl,rfl,rfl,rfl,rfl,rfl,rfl,rfl,rfl,aB⟩) ?_ ?_
    ·exact ⟨by omega,fun _ _ h=>h,dX⟩
    clear H;intro gh a w hI H;obtain ⟨rk,j3,Lt3,g3⟩:=gh;dsimp only at hI H;obtain ⟨JB,hg3,qO⟩:=hI;dsimp only [lca,aZ] at H;refine kP H (SR fun _ bK=>Rc rfl (Kz bK (SQ fun _ bR=>Cd rfl ?_ ?_))) <;> clear H bK
    ·intro mI a H
     try have p52:=dT mI
     have hk3:rk < x.rows.length:=by omega
     obtain ⟨b2,o2,qA,qn,qc,eA,en,ec,zA,zn,zc,cA,cn,cc,rfl,hrow,zR,hcl⟩:=GV hk3 (hrw.mono hg3).at_;have hcn:=hcl.len;rw [bT] at hcn;subst hcn;have hsz2:=KF hk3;have hcs:=Hz x.rows[rk].cells;have hoc:=hox.rw _ (iQ hk3);rw [lG hk3] at qO
     simp only [lW,Q5,ou] at qO
     obtain ⟨y,hy⟩:∃ y,y=x.rows[rk]:=⟨_,rfl⟩;rw [← hy] at qO hrow zR hcl hsz2 hcs hoc;refine kP H (Kc bR (SQ fun _ bP=>SB (SR fun _ dJ=>Ri mG jQ rfl rfl ?_)));clear H bR;intro a H;refine bD jQ (cs:=[_,_,_,_,_,_]) H wn rfl rfl (fun j v hj=>H.hp.aJ (hrow j v hj)) rfl ?_;clear H;intro a H;refine eU jQ H wn rfl ?_;clear H;intro b10 a w F7 H;refine bF jQ 0 (vs:=[_,_,_,_,_,_]) _ H wn rfl rfl rfl rfl rfl rfl rfl rfl ?_;clear H;intro w H;dsimp only [List.set,setRow] at H;refine dJ _ _ ?_;clear dJ;refine kP H (SR fun _ dN=>aR vC vQ 0 rfl rfl (Rl pU rfl (Rm rfl (Kz dN (SB ?_)))));clear H dN;intro a H;skip;refine eZ (ι:=Nat × Nat × OL × GH) (Tc:=[(0,_),(1,_),(2,_),(6,_),(7,_),(15,_),(16,_),(17,_),(49,_),(50,_),(51,_),(56,_),(57,_)]) (Lc:=[(_,_),(_,_)]) (fun gh=>[(58,vi gh.1)]) (fun gh=>[]++gh.2.2.1) (fun gh=>gh.2.2.2) (fun gh=>gh.1≤y.cells.length∧(∀ b o,g3 b=some o→gh.2.2.2 b=some o)∧Now xs Ci J (j0+(fJ g 0 l).length) gh.2.1 (oo (y.cells.drop gh.1)++(lW (x.rows.drop (rk+1))++fJ g (t+n1 x) (l.drop (k+1)))) gh.2.2.2 gh.2.2.1) (fun gh=>y.cells.length - gh.1) ((0,j3,Lt3,g3)) (by exact (H).sub ⟨rfl,rfl,rfl,rfl,rfl,rfl,rfl,rfl,rfl,rfl,rfl,rfl,rfl,rfl,aB⟩) ?_ ?_
     ·exact ⟨by omega,fun _ _ h=>h,qO⟩
     clear H;intro gh a w hI H;obtain ⟨ck,j4,Lt4,g4⟩:=gh;dsimp only at hI H;obtain ⟨hck,hg4,rV⟩:=hI;dsimp only [lca,aZ] at H;refine kP H (SR fun _ dx=>Rc rfl (Kz dx (SQ fun _ eu=>Cd rfl ?_ ?_))) <;> clear H dx
     ·intro gX a H
      try have p59:=dT gX
      have hk4:ck < y.cells.length:=by omega
      obtain ⟨b3,o3,sA,sn,sc,tA,tn,tc,uA,un,uc,gA,gn,gc,rfl,hrow,hch,hcf⟩:=FB hk4 (hcl.mono hg4).at_;have Oa:=KE hk4;have Jv:=hoc _ (iQ hk4);rw [lG hk4] at rV
      simp only [oo,QZ,ou] at rV
      refine kP H (Kc eu (SQ fun _ gy=>SB (SR fun _ fu=>Ri pU lT rfl rfl ?_)));clear H eu;intro a H;refine bD lT (cs:=[_,_,_,_,_,_,_]) H wn rfl rfl (fun j v hj=>H.hp.aJ (hrow j v hj)) rfl ?_;clear H;intro a H;refine eU lT H wn rfl ?_;clear H;intro b12 a w Bc H;refine bF lT 0 (vs:=[_,_,_,_,_,_,_]) _ H wn rfl rfl rfl rfl rfl rfl rfl rfl ?_;clear H;intro w H;dsimp only [List.set,setRow] at H;refine fu _ _ ?_;clear fu;refine kP H (SC (aR FX aG 0 rfl rfl (aR Ej gZ 0 rfl rfl (Rm rfl ?_))));clear H;intro a H;refine gN Mq (Li:=[_,_,_]) (L:=Lt4) H wn rfl (ih fv Gi xs J _ _ _ j4 y.cells[ck].id y.cells[ck].flow _ (fun b o h=>hg4 b o (hg3 b o (hgm b o (hGi b o h)))) hcb uz rV.now (Hp.owns (Li:=[_,_,_]) H.hp) hcf Jv (by omega) rV.part) rfl ?_;clear H;intro v67 Yv YT a w aeb aeR H;have aeZ:=rV.jump aeb;refine kH H (Kn gy (SC (Rd rfl (Rm rfl ?_))));clear H gy;intro a H;refine aH ?_;refine dw ((ck+1,j4+(fJ y.cells[ck].id 0 y.cells[ck].flow).length,YT,Yv)) (by exact (H.dU (Pl:=[_,_,_]) (cK:=[_,_]) [1,2] (by decide) rfl).sub ⟨rfl,rfl,rfl,rfl,rfl,rfl,rfl,rfl,rfl,rfl,rfl,rfl,rfl,rfl,aB⟩) ?_ ?_
      ·(try dsimp only);exact ⟨by omega,fun b o h=>aeR b o (hg4 b o h),aeZ⟩
      first|omega|(dsimp only;omega)
     intro gX a H
     try have p59:=dF gX
     refine dW ?_;refine bP _ _ ?_;clear bP;refine kP H (SC (Rd rfl (Rm rfl ?_)));clear H;intro a H;refine aH ?_;refine dw ((rk+1,j4,Lt4,g4)) (by exact (H.dU (Pl:=[_,_]) (cK:=[_]) [1] (by decide) rfl).sub ⟨rfl,rfl,rfl,rfl,rfl,rfl,rfl,rfl,rfl,rfl,rfl,aB⟩) ?_ ?_
     ·(try dsimp only);exact ⟨by omega,fun b o h=>hg4 b o (hg3 b o h),by rw [iC (by omega),oo,ko] at rV;exact rV⟩
     first|omega|(dsimp only;omega)
    intro mI a H
    try have p52:=dF mI
    refine dW ?_;refine ⟨(j3,Lt3,g3),by exact (H).sub ⟨rfl,rfl,rfl,rfl,rfl,rfl,rfl,rfl,aB⟩,?_⟩;(try dsimp only);exact ⟨hg3,by rw [iC (by omega),lW,ko] at qO;exact qO⟩
   intro h46 a H
   try have p46:=dF h46
   rw [ah p46,ko] at dX;refine fO ?_;refine ⟨(j,Lt,g1),by exact (H).sub ⟨rfl,rfl,rfl,rfl,rfl,rfl,rfl,rfl,aB⟩,?_⟩;(try dsimp only);exact ⟨fun _ _ h=>h,dX⟩
  clear H;intro gh a w hI H;obtain ⟨j2,Lt2,g2⟩:=gh;dsimp only at hI H;obtain ⟨hg2,aeY⟩:=hI;dsimp only [lca,aZ] at H;refine kP H (SR fun _ gD=>Rm rfl (Rm rfl (Rm rfl (Rd rfl ?_))));clear H;intro a H;refine ahL gI dB k (k+1) H wn rfl rfl rfl rfl (by omega) (by omega) (by omega) rfl ?_;clear H;intro a H;rw [ah hc3,Option.map_some,add_lit,Lf] at H;refine s_call Sz H wn rfl (Vo _ _ H.ro [x] _ (by have h:=hpart;rw [ah hc3,Option.map_some,add_lit,Lf,he1] at h;exact h.mono hg2) (by show 1+cB x.dat+0≤_;omega)) rfl ?_;clear H;rintro v76 G76 a w ⟨rfl,rfl⟩ - H;rw [afY] at H;refine kH H (Rm rfl ?_);clear H;intro a H;(iterate 2 refine lu H wn rfl rfl rfl ?_;clear H;intro a H);refine kH H (Ra rfl (ak gD rfl (SC (Rm rfl (Rm rfl (Rd rfl (aV K5 rfl (SC (Rd rfl (Rm rfl ?_))))))))));clear H gD K5;intro a H;refine aH ?_;refine dw ((k+1,t+n1 x,j2,Lt2,g2)) (by exact (H.dU (Pl:=[_]) (cK:=[]) [] (by decide) rfl).sub ⟨rfl,rfl,rfl,rfl,rfl,rfl,rfl,aB⟩) ?_ ?_
  ·(try dsimp only);exact ⟨by omega,fun b o h=>hg2 b o (hgm b o h),hok2,by omega,aeY⟩
  first|omega|(dsimp only;omega)
 intro h18 a H
 try have vK:=dF h18
 refine dW ?_;refine (leave0 H results34 ?_).2;exact H.hp.gM (L':=Lt) (by repeat (first|exact iD _|apply List.Sublist.cons)) (by rw [iC (by omega),fJ] at dX;have:=dX.len;simp only [List.length_nil,sJ] at this;rw [← this];exact dX.now)
theorem Ru:∀ n:Nat,n≤4294967297→KH n
 | 0,_=>fun _ _ _ _ _ _ _ _ _ _ _ _ _ _ _ _ _ _ h=>absurd h (by omega)
 | n+1,hn=>Zj (Ru n (by omega)) (by omega)
end
section
open Go.RowKit
theorem zx {G:GH} {b:Nat} {cs:List aj} {e:TypeId} {q:Nat × Nat} (h:G b=some (.cells cs.toArray e q)) (k:Nat) (ds:List aj) (hd:ds=(cs.drop k).take ds.length) (j:Nat) (v:aj) (hj:ds[j]?=some v):aJ G b (k+j)=some v:=by
 unfold aJ
 rw [h]
 show cs.toArray[k+j]?=some v
 rw [hd,sI] at hj
 split at hj
 ·simpa using hj
 cases hj
end
section
open Go.RowKit
theorem jY:prog.underlying 41=some (.slice 47):=by kernel_rfl
theorem iV:Ty prog 47 5 48 [.int .i64 0,.int .i64 0,.string ⟨#[]⟩,.int .i64 0,.int .i64 0] true:=⟨by kernel_rfl,by kernel_rfl⟩
theorem Kr:Ty prog 41 1 24 [.slice none 0 0] false:=⟨by kernel_rfl,by kernel_rfl⟩
theorem Kv:prog.underlying 129=some (.map 134 47):=by kernel_rfl
theorem FV:bV prog 47 0 0:=⟨by kernel_rfl⟩
theorem AJ:bV prog 47 1 1:=⟨by kernel_rfl⟩
theorem Pz:oU prog 134 [(0,1),(1,1)] [.int .i64 0,.int .i64 0]:=⟨by kernel_rfl,by kernel_rfl⟩
theorem Km:Ty prog 134 2 16 [.int .i64 0,.int .i64 0] true:=⟨by kernel_rfl,by kernel_rfl⟩
theorem abS:∀ args w,(callFunc 35 args).run prog w=.ok (.enter 35 args) w:=enters func35 rfl (by kernel_rfl)
def qb (l:List bJ):List aj:=(l.map bJ.cells).flatten
theorem Y8 {l:List bJ} {k:Nat} (hk:k < l.length):qb (l.take (k+1))=qb (l.take k)++l[k].cells:=by
 unfold qb
 rw [jE hk,nD,List.flatten_append]
 simp
theorem Lj (G:GH):∀ l:List bJ,fH G 5 (l.map bJ.dat) (qb l)
 | []=>fH.nil
 | x :: l=>by
  have h1:fH G 5 [x.dat] x.cells:=by
   have:=(fH.nil (G:=G) (sz:=5)).snoc (q:=x.dat) (cs:=x.cells) (Zb G x) rfl
   simpa using this
  rw [eY,← List.singleton_append];exact h1.append (Lj G l)
def QU (bo:Nat) (A:List bJ):Nat→GH→OL→Prop:=fun k _ L=>k≤A.length∧∃ v Lo,L=(bo,.cells #[v] 41 (0,0)) :: Lo∧dD 47 5 v k (qb (A.take k)) Lo
theorem agh (Gi:GH) (bo:Nat) (A:List bJ) (hA:A.length≤4294967296):Qe prog (.func (.func 35) #[] #[(aI bo 0)]) Gi (A.map Ci) (QU bo A):=by
 rintro k args G L w0 ⟨p,hp,hargs⟩ hGi ⟨-,v,Lo,rfl,hrw⟩ hO;rw [pY] at hp;obtain ⟨x,hx,rfl⟩:=lD.1 hp;obtain ⟨hk,hxe⟩:=iX.1 hx;have ha:args=[x.val]:=hargs;subst ha;obtain ⟨vA,vc,rfl,-,-⟩:=hrw.shape;have hml:maxLen=9223372036854775807:=rfl;refine lZ (caps:=[(aI bo 0)]) abS ?_;refine jN (N:=7) (T:=[(0,_),(1,_)]) func35 rfl ntmps35 rfl rfl hO ?_;intro a H;refine cO (fun _ K1=>?_);refine fC (cs:=[_,_,_,_,_]) H wn rfl rfl rfl ?_;clear H;intro b2 a w hb2 H;refine K1 _ _ ?_;clear K1;refine kP H (SC (Ro Kr 1 rfl ?_));clear H;intro a H;refine bD iV (cs:=[_,_,_,_,_]) H wn rfl rfl (H.hp.dY 0 rfl rfl) rfl ?_;clear H;intro a H;refine gQ jY iV [_,_,_,_,_] [_,_,_,_,_] H wn rfl rfl rfl rfl rfl (by intro i q h;match i,h with|0,h=>exact h|n+1,h=>simp at h) rfl rfl ?_;clear H;intro b5 a w hb5 H;refine oL (Li:=[_,_,_]) (Lo:=Lo) (news:=x.cells) jY iV rfl rfl H wn rfl rfl hrw rfl (H.hp.dY 0 rfl rfl) rfl (by omega) (by omega) rfl ?_;clear H;intro v6 QS a w UQ H;obtain ⟨Ht,Hu,rfl,-,-⟩:=UQ.shape;refine bF Kr 2 (vs:=[_]) _ H wn rfl rfl rfl rfl rfl rfl rfl rfl ?_;clear H;intro w H;dsimp only [List.set,setRow] at H;refine aH ?_;refine (leave0 H results35 ?_).2;exact H.hp.gM (L':=(bo,.cells #[.slice Ht (k+1) Hu] 41 (0,0)) :: QS) (by repeat (first|exact iD _|apply List.Sublist.cons)) ⟨hk,_,QS,rfl,by rw [Y8 hk,hxe];exact UQ⟩
theorem Vq (G:GH) (w0:World) (hG:Hold G w0) (D:nK) (l:List ay) (hv:av G (.sl 11 (l.map ay.dat)) (fq D.f)) (hok:fQ l) (hz:bg l≤4294967296) :
  Calls prog 11 #[D.val] w0 (bC w0 G fun u G'=>av G' (.sl 5 ((fJ 0 0 l).map bJ.dat)) u):=by
 have hn:=yS 0 0 l;refine eN [(0,_)] func11 rfl ntmps11 rfl rfl hG ?_;intro a H;refine cO (fun _ K1=>?_);refine fC (cs:=[_,_,_,_,_,_,_,_,_,_,_]) H wn rfl rfl rfl ?_;clear H;intro b1 a w hb1 H;refine kH H (ak K1 rfl (SQ fun _ K2=>?_));clear H K1;intro a H;obtain ⟨Ga,hma,hb',H⟩:=H.dP;have hga:=fun j v hj=>zx hb' 0 D.cells rfl j v hj;replace hv:=hv.mono hma;refine oz ?_;refine eU Kr H wn rfl ?_;clear H;intro b3 a w hb3 H;refine kH H (Kn K2 (SR fun _ K3=>Rf Cr rfl (Rg gZ rfl (hga 0 _ rfl) ?_)));clear H K2;intro a H;refine pO H wn rfl rfl ?_;clear H;intro a H;refine gN Mq (Li:=[]) (L:=[(b3,.cells #[.slice none 0 0] 41 (0,0))]) H wn rfl (Ru 4294967297 (by omega) _ Ga ((fJ 0 0 l).map Ci) (QU b3 (fJ 0 0 l)) _ _ _ 0 0 l _ (fun _ _ h=>h) (agh Ga b3 (fJ 0 0 l) (by omega)) (fun _ _ _ _ _ h=>h) ⟨iK _,_,[],rfl,dD.nil⟩ (Hp.owns (Li:=[]) H.hp) hv hok (by omega) (fun i a h=>by rw [kK,pY,h];rfl)) rfl ?_;clear H;rintro v7 G7 L7 a w ⟨-,v,Lo,rfl,hrw⟩ zP H;rw [kK,yY] at hrw;dsimp only [List.nil_append] at H;refine K3 _ _ ?_;clear K3;refine kP H (SR fun _ K4=>Ro Kr 0 rfl (ak K4 rfl ?_));clear H K4;intro a H;refine lr H results11 rfl ?_;obtain ⟨Gr,hmr,hrep,H⟩:=St.sV (Li:=[_]) H hrw (rows:=(fJ 0 0 l).map bJ.dat) (by simp) (Lj _ _);exact H.rt hrep
theorem IW:yK prog 134 [0,1]:=⟨by kernel_rfl,by kernel_rfl,by kernel_rfl,by kernel_rfl,by kernel_rfl⟩
def Ap:bJ:=⟨0,0,⟨#[]⟩,0,0⟩
theorem OA {acc:List ((Int × Int) × aj)} {l:List bJ} (h:tT acc l) (p:Int × Int):(mE p acc).getD Ap.val=((mo l p.1 p.2).getD Ap).val:=by
 rw [h p];cases mo l p.1 p.2 <;> rfl
theorem Cj {G:GH} {A:List bJ} {v:Option Addr} {n c k:Nat} (h:av G (.sl 5 (A.map bJ.dat)) (.slice v n c)) (hk:k < A.length):∃ b o,v=some ⟨b,o,none⟩∧∀ j u,A[k].cells[j]?=some u→aJ G b (o+k*5+j)=some u:=by
 obtain ⟨b,o,cs,rfl,hcl,hrow,hr⟩:=h.at_ k A[k].dat (by simp [hk]);obtain rfl:=Rh hr;exact ⟨b,o,rfl,hrow⟩
set_option maxHeartbeats 1000000 in
theorem adw (G:GH) (w0:World) (hG:Hold G w0) (A:List bJ) (v:aj) (hv:av G (.sl 5 (A.map bJ.dat)) v) (hl:A.length≤4294967296) :
  Calls prog 51 #[v] w0 (bC w0 G fun u G'=>∃ b acc,u=.map (some b)∧G' b=some (Bo acc)∧tT acc A):=by
 obtain ⟨vA,n,c,rfl⟩:=hv.form;have hn:=hv.len;rw [bT] at hn;subst hn;have hml:maxLen=9223372036854775807:=rfl;refine eN [(0,_)] func51 rfl ntmps51 rfl rfl hG ?_;intro a H;refine kP H (SR fun _ K1=>ak K1 rfl (SR fun _ K2=>?_));clear H K1;intro a H;refine Dt H wn rfl ?_;clear H;intro b9 a w xW H;refine kH H (ak K2 rfl (SQ fun _ K3=>SR fun _ K4=>Rm rfl (Rl jY rfl (Rm rfl (Kz K4 (SB ?_))))));clear H K2 K4;intro a H;skip;refine eZ (ι:=Nat × List ((Int × Int) × aj)) (Tc:=[(3,_),(10,_),(11,_)]) (Lc:=[]) (fun (gh:Nat × List ((Int × Int) × aj))=>[(12,vi gh.1)]) (fun (gh:Nat × List ((Int × Int) × aj))=>[(b9,Bo gh.2)]) (fun (gh:Nat × List ((Int × Int) × aj))=>G) (fun (gh:Nat × List ((Int × Int) × aj))=>gh.1≤A.length∧tT gh.2 (A.take gh.1)) (fun (gh:Nat × List ((Int × Int) × aj))=>A.length - gh.1) ((0,[])) (by exact (H).sub ⟨rfl,rfl,rfl,rfl,aB⟩) ?_ ?_
 ·exact ⟨iK _,tT.nil⟩
 clear H;intro gh a w hI H;obtain ⟨k,acc⟩:=gh;dsimp only at hI H;obtain ⟨hk,hfm⟩:=hI;dsimp only [lca,aZ] at H;refine kP H (SR fun _ K5=>Rc rfl (Kz K5 (SQ fun _ K6=>Cd rfl ?_ ?_))) <;> clear H K5
 ·intro fK a H
  try have pK:=dT fK
  have hk2:k < A.length:=by omega
  obtain ⟨b,o,rfl,hrow⟩:=Cj hv hk2;refine kP H (Kc K6 (SQ fun _ K7=>SB (SR fun _ K8=>Ri jY iV rfl rfl ?_)));clear H K6;intro a H;refine bD iV (cs:=A[k].cells) H wn rfl rfl (fun j v hj=>H.hp.aJ (hrow j v hj)) rfl ?_;clear H;intro a H;refine eU iV H wn rfl ?_;clear H;intro b5 a w hb5 H;refine bF iV 0 (vs:=[_,_,_,_,_]) _ H wn rfl rfl rfl rfl rfl rfl rfl rfl ?_;clear H;intro w H;dsimp only [List.set,setRow] at H;refine K8 _ _ ?_;clear K8;refine kP H (SR fun _ K9=>aR FV aG 0 rfl rfl (aR AJ aG 0 rfl rfl ?_));clear H;intro a H;refine jJ Pz [_,_] H wn rfl rfl rfl rfl ?_;clear H;intro a H;refine eU Km H wn rfl ?_;clear H;intro b6 a w hb6 H;refine bF Km 0 (vs:=[_,_]) _ H wn rfl rfl rfl rfl rfl rfl rfl rfl ?_;clear H;intro w H;dsimp only [List.set,setRow] at H;refine K9 _ _ ?_;clear K9;refine kP H (SR fun _ aS=>Rm rfl ?_);clear H;intro a H;refine bD Km (cs:=[_,_]) H wn rfl rfl (H.hp.dY 0 rfl rfl) rfl ?_;clear H;intro a H;refine WA (ky:=(A[k].code,A[k].id)) (zv:=Ap.val) (l:=acc) Kv IW (by kernel_rfl) H wn rfl rfl (H.hp.own (b9,Bo acc) (by simp)) rfl ?_;clear H;intro a H;rw [OA hfm] at H;refine kH H (Rm rfl ?_);clear H;intro a H;(iterate 2 refine lu H wn rfl rfl rfl ?_;clear H;intro a H);refine eU iV H wn rfl ?_;clear H;intro b7 a w CO H;refine bF iV 0 (vs:=[_,_,_,_,_]) _ H wn rfl rfl rfl rfl rfl rfl rfl rfl ?_;clear H;intro w H;dsimp only [List.set,setRow] at H;refine kH H (ak aS rfl (SR fun _ bA=>Rm rfl (Rn rfl (Kz bA (Cd rfl ?_ ?_))))) <;> clear H aS bA
  ·intro eP a H
   try have p28:=dT eP
   have hnone:mE (A[k].code,A[k].id) acc=none:=by simpa using eP
   refine kP H (SC (Rm rfl ?_));clear H;intro a H;refine bD Km (cs:=[_,_]) H wn rfl rfl (H.hp.dY 1 rfl rfl) rfl ?_;clear H;intro a H;refine bD iV (cs:=[_,_,_,_,_]) H wn rfl rfl (H.hp.dY 2 rfl rfl) rfl ?_;clear H;intro a H;refine ahI (i:=3) (l:=acc) (ky:=(A[k].code,A[k].id)) (v:=A[k].val) Kv IW H wn rfl rfl rfl rfl hnone ?_;clear H;intro w H;dsimp only [List.set] at H;refine kH H (Kn K7 (SC (Rd rfl (Rm rfl ?_))));clear H K7;intro a H;refine aH ?_;refine dw ((k+1,acc++[((A[k].code,A[k].id),A[k].val)])) (by exact (H.dU (Pl:=[_,_,_,_]) (cK:=[_]) [3] (by decide) rfl).sub ⟨rfl,rfl,rfl,rfl,aB⟩) ?_ ?_
   ·(try dsimp only);exact ⟨by omega,hfm.new hk2 hnone⟩
   first|omega|(dsimp only;omega)
  intro eP a H
  try have p28:=dF eP
  refine kP H (Kc K7 (SC (Rd rfl (Rm rfl ?_))));clear H K7;intro a H;refine aH ?_;refine dw ((k+1,acc)) (by exact (H.dU (Pl:=[_,_,_,_]) (cK:=[_]) [3] (by decide) rfl).sub ⟨rfl,rfl,rfl,rfl,aB⟩) ?_ ?_
  ·(try dsimp only);exact ⟨by omega,hfm.old hk2 (by simpa using eP)⟩
  first|omega|(dsimp only;omega)
 intro fK a H
 try have pK:=dF fK
 obtain rfl:k=A.length:=by omega
 rw [yY] at hfm;refine dW ?_;refine K3 _ _ ?_;clear K3;refine kP H (SR fun _ bK=>Rm rfl (ak bK rfl ?_));clear H bK;intro a H;refine lr H results51 rfl ?_;obtain ⟨Gr,hmr,hbr,H⟩:=H.dP;exact H.rt ⟨_,acc,rfl,hbr,hfm⟩
end
section
open Go.RowKit
def iR (xs:Array aj) (o:Nat × Nat):Option (Int × Int × List UInt8):=match o.2 with
 | 0=>(jq xs o.1).map fun n=>(n,0,[])
 | 1=>match xs[o.1]? with|some (.string s)=>some (0,0,s.toList)|_=>none
 | _=>match jq xs o.1,jq xs (o.1+1) with|some a,some b=>some (a,b,[])|_,_=>none
def VX (P:Program) (t:TypeId):Bool:=!P.stoodInHeld t && decide ((P.fieldsOf t).toList.map (·.offset)=[0,1]) && ((P.fieldsOf t).toList.all fun f=>decide (f.name ≠ "_") && P.plainKey f.type && GJ (P.underlying f.type)) && decide (P.cellsOf t=2) && (P.info? t).isSome
def wR (P:Program) (t:TypeId):Nat:=match P.underlying t with|some (.int .i64)=>0|some .string=>1|some (.struct _)=>2|_=>3
def OO (P:Program) (t:TypeId):Bool:=match wR P t with|0=>P.plainKey t|1=>P.plainKey t|2=>VX P t|_=>false
structure Ib (P:Program) (t:TypeId) (gu:List (Nat × Nat)):Prop where
 und:P.underlying t=some (.struct (P.fieldsOf t))
 held:P.stoodInHeld t=false
 guard:P.eqGuardType P.depth t=false
 sU:(P.fieldsOf t).toList.map (fun f=>(f.offset,wR P f.type))=gu
 ok:(P.fieldsOf t).toList.all (fun f=>decide (f.name ≠ "_") && OO P f.type)=true
theorem aiK {P:Program} {t:TypeId} {fs:Array Field} (h:P.underlying t=some (.struct fs)):P.underlying t=some (.struct (P.fieldsOf t)):=by
 rw [h]
 simp [Program.fieldsOf,h]
theorem Wv {P:Program} (w:World) {t:TypeId} {fs:Array Field} (hu:P.underlying t=some (.struct fs)) {i:TypeInfo} (hi:P.info? t=some i) (hc:P.cellsOf t=2) (xs:Array aj) (off:Nat):(part t xs off).run P w=.ok (.agg (xs.extract off (off+2))) w:=by
 unfold part
 simp [isAgg,bX,run_underlying hu,run_sizeOf w hi,hc]
theorem I8 {xs:Array aj} {o:Nat} {n:Int} (h:jq xs o=some n):xs[o]?=some (.int .i64 n):=by
 unfold jq at h
 split at h
 ·rename_i hx;cases h;exact hx
 ·cases h
theorem TV {xs:Array aj} {off:Nat} {a b:Int} (h1:jq xs off=some a) (h2:jq xs (off+1)=some b):jq (xs.extract off (off+2)) 0=some a∧jq (xs.extract off (off+2)) 1=some b:=by
 have e1:=I8 h1
 have e2:=I8 h2
 have hl:off+1 < xs.size:=(Array.getElem?_eq_some_iff.1 e2).1
 constructor
 ·unfold jq
  rw [Array.getElem?_extract,au (by omega),sJ,e1]
 ·unfold jq
  rw [Array.getElem?_extract,au (by omega),e2]
theorem O9 {P:Program} {w:World} {d:Nat} {xs ys:Array aj}:∀ fs:List Field,fs.all (fun f=>decide (f.name ≠ "_") && OO P f.type)=true →
  (fs.map (fun f=>(f.offset,wR P f.type))).all (fun o=>(iR xs o).isSome && (iR ys o).isSome)=true→(Op.eqFields (d+2) xs ys fs).run P w=.ok ((fs.map (fun f=>(f.offset,wR P f.type))).all fun o=>iR xs o == iR ys o) w
 | [],_,_=>by simp [Op.eqFields]
 | f :: fs,h1,h2=>by
  simp only [List.all_cons,kJ,oq,eY] at h1 h2
  obtain ⟨⟨hn,hk⟩,h1⟩:=h1
  obtain ⟨⟨hx,hy⟩,h2⟩:=h2
  have ih:=O9 (w:=w) (d:=d) fs (by simpa using h1) h2
  have fin:∀ (x y:aj) (r:Bool),(part f.type xs f.offset).run P w=.ok x w→(part f.type ys f.offset).run P w=.ok y w→(Op.equalIn (d+2) f.type x y).run P w=.ok r w→(iR xs (f.offset,wR P f.type) == iR ys (f.offset,wR P f.type))=r →
    (Op.eqFields (d+2) xs ys (f :: fs)).run P w=.ok (((f :: fs).map (fun f=>(f.offset,wR P f.type))).all fun o=>iR xs o == iR ys o) w:=by
   intro x y r p1 p2 p3 p4
   simp only [Op.eqFields,hn,ne_eq,not_false_eq_true,if_true,bX,p1,p2,jD,p3,eY,List.all_cons,p4]
   cases r with
   | true=>simp [ih,List.all_map]
   | false=>simp
  unfold OO at hk
  rcases hkd:wR P f.type with _|_|_|n
  ·rw [hkd] at hk hx hy
   have hu:P.underlying f.type=some (.int .i64):=by unfold wR at hkd;split at hkd <;> first|assumption|cases hkd
   obtain ⟨m,hm⟩:∃ m,jq xs f.offset=some m:=by cases h:jq xs f.offset with|some m=>exact ⟨m,rfl⟩|none=>simp [iR,h] at hx
   obtain ⟨m2,hm2⟩:∃ m,jq ys f.offset=some m:=by cases h:jq ys f.offset with|some m=>exact ⟨m,rfl⟩|none=>simp [iR,h] at hy
   refine fin _ _ _ (run_part_plain w hk (I8 hm)) (run_part_plain w hk (I8 hm2)) (run_equalIn_int w (d+1) f.type .i64 .i64 m m2 hu) ?_
   rw [hkd,nE]
   simp [iR,hm,hm2]
  ·rw [hkd] at hk hx hy
   have hu:P.underlying f.type=some .string:=by unfold wR at hkd;split at hkd <;> first|assumption|cases hkd
   obtain ⟨m,hm⟩:∃ m,xs[f.offset]?=some (.string m):=by
    simp only [iR] at hx
    split at hx
    ·rename_i s hs;exact ⟨s,hs⟩
    ·cases hx
   obtain ⟨m2,hm2⟩:∃ m,ys[f.offset]?=some (.string m):=by
    simp only [iR] at hy
    split at hy
    ·rename_i s hs;exact ⟨s,hs⟩
    ·cases hy
   refine fin _ _ _ (run_part_plain w hk hm) (run_part_plain w hk hm2) (run_equalIn_string w (d+1) f.type m m2 hu) ?_
   rw [hkd,nE]
   simp [iR,hm,hm2]
  ·rw [hkd] at hk hx hy
   obtain ⟨gs,hu⟩:∃ gs,P.underlying f.type=some (.struct gs):=by
    unfold wR at hkd
    split at hkd
    ·cases hkd
    ·cases hkd
    ·rename_i gs hg;exact ⟨gs,hg⟩
    ·cases hkd
   simp only [VX,kJ,rJ,oq] at hk
   obtain ⟨⟨⟨⟨k1,k2⟩,k3⟩,k4⟩,k5⟩:=hk
   obtain ⟨inf,Un⟩:=Option.isSome_iff_exists.1 k5
   obtain ⟨a,b,ha,hb⟩:∃ a b,jq xs f.offset=some a∧jq xs (f.offset+1)=some b:=by
    simp only [iR] at hx
    split at hx
    ·rename_i a b h1 h2;exact ⟨a,b,h1,h2⟩
    ·cases hx
   obtain ⟨a',b',ha',hb'⟩:∃ a b,jq ys f.offset=some a∧jq ys (f.offset+1)=some b:=by
    simp only [iR] at hy
    split at hy
    ·rename_i a b h1 h2;exact ⟨a,b,h1,h2⟩
    ·cases hy
   obtain ⟨e1,e2⟩:=TV ha hb
   obtain ⟨e3,e4⟩:=TV ha' hb'
   have hq:=O8 (P:=P) (w:=w) (d:=d) (xs:=xs.extract f.offset (f.offset+2)) (ys:=ys.extract f.offset (f.offset+2)) _ (by simpa only [kI,kJ,oq] using k3) (by rw [k2];simp [e1,e2,e3,e4])
   rw [k2] at hq
   refine fin _ _ _ (Wv w hu Un k4 xs f.offset) (Wv w hu Un k4 ys f.offset) ((run_equalIn_struct w (d+1) f.type _ _ (aiK hu) k1).trans hq) ?_
   rw [hkd,nE]
   simp [iR,ha,hb,ha',hb',e1,e2,e3,e4]
  ·rw [hkd] at hk;cases hk
section
variable {N:Nat} {D:List Deferred} {w0:World} {F:Nat→Prop} {G0 G:GH} {L:List (Nat × Obj)} {T:List (Nat × aj)}
variable {r:Option Nat} {P:Program} {ops:Array Oper} {Q:Exit→Act→World→Prop} {rest:List Oper} {a:Act} {w:World}
variable {d:Nat} {ty:TypeId} {pos:String} {aM:Array Edge} {g:Option (Nat × Bool)}
theorem ahD {t yt:TypeId} {gu:List (Nat × Nat)} (he:Ib P t gu) {x y:Operand} {xs ys:Array aj} (H:St N D w0 F G0 G L T a w) (hw:Region.wanted ⟨some d,.binOp .eql t x y yt,ty,pos,aM,g⟩ (yielded ops a.tmps)=true) (hx:ev T x=some (.agg xs)) (hy:ev T y=some (.agg ys))
  (hi:gu.all (fun o=>(iR xs o).isSome && (iR ys o).isSome)=true) (hd:Nat.blt d N=true)
  (k:∀ a',St N D w0 F G0 G L ((d,.bool (gu.all fun o=>iR xs o == iR ys o)) :: T) a' w→WL r P ops Q rest a' w):WL r P ops Q (⟨some d,.binOp .eql t x y yt,ty,pos,aM,g⟩ :: rest) a w:=by
 have h1:=O9 (P:=P) (w:=w) (d:=9997) (xs:=xs) (ys:=ys) _ he.ok (by rw [he.sU];exact hi)
 rw [he.sU] at h1
 refine fF (v:=.bool (gu.all fun o=>iR xs o == iR ys o)) (w':=w) hw rfl ?_ (k _ (H.put hd _ H.hp))
 simp only [execOp,H.ev hx,H.ev hy,bX,run_eqGuard_agg w .eql t x y xs ys he.guard,jD,run_eql_struct,run_equalIn_struct w 9999 t xs ys he.und he.held,h1]
 rfl
theorem Pp {t yt:TypeId} {gu:List (Nat × Nat)} (he:Ib P t gu) {x y:Operand} {xs ys:Array aj} (H:St N D w0 F G0 G L T a w) (hw:Region.wanted ⟨some d,.binOp .neq t x y yt,ty,pos,aM,g⟩ (yielded ops a.tmps)=true) (hx:ev T x=some (.agg xs)) (hy:ev T y=some (.agg ys))
  (hi:gu.all (fun o=>(iR xs o).isSome && (iR ys o).isSome)=true) (hd:Nat.blt d N=true)
  (k:∀ a',St N D w0 F G0 G L ((d,.bool (!(gu.all fun o=>iR xs o == iR ys o))) :: T) a' w→WL r P ops Q rest a' w):WL r P ops Q (⟨some d,.binOp .neq t x y yt,ty,pos,aM,g⟩ :: rest) a w:=by
 have h1:=O9 (P:=P) (w:=w) (d:=9997) (xs:=xs) (ys:=ys) _ he.ok (by rw [he.sU];exact hi)
 rw [he.sU] at h1
 refine fF (v:=.bool (!(gu.all fun o=>iR xs o == iR ys o))) (w':=w) hw rfl ?_ (k _ (H.put hd _ H.hp))
 simp only [execOp,H.ev hx,H.ev hy,bX,run_eqGuard_agg w .neq t x y xs ys he.guard,jD,run_neq_struct,run_equalIn_struct w 9999 t xs ys he.und he.held,h1]
 rfl
end
end
section
open Go.RowKit
theorem tO:prog.underlying 49=some (.slice 55):=by kernel_rfl
theorem kR:Ty prog 55 6 56 [.int .i64 0,.string ⟨#[]⟩,.int .i64 0,.int .i64 0,.int .i64 0,.int .i64 0] true:=⟨by kernel_rfl,by kernel_rfl⟩
theorem Si:∀ args w,(callFunc 11 args).run prog w=.ok (.enter 11 args) w:=enters func11 rfl (by kernel_rfl)
theorem abZ:∀ args w,(callFunc 51 args).run prog w=.ok (.enter 51 args) w:=enters func51 rfl (by kernel_rfl)
theorem TF:bV prog 47 2 2:=⟨by kernel_rfl⟩
theorem vB:bV prog 47 3 3:=⟨by kernel_rfl⟩
theorem Ai:Ty prog 45 2 16 [.int .i64 0,.int .i64 0] true:=⟨by kernel_rfl,by kernel_rfl⟩
theorem Kh:oU prog 55 [(0,1),(1,1),(2,2),(4,2)] [.int .i64 0,.string ⟨#[]⟩,.int .i64 0,.int .i64 0,.int .i64 0,.int .i64 0]:=⟨by kernel_rfl,by kernel_rfl⟩
theorem xQ:bV prog 55 2 2:=⟨by kernel_rfl⟩
theorem vw:bV prog 45 1 1:=⟨by kernel_rfl⟩
theorem Ei:bV prog 55 3 4:=⟨by kernel_rfl⟩
theorem Cu:bV prog 45 0 0:=⟨by kernel_rfl⟩
mutual
theorem Y2 (g:Int) (t:Nat):∀ (x:ay) (a:bJ),a∈yR g t x→0≤a.at_∧a.at_≤(t+cB x.dat:Nat)
 | .mk k c i tx h fl r,a,ha=>by
  have h4:=nZ (.mk k c i tx h fl r);dsimp only [ay.text,ay.head,ay.flow,ay.rows] at h4;rw [yR] at ha
  rcases lF.1 ha with ha|ha
  ·split at ha
   ·rw [rG.1 ha];dsimp only;omega
   cases ha
  rcases lF.1 ha with ha|ha
  ·split at ha
   ·have:=Fw i 0 fl a ha;omega
   cases ha
  split at ha
  ·have:=Q7 r a ha;omega
  cases ha
theorem Fw (g:Int):∀ (t:Nat) (l:List ay) (a:bJ),a∈fJ g t l→0≤a.at_∧a.at_≤(t+bg l:Nat)
 | _,[],a,ha=>by rw [fJ] at ha;cases ha
 | t,x :: l,a,ha=>by
  have h1:=OG x;rw [fJ] at ha
  have hz:cB x.dat+bg l≤bg (x :: l):=by simp only [bg,eY,eD];omega
  rcases lF.1 ha with ha|ha
  ·have:=Y2 g t x a ha;omega
  have:=Fw g (t+n1 x) l a ha;omega
theorem Q7:∀ (l:List bO) (a:bJ),a∈lW l→0≤a.at_∧a.at_≤(gT l:Nat)
 | [],a,ha=>by rw [lW] at ha;cases ha
 | x :: l,a,ha=>by
  rw [lW] at ha
  have hz:cB x.dat+gT l≤gT (x :: l):=by simp only [gT,eY,eD];omega
  rcases lF.1 ha with ha|ha
  ·have:=Y3 x a ha;omega
  have:=Q7 l a ha;omega
theorem Y3:∀ (x:bO) (a:bJ),a∈yT x→0≤a.at_∧a.at_≤(cB x.dat:Nat)
 | .mk h cs,a,ha=>by
  have h4:=Ar (.mk h cs);dsimp only [bO.head,bO.cells] at h4;rw [yT] at ha;have:=Q6 cs a ha
  omega
theorem Q6:∀ (l:List bN) (a:bJ),a∈oo l→0≤a.at_∧a.at_≤(iZ l:Nat)
 | [],a,ha=>by rw [oo] at ha;cases ha
 | x :: l,a,ha=>by
  rw [oo] at ha
  have hz:cB x.dat+iZ l≤iZ (x :: l):=by simp only [iZ,eY,eD];omega
  rcases lF.1 ha with ha|ha
  ·have:=Y1 x a ha;omega
  have:=Q6 l a ha;omega
theorem Y1:∀ (x:bN) (a:bJ),a∈yQ x→0≤a.at_∧a.at_≤(cB x.dat:Nat)
 | .mk i h fl,a,ha=>by
  have h4:=Aq (.mk i h fl);dsimp only [bN.head,bN.flow] at h4;rw [yQ] at ha;have:=Fw i 0 fl a ha
  omega
end
theorem S9:Ib prog 47 [(0,0),(1,0),(2,1),(3,2)]:=⟨by kernel_rfl,by kernel_rfl,by kernel_rfl,by kernel_rfl,by kernel_rfl⟩
theorem RB {a b:ByteArray} (h:a.toList=b.toList):a=b:=by
 rw [ByteArray.toList_eq,ByteArray.toList_eq] at h
 cases a;cases b
 simpa using h
theorem Zc (x y:bJ):([(0,0),(1,0),(2,1),(3,2)].all fun o=>iR (#[vi x.code,vi x.id,.string x.name,vi x.flow,vi x.at_]:Array aj) o == iR (#[vi y.code,vi y.id,.string y.name,vi y.flow,vi y.at_]:Array aj) o)=decide (x=y):=by
 rw [nE,decide_eq_true_iff,← bJ.eq_iff]
 simp [iR,jq]
 intro _ _ _ _;exact ⟨RB,fun h=>by rw [h]⟩
theorem Zd {acc:List ((Int × Int) × aj)} {A:List bJ} {c:Int} {x:bJ} (_h:tT acc A) (hc:¬ ¬ x.code=c) (hm:x∈A):(!decide ((mo A c x.id).getD Ap=x))=!nU A c x:=by
 have hc:=lY.1 hc
 have hs:(mo A c x.id).isSome=true:=by
  unfold mo
  rw [List.find?_isSome];exact ⟨x,hm,by simp [hc]⟩
 obtain ⟨y,hy⟩:=Option.isSome_iff_exists.1 hs
 unfold nU
 rw [hy]
 simp [hc]
theorem Ed {A:List bJ} {c:Int} {x:bJ} (h:match mo A (c+1) x.id with|some e=>¬ (e.flow=x.flow∧x.at_ < e.at_)|none=>True):zk A c x=(x.flow,x.at_+1):=by
 unfold zk
 cases hf:mo A (c+1) x.id with
 | none=>rfl
 | some e=>rw [hf] at h;dsimp only;rw [ah h]
theorem SY {A:List bJ} {c:Int} {x e:bJ} (h:mo A (c+1) x.id=some e∧e.flow=x.flow∧x.at_ < e.at_):zk A c x=(e.flow,e.at_):=by
 unfold zk
 rw [h.1];dsimp only;rw [au h.2]
def EP (l:List iP):List aj:=(l.map iP.cells).flatten
theorem WX (l:List iP) (x:iP):EP (l++[x])=EP l++x.cells:=by
 unfold EP
 rw [nD,List.flatten_append]
 simp
theorem Py (G:GH):∀ l:List iP,fH G 6 (l.map iP.dat) (EP l)
 | []=>fH.nil
 | x :: l=>by
  have h1:fH G 6 [x.dat] x.cells:=by
   have:=(fH.nil (G:=G) (sz:=6)).snoc (q:=x.dat) (cs:=x.cells) (Xb G x) rfl
   simpa using this
  rw [eY,← List.singleton_append];exact h1.append (Py G l)
def qy (A:List bJ) (c:Int) (k:Nat):List iP:=((A.take k).filter (nU A c)).map (wY A c)
theorem Kg {A:List bJ} {c:Int} {k:Nat} (hk:k < A.length) (h:nU A c A[k]=false):qy A c (k+1)=qy A c k:=by
 unfold qy;rw [W9 hk,ah (by rw [h];decide),oW]
theorem WZ {A:List bJ} {c:Int} {k:Nat} (hk:k < A.length) (h:nU A c A[k]=true):qy A c (k+1)=qy A c k++[wY A c A[k]]:=by
 unfold qy;rw [W9 hk,au h]
theorem Px (A:List bJ) (c:Int) (k:Nat) (hk:k≤A.length):(qy A c k).length≤k:=by
 unfold qy
 rw [bT];exact Nat.le_trans (List.length_filter_le ..) (by rw [List.length_take];omega)
set_option maxHeartbeats 4000000 in
theorem Xc (G:GH) (w0:World) (hG:Hold G w0) (D:nK) (l:List ay) (hv:av G (.sl 11 (l.map ay.dat)) (fq D.f)) (hok:fQ l) (hz:bg l≤1073741824) (code:Int) (hc:0≤code∧code≤100) :
  Calls prog 37 #[D.val,vi code] w0 (bC w0 G fun u G'=>av G' (.sl 6 ((qx (fJ 0 0 l) code).map iP.dat)) u):=by
 have hn:=yS 0 0 l;have Ba:=Fw 0 0 l;have hml:maxLen=9223372036854775807:=rfl;obtain ⟨A,hA⟩:∃ A,A=fJ 0 0 l:=⟨_,rfl⟩;rw [← hA] at hn Ba ⊢;refine eN [(0,_),(1,_)] func37 rfl ntmps37 rfl rfl hG ?_;intro a H;refine cO (fun _ K1=>?_);refine fC (cs:=[_,_,_,_,_,_,_,_,_,_,_]) H wn rfl rfl rfl ?_;clear H;intro b2 a w hb2 H;refine kH H (ak K1 rfl (SQ fun _ K2=>?_));clear H K1;intro a H;obtain ⟨Ga,hma,hb',H⟩:=H.dP;have hga:=fun j v hj=>zx hb' 0 D.cells rfl j v hj;replace hv:=hv.mono hma;refine oz ?_;refine bD ru (cs:=D.cells) H wn rfl rfl (fun j v hj=>H.hp.aJ (hga j v hj)) rfl ?_;clear H;intro a H;refine s_call Si H wn rfl (Vq _ _ H.ro D l hv hok (by omega)) rfl ?_;clear H;rintro v14 E8 a w hr NI H;rw [← hA] at hr;obtain ⟨vA,n14,c14,rfl⟩:=hr.form;have Uy:=hr.len;rw [bT] at Uy;subst Uy;refine kH H (aV K2 rfl (SR fun _ K3=>Rm rfl ?_));clear H K2;intro a H;refine s_call abZ H wn rfl (adw _ _ H.ro A _ hr (by omega)) rfl ?_;clear H;rintro v16 qC a w ⟨bm,acc,rfl,Jh,hfm⟩ qM H;replace hr:=hr.mono qM;refine kH H (ak K3 rfl (SR fun _ K4=>ak K4 rfl (SQ fun _ K5=>SR fun _ K6=>Rm rfl (Rl jY rfl (Rm rfl (Kz K6 (SB ?_)))))));clear H K3 K4 K6;intro a H;skip;refine eZ (ι:=Nat × aj × OL × GH) (Tc:=[(1,_),(6,_),(17,_),(18,_)]) (Lc:=[]) (fun gh=>[(7,gh.2.1),(19,vi gh.1)]) (fun gh=>[]++gh.2.2.1) (fun gh=>gh.2.2.2) (fun gh=>gh.1≤A.length∧dD 55 6 gh.2.1 (qy A code gh.1).length (EP (qy A code gh.1)) gh.2.2.1∧(∀ b o,qC b=some o→gh.2.2.2 b=some o)) (fun gh=>A.length - gh.1) ((0,.slice none 0 0,[],qC)) (by exact (H).sub ⟨rfl,rfl,rfl,rfl,rfl,rfl,aB⟩) ?_ ?_
 ·exact ⟨iK _,dD.nil,fun _ _ h=>h⟩
 clear H;intro gh a w hI H;obtain ⟨k,v7,Lo,g⟩:=gh;dsimp only at hI H;obtain ⟨hk,hrw,hgm⟩:=hI;have hsl:=Px A code k hk;obtain ⟨v7A,v7c,rfl,-,-⟩:=hrw.shape;dsimp only [lca,aZ] at H;refine kP H (SR fun _ K7=>Rc rfl (Kz K7 (SQ fun _ K8=>Cd rfl ?_ ?_))) <;> clear H K7
 ·intro h20 a H
  try have Dp:=dT h20
  have hk2:k < A.length:=by omega
  obtain ⟨b,o,rfl,hrow⟩:=Cj (hr.mono hgm) hk2;obtain ⟨ha0,ha1⟩:=Ba A[k] (iQ hk2);have hbg:=hgm _ _ Jh;refine kP H (Kc K8 (SQ fun _ K9=>SB (SR fun _ aS=>Ri jY iV rfl rfl ?_)));clear H K8;intro a H;refine bD iV (cs:=A[k].cells) H wn rfl rfl (fun j v hj=>H.hp.aJ (hrow j v hj)) rfl ?_;clear H;intro a H;refine eU iV H wn rfl ?_;clear H;intro b9 a w xW H;refine bF iV 0 (vs:=[_,_,_,_,_]) _ H wn rfl rfl rfl rfl rfl rfl rfl rfl ?_;clear H;intro w H;dsimp only [List.set,setRow] at H;refine aS _ _ ?_;clear aS;refine bq (fun _ bA=>?_);refine bq (fun _ bK=>?_)
  by_cases c0:¬ A[k].code=code
  ·skip;refine dI hmx [[],[0],[],[0,1,2],(ra 0 4),(ra 0 5),(ra 0 5),(ra 0 5),[0,1,2,3,4,7],[0,1,2,3,4,6,7,8],(ra 0 10),(ra 0 5),(ra 0 12),(ra 0 13)] [] (by kernel_rfl) [_,vi A[k].code,_,_,_,undef,undef,undef,undef,undef,undef,undef,undef,_] H (aD (Z0 rfl (Rf FV rfl)) (Z1 0 23 rfl (Ro aG 0 rfl)) (Z0 rfl (Rm rfl)) (Z2 1 24 2 25 rfl (Rc rfl)) (aD (Z1 3 26 rfl (Rm rfl)) (aL (j:=4) (by kernel_rfl) (fun _ _ _ _ _ h=>h) rfl rfl rfl rfl rfl (fun _ _ h=>aN h (aF (aC c0))) rfl (fun _=>rfl)) (aL (j:=4) (by kernel_rfl) (fun _ _ _ _ _ h=>h) rfl rfl rfl rfl rfl (fun _ _ h=>aN h (aF (aC c0))) rfl (fun _=>rfl)) (aL (j:=4) (by kernel_rfl) (fun _ _ _ _ _ h=>h) rfl rfl rfl rfl rfl (fun _ _ h=>aN h (aF (aC c0))) rfl (fun _=>rfl)) (aD (aL (j:=4) (by kernel_rfl) (fun _ _ _ _ _ h=>h) rfl rfl rfl rfl rfl (fun _ _ h=>aN h (aF (aC c0))) rfl (fun _=>rfl)) (aL (j:=4) (by kernel_rfl) (fun _ _ _ _ _ h=>h) rfl rfl rfl rfl rfl (fun _ _ h=>aN h (aF (aC c0))) rfl (fun _=>rfl)) (aL (j:=4) (by kernel_rfl) (fun _ _ _ _ _ h=>h) rfl rfl rfl rfl rfl (fun _ _ h=>aN h (aF (aC c0))) rfl (fun _=>rfl)) (aL (j:=4) (by kernel_rfl) (fun _ _ _ _ _ h=>h) rfl rfl rfl rfl rfl (fun _ _ h=>aN h (aF (aC c0))) rfl (fun _=>rfl)) (aW (aL (j:=4) (by kernel_rfl) (fun _ _ _ _ _ h=>h) rfl rfl rfl rfl rfl (fun _ _ h=>aN h (aF (aC c0))) rfl (fun _=>rfl)) (aW (Z2 4 27 12 35 rfl (Pt (aC c0) rfl)) bY))))) ?_
   clear H;intro a w G zJ H hv;have H:=H.aQ (hv 13 36 rfl rfl) rfl;clear hv;refine aH ⟨rfl,?_⟩;refine bK _ _ ?_;clear bK;refine vX H rfl rfl ?_;refine dW ?_;refine K9 _ _ ?_;clear K9;refine kP H (SC (Rd rfl (Rm rfl ?_)));clear H;intro a H;refine aH ?_;refine dw ((k+1,_,Lo,_)) (by exact (H.dU (Pl:=[_]) (cK:=[]) [] (by decide) rfl).sub ⟨rfl,rfl,rfl,rfl,rfl,rfl,aB⟩) ?_ ?_
   ·(try dsimp only);exact ⟨by omega,by rw [Kg hk2 (by first|(simp [nU,c0];done)|(simpa using uw))];exact hrw,fun b o h=>zJ b o (hgm b o h)⟩
   first|omega|(dsimp only;omega)
  skip;refine dI hmx [[],[0],[],[0,1,2],(ra 0 4),(ra 0 5),(ra 0 5),(ra 0 5),[0,1,2,3,4,7],[0,1,2,3,4,6,7,8],(ra 0 10),(ra 0 5),(ra 0 12),(ra 0 13)] [] (by kernel_rfl) [_,vi A[k].code,_,_,_,_,_,_,vi A[k].id,.agg #[vi code,vi A[k].id],((mo A code A[k].id).getD Ap).val,A[k].val,.bool (!nU A code A[k]),_] H (aD (Z0 rfl (Rf FV rfl)) (Z1 0 23 rfl (Ro aG 0 rfl)) (Z0 rfl (Rm rfl)) (Z2 1 24 2 25 rfl (Rc rfl)) (aD (Z1 3 26 rfl (Rm rfl)) (Z1 4 27 rfl (YM (aO c0) rfl)) (Z1 4 27 rfl (YM (aO c0) rfl)) (Z1 4 27 rfl (YF AJ (aO c0) rfl)) (aD (Z2 7 30 4 27 rfl (YO aG 0 (aO c0) rfl)) ?_ ?_ ?_ (aW ?_ (aW (Z2 4 27 12 35 rfl (Pf (aO c0) rfl)) bY))))) ?_
  ·refine qF 6 29 8 31 4 27 rfl rfl fun _ a w G1 hG HT H fin=>?_;refine jJ Pz [_,_] H (wg H rfl rfl (aO c0)) rfl rfl rfl rfl ?_;clear H;intro a H;exact fin H iJ rfl
  ·refine qF 5 28 9 32 4 27 rfl rfl fun _ a w G1 hG HT H fin=>?_;refine ahF (ky:=(code,A[k].id)) (zv:=Ap.val) (l:=acc) Kv IW (by kernel_rfl) H (wg H rfl rfl (aO c0)) rfl rfl (H.ro _ _ (hG _ _ hbg)) rfl ?_;clear H;intro a H;rw [OA hfm] at H;exact fin H iJ rfl
  ·refine dL 4 27 rfl rfl fun _ a w G1 hG HT H fin=>?_;refine bD iV (cs:=[_,_,_,_,_]) H (wg H rfl rfl (aO c0)) rfl rfl (H.hp.dY 0 rfl rfl) rfl ?_;clear H;intro a H;exact fin H iJ rfl
  ·refine qF 10 33 11 34 4 27 rfl rfl fun _ a w G1 hG HT H fin=>?_;refine Pp S9 H (wg H rfl rfl (aO c0)) rfl rfl rfl rfl ?_;clear H;intro a H;rw [Zc] at H;exact fin H iJ (by show _=_;first|rfl|exact aF (Zd hfm c0 (iQ hk2)))
  clear H;intro a w G zJ H hv;have H:=H.aQ (hv 13 36 rfl rfl) rfl;clear hv;refine aH ⟨rfl,?_⟩;refine bK _ _ ?_;clear bK;refine kV H rfl ?_ ?_
  ·intro uw
   try have p36:=dT uw
   refine dW ?_;refine K9 _ _ ?_;clear K9;refine kP H (SC (Rd rfl (Rm rfl ?_)));clear H;intro a H;refine aH ?_;refine dw ((k+1,_,Lo,_)) (by exact (H.dU (Pl:=[_]) (cK:=[]) [] (by decide) rfl).sub ⟨rfl,rfl,rfl,rfl,rfl,rfl,aB⟩) ?_ ?_
   ·(try dsimp only);exact ⟨by omega,by rw [Kg hk2 (by first|(simp [nU,c0];done)|(simpa using uw))];exact hrw,fun b o h=>zJ b o (hgm b o h)⟩
   first|omega|(dsimp only;omega)
  intro uw
  try have p36:=dF uw
  have hst:nU A code A[k]=true:=by simpa using uw
  refine kP H (Kc bA (SR fun _ bR=>aR AJ aG 0 rfl rfl (aR TF fZ 0 rfl rfl (Rf vB rfl ?_))));clear H bA;intro a H;refine bD Ai (cs:=[_,_]) H wn rfl rfl (H.hp.dY 0 rfl rfl) rfl ?_;clear H;intro a H;refine kH H (Rf vB rfl ?_);clear H;intro a H;refine bD Ai (cs:=[_,_]) H wn rfl rfl (H.hp.dY 0 rfl rfl) rfl ?_;clear H;intro a H;refine jJ Kh [_,_,_,_,_,_] H wn rfl rfl rfl rfl ?_;clear H;intro a H;refine eU kR H wn rfl ?_;clear H;intro b10 a w F7 H;refine bF kR 0 (vs:=[_,_,_,_,_,_]) _ H wn rfl rfl rfl rfl rfl rfl rfl rfl ?_;clear H;intro w H;dsimp only [List.set,setRow] at H;refine bR _ _ ?_;clear bR;refine kP H (SR fun _ bP=>Rf xQ rfl (aR vw aG 0 rfl rfl (Rd rfl (Rf xQ rfl (Rf vw rfl ?_)))));clear H;intro a H;refine bF aG 0 (vs:=[_]) _ H wn rfl rfl rfl rfl rfl rfl rfl rfl ?_;clear H;intro w H;dsimp only [List.set,setRow] at H;refine bP _ _ ?_;clear bP;refine kP H (SR fun _ dJ=>Rf Ei rfl (aR vw aG 0 rfl rfl (Rd rfl (Rf Ei rfl (Rf vw rfl ?_)))));clear H;intro a H;refine bF aG 0 (vs:=[_]) _ H wn rfl rfl rfl rfl rfl rfl rfl rfl ?_;clear H;intro w H;dsimp only [List.set,setRow] at H;refine dJ _ _ ?_;clear dJ;refine qd (ι:=Int × Int) (Tc:=[(1,_),(6,_),(7,_),(10,_),(17,_),(18,_),(19,_)]) (Lc:=[(_,_)]) (fun gh=>[]) (fun gh=>[(b10,.cells #[vi A[k].id,.string A[k].name,vi A[k].flow,vi (A[k].at_+1),vi gh.1,vi gh.2] 55 (0,0))]++Lo) (fun gh=>G) (fun gh=>(gh.1,gh.2)=zk A code A[k]) (by exact (H.dU (Pl:=[_,_]) (cK:=[_,_]) [1,0] (by decide) rfl).sub ⟨rfl,rfl,rfl,rfl,rfl,rfl,rfl,aB⟩) ?_ ?_
  ·skip;refine kP H (SR fun _ dN=>Rm rfl (Rm rfl (Rd rfl (aR AJ aG 1 rfl rfl ?_))));clear H;intro a H;refine jJ Pz [_,_] H wn rfl rfl rfl rfl ?_;clear H;intro a H;refine WA (ky:=(code+1,A[k].id)) (zv:=Ap.val) (l:=acc) Kv IW (by kernel_rfl) H wn rfl rfl (H.ro _ _ (zJ _ _ hbg)) rfl ?_;clear H;intro a H;rw [OA hfm,show (mE (code+1,A[k].id) acc).isSome=(mo A (code+1) A[k].id).isSome by rw [hfm,Option.isSome_map]] at H;obtain ⟨E,hE⟩:∃ E,E=mo A (code+1) A[k].id:=⟨_,rfl⟩;dsimp only at H;rw [← hE] at H;obtain ⟨q,hq⟩:∃ q,q=E.getD Ap:=⟨_,rfl⟩;rw [← hq] at H;refine kH H (Rm rfl ?_);clear H;intro a H;(iterate 2 refine lu H wn rfl rfl rfl ?_;clear H;intro a H);refine eU iV H wn rfl ?_;clear H;intro b11 a w Jf H;refine bF iV 0 (vs:=[_,_,_,_,_]) _ H wn rfl rfl rfl rfl rfl rfl rfl rfl ?_;clear H;intro w H;dsimp only [List.set,setRow] at H;refine kH H (ak dN rfl (SR fun _ dx=>Rm rfl (Rm rfl (Sp 69 rfl ?_ ?_)))) <;> clear H dN
   ·intro iM a H
    try have p69:=dT iM
    refine kH H (YF vB iM rfl (YF Cu iM rfl (YO aG 0 iM rfl (YF vB iM rfl (YF Cu iM rfl (YO aG 2 iM rfl (YC iM rfl (Pt iM rfl (Rm rfl (Sp 78 rfl ?_ ?_)))))))))) <;> clear H
    ·intro mq a H
     try have OV:=dT mq
     refine kH H (YF vB mq rfl (YF vw mq rfl (YO aG 0 mq rfl (YF vB mq rfl (YF vw mq rfl (YO aG 2 mq rfl (YC mq rfl (Pt mq rfl (Kz dx (Cd rfl ?_ ?_)))))))))) <;> clear H dx
     ·intro CG a H
      refine kP H (SC (Rf vB rfl ?_));clear H;intro a H;refine bD Ai (cs:=[_,_]) H wn rfl rfl (H.hp.dY 0 rfl rfl) rfl ?_;clear H;intro a H;refine kH H (Rf Ei rfl ?_);clear H;intro a H;refine bF Ai 1 (vs:=[_,_]) _ H wn rfl rfl rfl rfl rfl rfl rfl rfl ?_;clear H;intro w H;dsimp only [List.set,setRow] at H;refine aH ?_;refine ⟨(q.flow,q.at_),by exact (H.dU (Pl:=[_,_,_]) (cK:=[_,_]) [2,1] (by decide) rfl).sub ⟨rfl,rfl,rfl,rfl,rfl,rfl,rfl,aB⟩,?_⟩;(try dsimp only);obtain ⟨e,he⟩:=Option.isSome_iff_exists.1 iM
      have hqe:q=e:=by rw [hq,he];rfl
      rw [hqe] at mq CG ⊢;exact (SY ⟨by rw [← hE,he],rH mq,rH CG⟩).symm
     intro CG a H
     try have p86:=dF CG
     refine fO ?_;refine ⟨(A[k].flow,A[k].at_+1),by exact (H.dU (Pl:=[_,_,_]) (cK:=[_,_]) [2,1] (by decide) rfl).sub ⟨rfl,rfl,rfl,rfl,rfl,rfl,rfl,aB⟩,?_⟩;(try dsimp only);refine (Ed ?_).symm;rw [← hE]
     cases hE2:E with
     | none=>trivial
     | some e =>
      have hqe:q=e:=by rw [hq,hE2];rfl
      dsimp only;rw [← hqe];rintro ⟨f1,f2⟩
      first|exact absurd f2 (of_decide_eq_false CG)|exact absurd f1 (of_decide_eq_false mq)|(rw [hE2] at iM;cases iM)
    intro mq a H
    try have OV:=dF mq
    refine kH H (aX mq rfl (aP mq rfl (aP mq rfl (Pf mq rfl (Kz dx (Cf rfl rfl ?_))))));clear H dx;intro a H;refine fO ?_;refine ⟨(A[k].flow,A[k].at_+1),by exact (H.dU (Pl:=[_,_,_]) (cK:=[_,_]) [2,1] (by decide) rfl).sub ⟨rfl,rfl,rfl,rfl,rfl,rfl,rfl,aB⟩,?_⟩;(try dsimp only);refine (Ed ?_).symm;rw [← hE]
    cases hE2:E with
    | none=>trivial
    | some e =>
     have hqe:q=e:=by rw [hq,hE2];rfl
     dsimp only;rw [← hqe];rintro ⟨f1,f2⟩
     first|exact absurd f2 (of_decide_eq_false CG)|exact absurd f1 (of_decide_eq_false mq)|(rw [hE2] at iM;cases iM)
   intro iM a H
   try have p69:=dF iM
   refine kH H (aX iM rfl (aP iM rfl (aP iM rfl (Pf iM rfl (Rm rfl (aX rfl rfl (aP rfl rfl (aP rfl rfl (Pf rfl rfl (Kz dx (Cf rfl rfl ?_)))))))))));clear H dx;intro a H;refine fO ?_;refine ⟨(A[k].flow,A[k].at_+1),by exact (H.dU (Pl:=[_,_,_]) (cK:=[_,_]) [2,1] (by decide) rfl).sub ⟨rfl,rfl,rfl,rfl,rfl,rfl,rfl,aB⟩,?_⟩;(try dsimp only);refine (Ed ?_).symm;rw [← hE]
   cases hE2:E with
   | none=>trivial
   | some e =>
    have hqe:q=e:=by rw [hq,hE2];rfl
    dsimp only;rw [← hqe];rintro ⟨f1,f2⟩
    first|exact absurd f2 (of_decide_eq_false CG)|exact absurd f1 (of_decide_eq_false mq)|(rw [hE2] at iM;cases iM)
  clear H;intro gh a w hI H;obtain ⟨tf,ta⟩:=gh;dsimp only at hI H;have hend:=hI;dsimp only [lca,aZ] at H;refine kP H (SC (Rm rfl ?_));clear H;intro a H;refine bD kR (cs:=[_,_,_,_,_,_]) H wn rfl rfl (H.hp.dY 1 rfl rfl) rfl ?_;clear H;intro a H;refine gQ tO kR [_,_,_,_,_,_] [_,_,_,_,_,_] H wn rfl rfl rfl rfl rfl (by intro i q h;match i,h with|0,h=>exact h|n+1,h=>simp at h) rfl rfl ?_;clear H;intro b92 a w ajJ H;refine oL (Li:=[_,_,_]) (Lo:=Lo) (news:=[vi A[k].id,.string A[k].name,vi A[k].flow,vi (A[k].at_+1),vi tf,vi ta]) tO kR rfl rfl H wn rfl rfl hrw rfl (H.hp.dY 0 rfl rfl) rfl (by omega) (by omega) rfl ?_;clear H;intro v93 YJ a w UR H;rw [show [vi A[k].id,Value.string A[k].name,vi A[k].flow,vi (A[k].at_+1),vi tf,vi ta]=(wY A code A[k]).cells by simp only [wY,iP.cells,← hend]] at UR;refine kH H (aV K9 rfl (SC (Rd rfl (Rm rfl ?_))));clear H K9;intro a H;refine aH ?_;refine dw ((k+1,v93,YJ,_)) (by exact (H.dU (Pl:=[_,_,_]) (cK:=[]) [] (by decide) rfl).sub ⟨rfl,rfl,rfl,rfl,rfl,rfl,aB⟩) ?_ ?_
  ·(try dsimp only);exact ⟨by omega,by rw [WZ hk2 hst,lH,WX];exact UR,fun b o h=>zJ b o (hgm b o h)⟩
  first|omega|(dsimp only;omega)
 intro h20 a H
 try have Dp:=dF h20
 obtain rfl:k=A.length:=by omega
 have hall:qy A code A.length=qx A code:=by unfold qy qx;rw [yY]
 rw [hall] at hrw;refine dW ?_;refine K5 _ _ ?_;clear K5;refine kP H (SR fun _ eu=>Rm rfl (ak eu rfl ?_));clear H eu;intro a H;refine lr H results37 rfl ?_;obtain ⟨Gr,hmr,hrep,H⟩:=St.sV (Li:=[]) H hrw (rows:=(qx A code).map iP.dat) (by simp) (Py _ _);exact H.rt (by rw [hall];exact hrep)
end
section
open Go.RowKit
theorem Mh:∀ args w,(callFunc 12 args).run prog w=.ok (.enter 12 args) w:=enters func12 rfl (by kernel_rfl)
theorem abT:∀ args w,(callFunc 36 args).run prog w=.ok (.enter 36 args) w:=enters func36 rfl (by kernel_rfl)
theorem aiL (G:GH) (w0:World) (hG:Hold G w0) (x:ay) (i2 i3:Int) (p i5 i6 d l f r:aj) (hs:x.text.size < 4611686018427387904) :
  Calls prog 36 #[.agg #[vi x.kind,vi i2,vi i3,.string x.text,p,i5,i6,d,l,f,r]] w0 (bC w0 G fun v G'=>v=vi (dV x:Nat)∧G=G'):=by
 refine eN [(0,_)] func36 rfl ntmps36 rfl rfl hG ?_;intro a H;refine cO (fun _ K1=>?_);refine fC (cs:=[_,_,_,_,_,_,_,_,_,_,_]) H wn rfl rfl rfl ?_;clear H;intro b1 a w hb1 H;refine kH H (ak K1 rfl (SQ fun _ K2=>SR fun _ K3=>aR jh aG 0 rfl rfl (Rc rfl (Kz K3 (Cd rfl ?_ ?_))))) <;> clear H K1 K3
 ·intro h7 a H
  try have p7:=dT h7
  refine kP H (SR fun _ K4=>aR sS fZ 0 rfl rfl ?_);clear H;intro a H;refine s_call Mt H wn rfl (LU _ _ H.ro _ hs) rfl ?_;clear H;rintro v11 _ a w ⟨rfl,rfl⟩ - H;refine kH H (Rm rfl ?_);clear H;intro a H;(iterate 2 refine lu H wn rfl rfl rfl ?_;clear H;intro a H);exact kH H (Ra rfl (ak K4 rfl (SR fun _ K5=>Rm rfl (ak K5 rfl (LR results36 rfl fun H=>H.rt ⟨by unfold dV;rw [au p7],rfl⟩)))))
 intro h7 a H
 try have p7:=dF h7
 exact kP H (Kc K2 (SR fun _ K6=>ak K6 rfl (LR results36 rfl fun H=>H.rt ⟨by unfold dV;rw [ah p7];rfl,rfl⟩)))
theorem Y9 {G:GH} {l:List bJ} {xs:List aj} (h:fH G 5 (l.map bJ.dat) xs):xs=qb l:=by
 obtain ⟨css,rfl,h2,h3⟩:=h;rw [bT] at h2
 have e:css=l.map bJ.cells:=by
  apply List.ext_getElem?
  intro j;rw [pY]
  by_cases hj:j < l.length
  ·have h4:=(h3 j l[j].dat css[j] (by simp [hj]) (gP (by omega))).1;rw [gP hj,gP (by omega),Rh h4];rfl
  rw [List.getElem?_eq_none (by omega),List.getElem?_eq_none (by omega)];rfl
 rw [e];rfl
theorem Rb (a b:List bJ):qb (a++b)=qb a++qb b:=by unfold qb;rw [nD,List.flatten_append]
abbrev uQ (v:aj) (A:List bJ) (Lo:OL):Prop:=dD 47 5 v A.length (qb A) Lo
theorem uQ.one {v:aj} {A:List bJ} {Lo:OL} (a:bJ) (h:dD 47 5 v (A.length+1) (qb A++a.cells) Lo):uQ v (A++[a]) Lo:=by
 show dD _ 5 v (A++[a]).length (qb (A++[a])) Lo
 rw [lH,Rb]
 have e:qb [a]=a.cells:=by simp [qb]
 rw [e];exact h
theorem uQ.app {G:GH} {v:aj} {A B:List bJ} {n:Nat} {news:List aj} {Lo:OL} (h:dD 47 5 v (A.length+n) (qb A++news) Lo) (hn:B.length=n) (hc:fH G 5 (B.map bJ.dat) news):uQ v (A++B) Lo:=by
 show dD _ 5 v (A++B).length (qb (A++B)) Lo
 rw [lH,Rb,hn,← Y9 hc];exact h
def KT (m:Nat):Prop:=∀ (G:GH) (w0:World),Hold G w0→∀ (g:Int) (l:List ay) (u:aj),av G (.sl 11 (l.map ay.dat)) u→fQ l→bg l < m →
 Calls prog 12 #[u,vi g] w0 (bC w0 G fun r G'=>av G' (.sl 5 ((fJ g 0 l).map bJ.dat)) r)
set_option maxHeartbeats 4000000 in
theorem ags {m:Nat} (ih:KT m) (hm:m≤1073741824):KT (m+1):=by
 intro G w0 hG g l u hu hok hz;obtain ⟨A,c,rfl,hc1,hc2,hgu⟩:=hu.slice;rw [bT] at *;have hll:=BM l;have hln:=yS g 0 l;have hml:maxLen=9223372036854775807:=rfl;refine eN [(0,_),(1,_)] func12 rfl ntmps12 rfl rfl hG ?_;intro a H;refine kP H (SR fun _ K1=>ak K1 rfl (SR fun _ K2=>ak K2 rfl (SR fun _ K3=>ak K3 rfl (SQ fun _ K4=>SR fun _ K5=>ak K5 rfl (SB ?_)))));clear H K1 K2 K3 K5;intro a H;skip;refine eZ (ι:=Nat × Nat × aj × List bJ × OL × GH) (Tc:=[(0,_),(1,_)]) (Lc:=[]) (fun gh=>[(5,gh.2.2.1),(6,vi gh.2.1),(7,vi gh.1)]) (fun gh=>[]++gh.2.2.2.2.1) (fun gh=>gh.2.2.2.2.2) (fun gh=>gh.1≤l.length∧uQ gh.2.2.1 gh.2.2.2.1 gh.2.2.2.2.1∧gh.2.2.2.1++fJ g gh.2.1 (l.drop gh.1)=fJ g 0 l∧fQ (l.drop gh.1)∧gh.2.1+bg (l.drop gh.1)≤4294967297∧(∀ b o,G b=some o→gh.2.2.2.2.2 b=some o)) (fun gh=>l.length - gh.1) ((0,0,.slice none 0 0,[],[],G)) (by exact (H).sub ⟨rfl,rfl,rfl,rfl,rfl,aB⟩) ?_ ?_
 ·exact ⟨iK _,dD.nil,rfl,hok,by dsimp only;rw [tZ];omega,fun _ _ h=>h⟩
 clear H;intro gh a w hI H;obtain ⟨k,t,v5,A1,Lo,g1⟩:=gh;dsimp only at hI H;obtain ⟨hk,hr1,hX,hok1,hat,hg1⟩:=hI
 have hl1:A1.length≤bg l:=by have:=aA List.length hX;rw [lH] at this;omega
 obtain ⟨v5A,v5c,rfl,-,-⟩:=hr1.shape;dsimp only [lca,aZ] at H;refine kP H (SQ fun _ K6=>SR fun _ K7=>Rm rfl (Rm rfl (Rl gI rfl (Rc rfl (Kz K7 (Cd rfl ?_ ?_)))))) <;> clear H K7
 ·intro dO a H
  try have lQ:=dT dO
  have hk2:k < l.length:=by omega
  obtain ⟨b,o,pA,pn,pc,dA,dn,dc,yA,yn,yc,fA,fn,fc,rA,rn,rc,rfl,hrow,hhd,hfl,hrw⟩:=zw hk2 hgu;replace hrow:=fun j u hj=>aK hg1 (hrow j u hj);replace hfl:=hfl.mono hg1;replace hrw:=hrw.mono hg1;have hrn:=hrw.len;rw [bT] at hrn;subst hrn;have hzs:=XQ hk2;have hzi:=nZ l[k];have JD:=HY (iQ hk2);have CY:=OG l[k];rw [lG hk2] at hX hok1;obtain ⟨hox,hok2⟩:=hok1.head;rw [fJ,La,hox.n1] at hX;rw [hox.n1] at CY;obtain ⟨x,hx⟩:∃ x,x=l[k]:=⟨_,rfl⟩;rw [← hx] at hX hox hrow hhd hfl hrw hzs hzi JD CY;have hrl:=H6 x.rows;refine kP H (Kc K6 (SQ fun _ K8=>SB (SR fun _ K9=>Rm rfl (Rm rfl (Ri gI dB rfl rfl ?_)))));clear H K6;intro a H;refine bD dB (cs:=[vi x.kind,vi x.code,vi x.id,.string x.text,.slice pA pn pc,vi x.head.marks.ins,vi x.head.marks.move,.slice dA dn dc,.slice yA yn yc,.slice fA fn fc,.slice rA x.rows.length rc]) H wn rfl rfl (fun j v hj=>H.hp.aJ (hrow j v hj)) rfl ?_;clear H;intro a H;refine eU dB H wn rfl ?_;clear H;intro b8 a w F9 H;refine bF dB 0 (vs:=[_,_,_,_,_,_,_,_,_,_,_]) _ H wn rfl rfl rfl rfl rfl rfl rfl rfl ?_;clear H;intro w H;dsimp only [List.set,setRow] at H;refine K9 _ _ ?_;clear K9;refine qd (ι:=aj × List bJ × OL) (Tc:=[(0,_),(1,_),(6,_),(7,_),(8,_)]) (Lc:=[(_,_)]) (fun gh=>[(5,gh.1)]) (fun gh=>[]++gh.2.2) (fun gh=>g1) (fun gh=>uQ gh.1 gh.2.1 gh.2.2∧gh.2.1=A1++(if x.kind=8 then [⟨x.code,x.id,x.text,g,(t:Int)⟩] else [])) (by exact (H).sub ⟨rfl,rfl,rfl,rfl,rfl,aB⟩) ?_ ?_
  ·skip;refine kP H (SR fun _ aS=>aR jh aG 0 rfl rfl (Rc rfl (Kz aS (Cd rfl ?_ ?_)))) <;> clear H aS
   ·intro h23 a H
    try have rY:=dT h23
    refine kP H (SC (Rm rfl (aR Cv aG 0 rfl rfl (aR zq aG 0 rfl rfl (aR sS fZ 0 rfl rfl (Rm rfl (Rm rfl ?_)))))));clear H;intro a H;refine jJ PD [_,_] H wn rfl rfl rfl rfl ?_;clear H;intro a H;refine jJ Xf [_,_,_,_,_] H wn rfl rfl rfl rfl ?_;clear H;intro a H;refine gQ jY iV [_,_,_,_,_] [_,_,_,_,_] H wn rfl rfl rfl rfl rfl (by intro i q h;match i,h with|0,h=>exact h|n+1,h=>simp at h) rfl rfl ?_;clear H;intro b35 a w ajE H;refine oL (Li:=[_,_]) (Lo:=Lo) (news:=[vi x.code,vi x.id,.string x.text,vi g,vi t]) jY iV rfl rfl H wn rfl rfl hr1 rfl (H.hp.dY 0 rfl rfl) rfl (by omega) (by omega) rfl ?_;clear H;intro v36 YD a w afk H;refine kH H (Ra rfl ?_);clear H;intro a H;refine aH ?_;refine ⟨(v36,A1++[⟨x.code,x.id,x.text,g,(t:Int)⟩],YD),by exact (H.dU (Pl:=[_,_]) (cK:=[_]) [1] (by decide) rfl).sub ⟨rfl,rfl,rfl,rfl,rfl,rfl,aB⟩,?_⟩;(try dsimp only);exact ⟨uQ.one ⟨x.code,x.id,x.text,g,(t:Int)⟩ afk,by rw [au rY]⟩
   intro h23 a H
   try have rY:=dF h23
   refine fO ?_;refine ⟨(_,A1,Lo),by exact (H).sub ⟨rfl,rfl,rfl,rfl,rfl,rfl,aB⟩,?_⟩;(try dsimp only);exact ⟨hr1,by rw [ah rY,oW]⟩
  clear H;intro gh a w hI H;obtain ⟨v2,A2,Iq⟩:=gh;dsimp only at hI H;obtain ⟨hr2,hX2⟩:=hI
  have hl2:A2.length≤bg l+1:=by rw [hX2,lH];split <;> simp only [nA,List.length_nil] <;> omega
  obtain ⟨v2A,v2c,rfl,-,-⟩:=hr2.shape;dsimp only [lca,aZ] at H;refine qd (ι:=aj × List bJ × OL × GH) (Tc:=[(0,_),(1,_),(6,_),(7,_),(8,_)]) (Lc:=[(_,_)]) (fun gh=>[(5,gh.1)]) (fun gh=>[]++gh.2.2.1) (fun gh=>gh.2.2.2) (fun gh=>uQ gh.1 gh.2.1 gh.2.2.1∧gh.2.1=A2++(if x.kind=6 then fJ x.id 0 x.flow else [])∧gh.2.1.length≤bg l+1∧(∀ b o,g1 b=some o→gh.2.2.2 b=some o)) (by exact (H).sub ⟨rfl,rfl,rfl,rfl,rfl,aB⟩) ?_ ?_
  ·skip;refine kP H (SR fun _ bA=>aR jh aG 0 rfl rfl (Rc rfl (Kz bA (Cd rfl ?_ ?_)))) <;> clear H bA
   ·intro kr a H
    try have p39:=dT kr
    refine kP H (SC (Rm rfl (aR xR gZ 0 rfl rfl (aR zq aG 0 rfl rfl ?_))));clear H;intro a H;refine s_call Mh H wn rfl (ih _ _ H.ro x.id x.flow _ hfl hox.fl (by omega)) rfl ?_;clear H;rintro v45 KP a w NY NK H;obtain ⟨A45,n45,c45,rfl⟩:=NY.form;have hn45:=NY.len;rw [bT] at hn45;have ajP:=yS x.id 0 x.flow;refine Wy (Li:=[_]) (Lo:=Iq) jY iV rfl rfl H wn rfl rfl hr2 NY (by omega) (by omega) rfl ?_;clear H;intro v46 Cb akn a w afl aey H;refine kH H (Ra rfl ?_);clear H;intro a H;refine aH ?_;refine ⟨(v46,A2++fJ x.id 0 x.flow,Cb,KP),by exact (H).sub ⟨rfl,rfl,rfl,rfl,rfl,rfl,aB⟩,?_⟩;(try dsimp only);exact ⟨uQ.app afl hn45.symm aey,by rw [au p39],by have:=aA List.length hX;simp only [hX2,lH,au p39,ah (show ¬ x.kind=8 by omega),List.length_nil] at this ⊢;omega,NK⟩
   intro kr a H
   try have p39:=dF kr
   refine fO ?_;refine ⟨(_,A2,Iq,g1),by exact (H).sub ⟨rfl,rfl,rfl,rfl,rfl,rfl,aB⟩,?_⟩;(try dsimp only);exact ⟨hr2,by rw [ah p39,oW],hl2,fun _ _ h=>h⟩
  clear H;intro gh a w hI H;obtain ⟨v3,A3,YB,g2⟩:=gh;dsimp only at hI H;obtain ⟨hr3,hX3,hl3,hg2⟩:=hI;obtain ⟨v3A,v3c,rfl,-,-⟩:=hr3.shape;dsimp only [lca,aZ] at H;refine kP H (SQ fun _ bK=>SR fun _ bR=>ak bR rfl (SB ?_));clear H bR;intro a H;skip;refine eZ (ι:=Nat × aj × List bJ × OL × GH) (Tc:=[(0,_),(1,_),(6,_),(7,_),(8,_)]) (Lc:=[(_,_)]) (fun gh=>[(5,gh.2.1),(9,vi gh.1)]) (fun gh=>[]++gh.2.2.2.1) (fun gh=>gh.2.2.2.2) (fun gh=>gh.1≤x.rows.length∧uQ gh.2.1 gh.2.2.1 gh.2.2.2.1∧gh.2.2.1++lW (x.rows.drop gh.1)=A3++lW x.rows∧(∀ b o,g2 b=some o→gh.2.2.2.2 b=some o)) (fun gh=>x.rows.length - gh.1) ((0,_,A3,YB,g2)) (by exact (H).sub ⟨rfl,rfl,rfl,rfl,rfl,rfl,rfl,aB⟩) ?_ ?_
  ·exact ⟨iK _,hr3,rfl,fun _ _ h=>h⟩
  clear H;intro gh a w hI H;obtain ⟨rk,v4,A4,QN,g3⟩:=gh;dsimp only at hI H;obtain ⟨JB,hr4,Eo,hg3⟩:=hI;obtain ⟨v4A,v4c,rfl,-,-⟩:=hr4.shape;dsimp only [lca,aZ] at H;refine kP H (SQ fun _ bP=>SR fun _ dJ=>Rm rfl (aR qg qz 0 rfl rfl (Rl mG rfl (Rc rfl (Kz dJ (Cd rfl ?_ ?_)))))) <;> clear H dJ
  ·intro iT a H
   try have p51:=dT iT
   have hk3:rk < x.rows.length:=by omega
   obtain ⟨b2,o2,qA,qn,qc,eA,en,ec,zA,zn,zc,cA,cn,cc,rfl,hrow2,zR,hcl⟩:=GV hk3 ((hrw.mono hg2).mono hg3).at_;have hcn:=hcl.len;rw [bT] at hcn;subst hcn;have r5:aJ g3 b2 (o2+rk*6+5)=some (.slice cA x.rows[rk].cells.length cc):=hrow2 5 _ rfl;have hsz2:=KF hk3;have hcs:=Hz x.rows[rk].cells;have hoc:=hox.rw _ (iQ hk3);have har:=Lb x.rows;rw [lG hk3,lW,Q5] at Eo;obtain ⟨y,hy⟩:∃ y,y=x.rows[rk]:=⟨_,rfl⟩;rw [← hy] at r5 Eo hrow2 zR hcl hsz2 hcs hoc;refine kP H (Kc bP (SQ fun _ dN=>SB (SR fun _ dx=>ak dx rfl (SB ?_))));clear H bP dx;intro a H;skip;refine eZ (ι:=Nat × aj × List bJ × OL × GH) (Tc:=[(0,_),(1,_),(6,_),(7,_),(8,_),(9,_)]) (Lc:=[(_,_)]) (fun gh=>[(5,gh.2.1),(10,vi gh.1)]) (fun gh=>[]++gh.2.2.2.1) (fun gh=>gh.2.2.2.2) (fun gh=>gh.1≤y.cells.length∧uQ gh.2.1 gh.2.2.1 gh.2.2.2.1∧gh.2.2.1++(oo (y.cells.drop gh.1)++lW (x.rows.drop (rk+1)))=A4++(oo y.cells++lW (x.rows.drop (rk+1)))∧(∀ b o,g3 b=some o→gh.2.2.2.2 b=some o)) (fun gh=>y.cells.length - gh.1) ((0,_,A4,QN,g3)) (by exact (H).sub ⟨rfl,rfl,rfl,rfl,rfl,rfl,rfl,rfl,aB⟩) ?_ ?_
   ·exact ⟨iK _,hr4,rfl,fun _ _ h=>h⟩
   clear H;intro gh a w hI H;obtain ⟨ck,v5',A5,QO,g4⟩:=gh;dsimp only at hI H;obtain ⟨hck,N7,Ep,hg4⟩:=hI;have O5:=aK hg4 r5
   have hl5:A5.length≤bg l+1+gT x.rows:=by
    have h1:=aA List.length Ep;have h2:=aA List.length Eo
    simp only [lH] at h1 h2
    omega
   obtain ⟨Ht,Hu,rfl,-,-⟩:=N7.shape;dsimp only [lca,aZ] at H;refine kP H (SQ fun _ eu=>SR fun _ gy=>Rm rfl (aR qg qz 0 rfl rfl (Rm rfl (Ri mG jQ rfl rfl (Rf vC rfl (Rg vQ rfl O5 (Rl pU rfl (Rc rfl (Kz gy (Cd rfl ?_ ?_)))))))))) <;> clear H gy
   ·intro CB a H
    try have p62:=dT CB
    have hk4:ck < y.cells.length:=by omega
    obtain ⟨b3,o3,sA,sn,sc,tA,tn,tc,uA,un,uc,gA,gn,gc,rfl,hrow3,hch,hcf⟩:=FB hk4 (hcl.mono hg4).at_;have Oa:=KE hk4;have Jv:=hoc _ (iQ hk4);have hlz:=yS y.cells[ck].id 0 y.cells[ck].flow;rw [lG hk4,oo,QZ,ou] at Ep;obtain ⟨z,hzy⟩:∃ z,z=y.cells[ck]:=⟨_,rfl⟩;rw [← hzy] at Ep hrow3 hch hcf Oa Jv hlz;refine kP H (Kc eu (SQ fun _ fu=>SB ?_));clear H eu;intro a H
    have mM:∀ (bS:Nat) (v:aj) (G G':GH),(∀ k o,G k=some o→G' k=some o)→(fun (bS:Nat) (v:aj) (G:GH)=>match bS with|0=>v=.slice Ht A5.length Hu|1=>v=(aI b8 10)|2=>v=.slice (some ⟨b2,o2,none⟩) x.rows.length rc|3=>v=vi rk|4=>v=(aI b2 (o2+rk*6))|5=>v=(aI b2 (o2+rk*6+5))|6=>v=.slice (some ⟨b3,o3,none⟩) y.cells.length cc|7=>v=vi ck|8=>v=(aI b3 (o3+ck*7))|9=>v=(aI b3 (o3+ck*7+6))|10=>v=.slice gA gn gc|11=>v=(aI b8 10)|12=>v=.slice (some ⟨b2,o2,none⟩) x.rows.length rc|13=>v=vi rk|14=>v=(aI b2 (o2+rk*6))|15=>v=(aI b2 (o2+rk*6+5))|16=>v=.slice (some ⟨b3,o3,none⟩) y.cells.length cc|17=>v=vi ck|18=>v=(aI b3 (o3+ck*7))|19=>v=(aI b3 (o3+ck*7+0))|20=>v=vi z.id|21=>av G (.sl 5 ((fJ z.id 0 z.flow).map bJ.dat)) v|_=>True) bS v G→(fun (bS:Nat) (v:aj) (G:GH)=>match bS with|0=>v=.slice Ht A5.length Hu|1=>v=(aI b8 10)|2=>v=.slice (some ⟨b2,o2,none⟩) x.rows.length rc|3=>v=vi rk|4=>v=(aI b2 (o2+rk*6))|5=>v=(aI b2 (o2+rk*6+5))|6=>v=.slice (some ⟨b3,o3,none⟩) y.cells.length cc|7=>v=vi ck|8=>v=(aI b3 (o3+ck*7))|9=>v=(aI b3 (o3+ck*7+6))|10=>v=.slice gA gn gc|11=>v=(aI b8 10)|12=>v=.slice (some ⟨b2,o2,none⟩) x.rows.length rc|13=>v=vi rk|14=>v=(aI b2 (o2+rk*6))|15=>v=(aI b2 (o2+rk*6+5))|16=>v=.slice (some ⟨b3,o3,none⟩) y.cells.length cc|17=>v=vi ck|18=>v=(aI b3 (o3+ck*7))|19=>v=(aI b3 (o3+ck*7+0))|20=>v=vi z.id|21=>av G (.sl 5 ((fJ z.id 0 z.flow).map bJ.dat)) v|_=>True) bS v G':=by
     intro bS v G G' hm h
     match bS,h with
     | 0,h=>exact h
     | 1,h=>exact h
     | 2,h=>exact h
     | 3,h=>exact h
     | 4,h=>exact h
     | 5,h=>exact h
     | 6,h=>exact h
     | 7,h=>exact h
     | 8,h=>exact h
     | 9,h=>exact h
     | 10,h=>exact h
     | 11,h=>exact h
     | 12,h=>exact h
     | 13,h=>exact h
     | 14,h=>exact h
     | 15,h=>exact h
     | 16,h=>exact h
     | 17,h=>exact h
     | 18,h=>exact h
     | 19,h=>exact h
     | 20,h=>exact h
     | 21,h=>exact av.mono hm h
     | 22,h=>exact trivial
     | 23,h=>exact trivial
     | _+24,h=>exact trivial
    refine AA (hmx) [[],[],[1],[],[1,2,3],(ra 1 4),(ra 1 5),[],(ra 1 7),(ra 1 8),(ra 1 9),[],[11],[],[11,12,13],(ra 11 4),(ra 11 5),[],(ra 11 7),(ra 11 8),(ra 11 9),(ra 1 20),(ra 0 22),(ra 0 23)] [22,23] (by kernel_rfl) (by kernel_rfl) (fun (bS:Nat) (v:aj) (G:GH)=>match bS with|0=>v=.slice Ht A5.length Hu|1=>v=(aI b8 10)|2=>v=.slice (some ⟨b2,o2,none⟩) x.rows.length rc|3=>v=vi rk|4=>v=(aI b2 (o2+rk*6))|5=>v=(aI b2 (o2+rk*6+5))|6=>v=.slice (some ⟨b3,o3,none⟩) y.cells.length cc|7=>v=vi ck|8=>v=(aI b3 (o3+ck*7))|9=>v=(aI b3 (o3+ck*7+6))|10=>v=.slice gA gn gc|11=>v=(aI b8 10)|12=>v=.slice (some ⟨b2,o2,none⟩) x.rows.length rc|13=>v=vi rk|14=>v=(aI b2 (o2+rk*6))|15=>v=(aI b2 (o2+rk*6+5))|16=>v=.slice (some ⟨b3,o3,none⟩) y.cells.length cc|17=>v=vi ck|18=>v=(aI b3 (o3+ck*7))|19=>v=(aI b3 (o3+ck*7+0))|20=>v=vi z.id|21=>av G (.sl 5 ((fJ z.id 0 z.flow).map bJ.dat)) v|_=>True) mM H ?_ ?_
    ·clear H;refine aD ?_ ?_ ?_ ?_ (aD ?_ ?_ ?_ ?_ (aD ?_ ?_ ?_ ?_ (aD ?_ ?_ ?_ ?_ (aD ?_ ?_ ?_ ?_ (aD ?_ ?_ (bL rfl) (bL rfl) bY)))))
     ·refine dM [] rfl trivial (by kernel_rfl) mM rfl rfl ?_;intro bQ a w G1 hG HT H fin;exact kH H (Rm rfl fun _ H=>fin H iJ rfl)
     ·refine dM [] rfl trivial (by kernel_rfl) mM rfl rfl ?_;intro bQ a w G1 hG HT H fin;exact kH H (Rf qg rfl fun _ H=>fin H iJ rfl)
     ·refine dM [(1,66,_)] rfl ⟨fun _ _ h=>h,aB⟩ (by kernel_rfl) mM rfl rfl ?_;intro bQ a w G1 hG HT H fin;exact kH H (Ro qz 0 rfl fun _ H=>fin H iJ rfl)
     ·refine dM [] rfl trivial (by kernel_rfl) mM rfl rfl ?_;intro bQ a w G1 hG HT H fin;exact kH H (Rm rfl fun _ H=>fin H iJ rfl)
     ·refine dM [(2,67,_),(3,68,_)] rfl ⟨fun _ _ h=>h,fun _ _ h=>h,aB⟩ (by kernel_rfl) mM rfl rfl ?_;intro bQ a w G1 hG HT H fin;exact kH H (Ri mG jQ rfl rfl fun _ H=>fin H iJ rfl)
     ·refine dM [(4,69,_)] rfl ⟨fun _ _ h=>h,aB⟩ (by kernel_rfl) mM rfl rfl ?_;intro bQ a w G1 hG HT H fin;exact kH H (Rf vC rfl fun _ H=>fin H iJ rfl)
     ·refine dM [(5,70,_)] rfl ⟨fun _ _ h=>h,aB⟩ (by kernel_rfl) mM rfl rfl ?_;intro bQ a w G1 hG HT H fin;exact kH H (Rg vQ rfl (aK hG O5) fun _ H=>fin H iJ rfl)
     ·refine dM [] rfl trivial (by kernel_rfl) mM rfl rfl ?_;intro bQ a w G1 hG HT H fin;exact kH H (Rm rfl fun _ H=>fin H iJ rfl)
     ·refine dM [(6,71,_),(7,72,_)] rfl ⟨fun _ _ h=>h,fun _ _ h=>h,aB⟩ (by kernel_rfl) mM rfl rfl ?_;intro bQ a w G1 hG HT H fin;exact kH H (Ri pU lT rfl rfl fun _ H=>fin H iJ rfl)
     ·refine dM [(8,73,_)] rfl ⟨fun _ _ h=>h,aB⟩ (by kernel_rfl) mM rfl rfl ?_;intro bQ a w G1 hG HT H fin;exact kH H (Rf Ej rfl fun _ H=>fin H iJ rfl)
     ·refine dM [(9,74,_)] rfl ⟨fun _ _ h=>h,aB⟩ (by kernel_rfl) mM rfl rfl ?_;intro bQ a w G1 hG HT H fin;exact kH H (Rg gZ rfl (aK hG (hrow3 6 _ rfl)) fun _ H=>fin H iJ rfl)
     ·refine dM [] rfl trivial (by kernel_rfl) mM rfl rfl ?_;intro bQ a w G1 hG HT H fin;exact kH H (Rf qg rfl fun _ H=>fin H iJ rfl)
     ·refine dM [(11,76,_)] rfl ⟨fun _ _ h=>h,aB⟩ (by kernel_rfl) mM rfl rfl ?_;intro bQ a w G1 hG HT H fin;exact kH H (Ro qz 0 rfl fun _ H=>fin H iJ rfl)
     ·refine dM [] rfl trivial (by kernel_rfl) mM rfl rfl ?_;intro bQ a w G1 hG HT H fin;exact kH H (Rm rfl fun _ H=>fin H iJ rfl)
     ·refine dM [(12,77,_),(13,78,_)] rfl ⟨fun _ _ h=>h,fun _ _ h=>h,aB⟩ (by kernel_rfl) mM rfl rfl ?_;intro bQ a w G1 hG HT H fin;exact kH H (Ri mG jQ rfl rfl fun _ H=>fin H iJ rfl)
     ·refine dM [(14,79,_)] rfl ⟨fun _ _ h=>h,aB⟩ (by kernel_rfl) mM rfl rfl ?_;intro bQ a w G1 hG HT H fin;exact kH H (Rf vC rfl fun _ H=>fin H iJ rfl)
     ·refine dM [(15,80,_)] rfl ⟨fun _ _ h=>h,aB⟩ (by kernel_rfl) mM rfl rfl ?_;intro bQ a w G1 hG HT H fin;exact kH H (Rg vQ rfl (aK hG O5) fun _ H=>fin H iJ rfl)
     ·refine dM [] rfl trivial (by kernel_rfl) mM rfl rfl ?_;intro bQ a w G1 hG HT H fin;exact kH H (Rm rfl fun _ H=>fin H iJ rfl)
     ·refine dM [(16,81,_),(17,82,_)] rfl ⟨fun _ _ h=>h,fun _ _ h=>h,aB⟩ (by kernel_rfl) mM rfl rfl ?_;intro bQ a w G1 hG HT H fin;exact kH H (Ri pU lT rfl rfl fun _ H=>fin H iJ rfl)
     ·refine dM [(18,83,_)] rfl ⟨fun _ _ h=>h,aB⟩ (by kernel_rfl) mM rfl rfl ?_;intro bQ a w G1 hG HT H fin;exact kH H (Rf FX rfl fun _ H=>fin H iJ rfl)
     ·refine dM [(19,84,_)] rfl ⟨fun _ _ h=>h,aB⟩ (by kernel_rfl) mM rfl rfl ?_;intro bQ a w G1 hG HT H fin;exact kH H (Rg aG rfl (aK hG (hrow3 0 _ rfl)) fun _ H=>fin H iJ rfl)
     refine dM [(10,75,_),(20,85,_)] rfl ⟨fun _ _ h=>h,fun _ _ h=>h,aB⟩ (by kernel_rfl) mM rfl rfl ?_;intro bQ a w G1 hG HT H fin;refine s_call Mh H wn rfl (ih _ _ H.ro z.id z.flow _ (hcf.mono hG) Jv (by omega)) rfl ?_;clear H;rintro v86 G86 a w Ez adX H;exact fin H adX (Ez)
    clear H;intro a w G adN H hv;have H:=H.aQ (hv 0 65 rfl rfl) rfl;obtain ⟨u86,afu,Ez⟩:=hv 21 86 (by decide) rfl;(try dsimp only at Ez);obtain ⟨A86,n86,c86,rfl⟩:=Ez.form;have Uz:=Ez.len;rw [bT] at Uz;have H:=H.jS afu;clear hv;refine Wy (Li:=[_]) (Lo:=QO) jY iV rfl rfl H wn rfl rfl N7 Ez (by omega) (by omega) rfl ?_;clear H;intro v87 YH ako a w afn aez H;refine kH H (Ra rfl ?_);clear H;intro a H;refine aH ⟨rfl,?_⟩;refine fu _ _ ?_;clear fu;refine kP H (SC (Rm rfl (Rd rfl (Ra rfl ?_))));clear H;intro a H;refine aH ?_;refine dw ((ck+1,v87,A5++fJ z.id 0 z.flow,YH,_)) (by exact (H).sub ⟨rfl,rfl,rfl,rfl,rfl,rfl,rfl,rfl,aB⟩) ?_ ?_
    ·(try dsimp only);exact ⟨by omega,uQ.app afn Uz.symm aez,by rw [← Ep,ou],fun b o h=>adN b o (hg4 b o h)⟩
    first|omega|(dsimp only;omega)
   intro CB a H
   try have p62:=dF CB
   refine dW ?_;refine dN _ _ ?_;clear dN;refine kP H (SC (Rm rfl (Rd rfl (Ra rfl ?_))));clear H;intro a H;refine aH ?_;refine dw ((rk+1,_,A5,QO,g4)) (by exact (H).sub ⟨rfl,rfl,rfl,rfl,rfl,rfl,rfl,aB⟩) ?_ ?_
   ·(try dsimp only);rw [iC (by omega),oo,ko] at Ep;exact ⟨by omega,N7,Ep.trans Eo,fun b o h=>hg4 b o (hg3 b o h)⟩
   first|omega|(dsimp only;omega)
  intro iT a H
  try have p51:=dF iT
  refine dW ?_;refine bK _ _ ?_;clear bK;refine kP H (SC (Rm rfl ?_));clear H;intro a H;refine bD dB (cs:=[_,_,_,_,_,_,_,_,_,_,_]) H wn rfl rfl (H.hp.dY 0 rfl rfl) rfl ?_;clear H;intro a H;refine s_call abT H wn rfl (aiL _ _ H.ro x _ _ _ _ _ _ _ _ _ (by omega)) rfl ?_;clear H;rintro v90 _ a w ⟨rfl,rfl⟩ - H;refine kH H (Rd rfl (aV K8 rfl (SC (Rm rfl (Rd rfl (Ra rfl ?_))))));clear H K8;intro a H;refine aH ?_;refine dw ((k+1,t+dV x,_,A4,QN,g3)) (by exact (H.dU (Pl:=[_]) (cK:=[]) [] (by decide) rfl).sub ⟨rfl,rfl,rfl,rfl,rfl,aB⟩) ?_ ?_
  ·try dsimp only
   have afj:(if x.kind=7 then lW x.rows else [])=lW x.rows:=by
    by_cases h7:x.kind=7
    ·rw [au h7]
    rw [ah h7,hox.J2 h7];rfl
   rw [iC (by omega),lW,oW] at Eo;exact ⟨by omega,hr4,by rw [Eo,hX3,hX2,← hX,afj];simp only [ou],hok2,by omega,fun b o h=>hg3 b o (hg2 b o (hg1 b o h))⟩
  first|omega|(dsimp only;omega)
 intro dO a H
 try have lQ:=dF dO
 refine dW ?_;refine K4 _ _ ?_;clear K4;refine kP H (SR fun _ gD=>Rm rfl (ak gD rfl ?_));clear H gD;intro a H;refine lr H results12 rfl ?_;rw [iC (by omega),fJ,oW] at hX;obtain ⟨Gr,hmr,hrep,H⟩:=St.sV (Li:=[]) H hr1 (rows:=A1.map bJ.dat) (by simp) (Lj _ _);exact H.rt (by rw [← hX];exact hrep)
theorem VH:∀ m:Nat,m≤1073741825→KT m
 | 0,_=>fun _ _ _ _ _ _ _ _ h=>absurd h (by omega)
 | m+1,hm=>ags (VH m (by omega)) (by omega)
def uG (A:List bJ) (c i:Int):Int:=match A.findIdx? (fun a=>decide (a.code=c∧a.id=i)) with|some k=>k|none=>-1
theorem TM (G:GH) (w0:World) (hG:Hold G w0) (A:List bJ) (v:aj) (c i:Int) (hv:av G (.sl 5 (A.map bJ.dat)) v) (hl:A.length≤4294967296) :
  Calls prog 38 #[v,vi c,vi i] w0 (bC w0 G fun u G'=>u=vi (uG A c i)∧G=G'):=by
 obtain ⟨vA,n,cc,rfl⟩:=hv.form;have hn:=hv.len;rw [bT] at hn;subst hn;refine eN [(0,_),(1,_),(2,_)] func38 rfl ntmps38 rfl rfl hG ?_;intro a H;refine kP H (SR fun _ K1=>ak K1 rfl (SQ fun _ K2=>SR fun _ K3=>ak K3 rfl (SB ?_)));clear H K1 K3;intro a H;skip;refine eZ (ι:=Nat) (Tc:=[(0,_),(1,_),(2,_)]) (Lc:=[]) (fun gh=>[(7,vi gh)]) (fun gh=>[]) (fun gh=>G) (fun gh=>gh≤A.length∧(A.take gh).findIdx? (fun a=>decide (a.code=c∧a.id=i))=none) (fun gh=>A.length - gh) (0) (by exact (H).sub ⟨rfl,rfl,rfl,rfl,aB⟩) ?_ ?_
 ·exact ⟨by omega,rfl⟩
 clear H;intro gh a w hI H;obtain ⟨k,hgh⟩:∃ x,x=gh:=⟨_,rfl⟩;subst hgh;obtain ⟨hk,hno⟩:=hI;dsimp only [lca,aZ] at H;refine kP H (SQ fun _ K4=>SR fun _ K5=>Rm rfl (Rm rfl (Rl jY rfl (Rc rfl (Kz K5 (Cd rfl ?_ ?_)))))) <;> clear H K5
 ·intro h11 a H
  try have mZ:=dT h11
  have hk2:k < A.length:=by omega
  obtain ⟨b,o,rfl,hrow⟩:=Cj hv hk2;refine kP H (Kc K4 (SQ fun _ K6=>SB (SR fun _ K7=>Rm rfl (Rm rfl (Ri jY iV rfl rfl (Rf FV rfl (Rg aG rfl (hrow 0 _ rfl) (Rm rfl (Rc rfl (Rm rfl (Sp 21 rfl ?_ ?_))))))))))) <;> clear H K4
  ·intro h21 a H
   try have oK:=dT h21
   refine kH H (YM h21 rfl (YM h21 rfl (YI jY iV h21 rfl rfl (YF AJ h21 rfl (YR aG h21 rfl (hrow 1 _ rfl) (YM h21 rfl (YC h21 rfl (Pt h21 rfl (Kz K7 (Cd rfl ?_ ?_)))))))))) <;> clear H K7
   ·intro jG a H
    try have p29:=dT jG
    exact kP H (SR fun _ K8=>Rm rfl (ak K8 rfl (LR results38 rfl fun H=>H.rt ⟨by unfold uG;rw [tJ hk2 hno (by simp_all)],rfl⟩)))
   intro jG a H
   try have p29:=dF jG
   refine kP H (Kc K6 (SC (Rm rfl (Rd rfl (Ra rfl ?_)))));clear H K6;intro a H;refine aH ?_;refine dw ((k+1)) (by exact (H).sub ⟨rfl,rfl,rfl,rfl,aB⟩) ?_ ?_
   ·exact ⟨by omega,zV hk2 hno (by simp_all)⟩
   first|omega|(dsimp only;omega)
  intro h21 a H
  try have oK:=dF h21
  refine kH H (aX h21 rfl (aP h21 rfl (aP h21 rfl (Pf h21 rfl (Kz K7 (Cf rfl rfl (Kc K6 (SC (Rm rfl (Rd rfl (Ra rfl ?_)))))))))));clear H K7 K6;intro a H;refine aH ?_;refine dw ((k+1)) (by exact (H).sub ⟨rfl,rfl,rfl,rfl,aB⟩) ?_ ?_
  ·exact ⟨by omega,zV hk2 hno (by simp_all)⟩
  first|omega|(dsimp only;omega)
 intro h11 a H
 try have mZ:=dF h11
 refine dW ?_;refine K2 _ _ ?_;clear K2;exact kP H (SR fun _ K9=>ak K9 rfl (LR results38 rfl fun H=>H.rt ⟨by rw [show A.take k=A from jA (by omega)] at hno;unfold uG;rw [hno],rfl⟩))
end
end Go.Proofs.YteopmoocmoigcaaGreat
