/-
  What the claim stands on, part 4: Nck Cid Mt Hdr Hea Frm Itc Vis Okd Rws Itm Its Rvs Chd Ck13 Nf Vc Ubf Av16 Frs Hds Np13 Nq13 Rs24 Iat Bi13.
-/
import Derived.Test.YtdiflmikikiedaaGreatWcc
namespace Go.Proofs.YtdiflmikikiedaaGreat
set_option linter.all false
open Go.Proofs.Tryz
set_option maxRecDepth 20000
set_option maxHeartbeats 4000000
open Go.RowKit
theorem wG:prog.underlying 131=some (.map 3 4):=by kernel_rfl
instance:lD prog 131 (.map 3 4):=⟨wG⟩
instance mP:Ty prog 102 3 32 [.int .i64 0,.string ⟨#[]⟩,.int .i64 0] true:=⟨by kernel_rfl,by kernel_rfl⟩
theorem ati:qE prog 133 [(0,1),(1,1),(2,1),(3,1),(4,1),(5,1)] [.map none,.map none,.map none,.map none,.map none,.int .i64 0]:=⟨by kernel_rfl,by kernel_rfl⟩
instance IJ:dR prog 38 3 7:=⟨by kernel_rfl⟩
instance akV:dR prog 133 0 0:=⟨by kernel_rfl⟩
instance aty:Ty prog 130 1 8 [.map none] false:=⟨by kernel_rfl,by kernel_rfl⟩
instance akW:dR prog 133 1 1:=⟨by kernel_rfl⟩
instance yD:Ty prog 131 1 8 [.map none] false:=⟨by kernel_rfl,by kernel_rfl⟩
instance zN:dR prog 38 2 6:=⟨by kernel_rfl⟩
instance vw:Ty prog 30 1 24 [.slice none 0 0] false:=⟨by kernel_rfl,by kernel_rfl⟩
theorem nQ:prog.underlying 30=some (.slice 102):=by kernel_rfl
instance:lD prog 30 (.slice 102):=⟨nQ⟩
instance KL:dR prog 133 2 2:=⟨by kernel_rfl⟩
instance Oi:dR prog 102 0 0:=⟨by kernel_rfl⟩
structure bL where
 id:Int
 author:ByteArray
 time:Int
def bL.dat (x:bL):List Dat:=[li x.id,.lf (.string x.author),li x.time]
abbrev bL.cells (x:bL):List aj:=[vi x.id,.string x.author,vi x.time]
theorem JG {G:GH} {x:bL} {cs:List aj} (h:aV G x.dat cs):cs=x.cells:=by
 simp only [bL.dat,aV,au] at h
 obtain ⟨_,_,rfl,⟨rfl,_⟩,_,_,rfl,⟨rfl,_⟩,_,_,rfl,⟨rfl,_⟩,rfl⟩:=h
 rfl
theorem Wy {G:GH} {l:List bL} {A:Option Addr} {n c k:Nat} (hv:au G (.sl 3 (l.map bL.dat)) (.slice A n c)) (hk:k < l.length):∃ b o,A=some ⟨b,o,none⟩∧(∀ j u,l[k].cells[j]?=some u→aH G b (o+k*3+j)=some u):=by
 obtain ⟨A',c',he,_,_,hg⟩:=hv.slice
 injection he with e1 e2 e3
 subst e1;obtain ⟨b,o,cs,h1,h2,h3,h4⟩:=hg k l[k].dat (by simp [hk]);have:=JG h4;subst this;exact ⟨b,o,h1,h3⟩
abbrev gy (b ms ml mr mb mu:Nat) (n:Int):Nat × Obj:=(b,.cells #[.map (some ms),.map (some ml),.map (some mr),.map (some mb),.map (some mu),vi n] 133 (0,0))
def Al (l:List bU):List (Int × aj):=l.map fun s=>(s.id,vi s.kind)
def fI (l:List Int):List (Int × aj):=l.map fun k=>(k,.bool true)
structure wI (us:List Int) (G:GH) (st:List bU) (li:List eD) (rv:List bL) (ms ml mr mu:Nat):Prop where
 sty:G ms=some (eZ (Al st))
 mK:G ml=some (eZ (fI (li.map eD.id)))
 rev:G mr=some (eZ (fI (rv.map bL.id)))
 use:G mu=some (eZ (fI us))
theorem wI.mono {us:List Int} {G G':GH} {st:List bU} {li:List eD} {rv:List bL} {ms ml mr mu:Nat} (h:wI us G st li rv ms ml mr mu) (hm:∀ b o,G b=some o→G' b=some o):wI us G' st li rv ms ml mr mu:=⟨hm _ _ h.sty,hm _ _ h.mK,hm _ _ h.rev,hm _ _ h.use⟩
structure QZ (G:GH) (st:List bU) (li:List eD) (rv:List bL) (ms ml mr:Nat):Prop where
 sty:G ms=some (eZ (Al st))
 mK:G ml=some (eZ (fI (li.map eD.id)))
 rev:G mr=some (eZ (fI (rv.map bL.id)))
theorem QZ.with {us:List Int} {G G':GH} {st:List bU} {li:List eD} {rv:List bL} {ms ml mr mu:Nat} (h:QZ G st li rv ms ml mr) (hm:∀ b o,G b=some o→G' b=some o) (hu:G' mu=some (eZ (fI us))):wI us G' st li rv ms ml mr mu:=⟨hm _ _ h.sty,hm _ _ h.mK,hm _ _ h.rev,hu⟩
def Ck (l:List Int):Prop:=∀ (k:Nat) (h:k < l.length),l[k]∉l.take k
theorem apt {l:List bU} {k:Nat} (h:k < l.length):Al (l.take (k+1))=Al (l.take k)++[(l[k].id,vi l[k].kind)]:=by rw [Al,fV h,kV];rfl
theorem acp {l:List Int} {k:Nat} (h:k < l.length):fI (l.take (k+1))=fI (l.take k)++[(l[k],.bool true)]:=by rw [fI,fV h,kV];rfl
theorem aps {l:List bU} {k:Nat} (f:Ck (l.map bU.id)) (h:k < l.length):uX l[k].id (Al (l.take k))=none:=by
 refine Mj ?_;have:=f k (by simpa using h)
 simpa [Al,List.map_take,List.map_map,Function.comp_def] using this
theorem aco {l:List Int} {k:Nat} (f:Ck l) (h:k < l.length):uX l[k] (fI (l.take k))=none:=by
 refine Mj ?_;have:=f k h
 simpa [fI,List.map_map,Function.comp_def] using this
theorem apL (G:GH) (w0:World) (hO:gG G [] w0) (D:iE) (st:List bU) (li:List eD) (rv:List bL) (hst:au G (.sl 6 (st.map bU.dat)) (aQ D.s1)) (Eu:au G (.sl 2 (li.map eD.dat)) (aQ D.s2)) (pJ:au G (.sl 3 (rv.map bL.dat)) (aQ D.r))
  (f1:Ck (st.map bU.id)) (f2:Ck (li.map eD.id)) (f3:Ck (rv.map bL.id)) (z1:st.length≤4294967296) (z2:li.length≤4294967296) (z3:rv.length≤4294967296) :
  Calls prog 69 #[D.val] w0 (fP w0 G [] fun u G' L'=>∃ b ms ml mr mb mu,u=(aM b 0)∧L'=[gy b ms ml mr mb mu 0,(mb,eZ []),(mu,eZ [])]∧QZ G' st li rv ms ml mr):=by
 obtain ⟨df,dp,dd,dy,⟨rA,rn,rc⟩,⟨sA,sn,sc⟩,⟨lA,ln,lc⟩,d3,d4,ins,mv⟩:=D;dsimp only at hst Eu pJ
 obtain rfl:sn=st.length:=by have:=hst.len;simpa using this
 obtain rfl:ln=li.length:=by have:=Eu.len;simpa using this
 obtain rfl:rn=rv.length:=by have:=pJ.len;simpa using this
 have hml:maxLen=9223372036854775807:=rfl;refine jr (N:=64) (T:=[(0,_)]) func69 rfl ntmps69 rfl rfl hO ?_;intro a H;refine fK (fun _ K1=>?_);refine dW (cs:=[_,_,_,_,_,_,_,_,_,_,_]) H wn rfl rfl rfl ?_;clear H;intro b1 a w hb1 H;refine kH H (aF K1 rfl (SQ fun _ K2=>?_));clear H K1;intro a H;obtain ⟨Ga,hma,hb1',H⟩:=H.eB
 have hc7:aH Ga b1 7=some (.slice sA st.length sc):=by unfold aH;rw [hb1'];rfl
 have hc8:aH Ga b1 8=some (.slice lA li.length lc):=by unfold aH;rw [hb1'];rfl
 have hc6:aH Ga b1 6=some (.slice rA rv.length rc):=by unfold aH;rw [hb1'];rfl
 replace hst:=hst.mono hma;replace Eu:=Eu.mono hma;replace pJ:=pJ.mono hma;refine tO ?_;refine He H wn rfl ?_;clear H;intro b10 a w aml H;refine He H wn rfl ?_;clear H;intro b11 a w IZ H;refine He H wn rfl ?_;clear H;intro b12 a w FR H;refine He H wn rfl ?_;clear H;intro b13 a w OO H;refine He H wn rfl ?_;clear H;intro b14 a w aax H;refine jl ati [_,_,_,_,_,_] H wn rfl rfl rfl rfl ?_;clear H;intro a H;refine dW (cs:=[_,_,_,_,_,_]) H wn rfl rfl rfl ?_;clear H;intro b16 a w aay H;refine kH H (gY K2 rfl (SQ fun _ K3=>SR fun _ K4=>Rf IJ rfl (Rf Ef rfl (Rg Au rfl (by assumption) ?_))));clear H K2;intro a H;refine kH H (Rl sI rfl (Rm rfl (Kz K4 (SB ?_))));clear H K4;intro a H;skip;refine eH (ι:=Nat × GH) (Tc:=[(1,_),(3,_),(19,_),(20,_)]) (Lc:=[(_,_),(_,_),(_,_),(_,_),(_,_)]) (fun gh=>[(21,vi gh.1)]) (fun gh=>[(b10,eZ (Al (st.take gh.1)))]) (fun gh=>gh.2) (fun gh=>gh.1≤st.length∧(∀ b o,Ga b=some o→gh.2 b=some o)) (fun gh=>st.length - gh.1) ((0,Ga)) (by exact (H).sub ⟨rfl,rfl,rfl,rfl,rfl,aL⟩) ?_ ?_
 ·exact ⟨iH _,fun _ _ h=>h⟩
 clear H;rintro ⟨k,g1⟩ a w hI H;dsimp only at hI H;obtain ⟨hk,Jj⟩:=hI;dsimp only [lca,bK] at H;refine kP H (SR fun _ K5=>Rc rfl (Kz K5 (SQ fun _ K6=>Cd rfl ?_ ?_))) <;> clear H K5
 ·intro h22 a H
  try have jk:=dT h22
  have hk2:k < st.length:=by omega
  obtain ⟨xb,xo,pA,pc,rfl,hrow,-,-⟩:=Du (hst.mono Jj) hk2;have hnew:=aps f1 hk2;refine kP H (Kc K6 (SQ fun _ K7=>SB (SR fun _ K8=>Ri sI jK rfl rfl ?_)));clear H K6;intro a H;refine aR jK (cs:=_) H wn rfl rfl (fun j v hj=>H.hp.aH (hrow j v hj)) rfl ?_;clear H;intro a H;refine dJ jK H wn rfl ?_;clear H;intro b5 a w hb5 H;refine aY jK 0 (vs:=[_,_,_,_,_,_]) _ H wn rfl rfl rfl rfl rfl rfl rfl rfl ?_;clear H;intro w H;dsimp only [List.set,setRow] at H;refine K8 _ _ ?_;clear K8;refine dI hmx [[],[0],[0,1],[0,1,2],[],[4],[],[6],(ra 0 8)] [8] (by kernel_rfl) [_,_,_,.map (some b10),_,vi st[k].id,_,vi st[k].kind] H (aD (Z0 rfl (Rm rfl)) (Z1 0 25 rfl (Rk rfl)) (Z1 1 26 rfl (Rf akV rfl)) (Z1 2 27 rfl (Ro aty 1 rfl)) (aD (Z0 rfl (Rf Bo rfl)) (Z1 4 29 rfl (Ro aT 0 rfl)) (Z0 rfl (Rf Ti rfl)) (Z1 6 31 rfl (Ro aT 0 rfl)) (bM (bS rfl) cO))) ?_
  clear H;intro a w G lZ H hv;have H:=H.aN (hv 3 28 rfl rfl) rfl;have H:=H.aN (hv 5 30 rfl rfl) rfl;have H:=H.aN (hv 7 32 rfl rfl) rfl;clear hv;refine MI (i:=6) EY lq H wn rfl rfl rfl rfl hnew ?_;clear H;intro w H;dsimp only [List.set,List.append,lca,bK] at H;rw [← apt hk2] at H;refine aC ⟨rfl,?_⟩;refine K7 _ _ ?_;clear K7;refine kP H (SC (Rd rfl (Rm rfl ?_)));clear H;intro a H;refine aC ?_;refine dx ((k+1,G)) (by exact (H.dX (Pl:=[_,_,_,_,_,_,_]) (dN:=[_,_,_,_,_,_]) [1,2,3,4,5,6] (by decide) rfl).sub ⟨rfl,rfl,rfl,rfl,rfl,aL⟩) ?_
  (try dsimp only);exact ⟨by omega,fun b o h=>lZ b o (Jj b o h)⟩
 intro h22 a H
 try have jk:=dF h22
 obtain rfl:k=st.length:=by omega
 rw [vJ] at H;have ave:=aG Jj hc8;refine jI ?_;refine K3 _ _ ?_;clear K3;refine kP H (SQ fun _ K9=>SR fun _ eU=>Rf IJ rfl (Rf Eh rfl (Rg zq rfl (by assumption) ?_)));clear H;intro a H;refine kH H (Rl xC rfl (Rm rfl (Kz eU (SB ?_))));clear H eU;intro a H;skip;refine eH (ι:=Nat × GH) (Tc:=[(1,_),(3,_),(36,_),(37,_)]) (Lc:=[(_,_),(_,_),(_,_),(_,_),(_,_)]) (fun gh=>[(38,vi gh.1)]) (fun gh=>[(b11,eZ (fI ((li.map eD.id).take gh.1)))]) (fun gh=>gh.2) (fun gh=>gh.1≤li.length∧(∀ b o,g1 b=some o→gh.2 b=some o)) (fun gh=>li.length - gh.1) ((0,g1)) (by exact (H.dX (Pl:=[_,_,_,_,_,_]) (dN:=[_,_,_,_,_,_]) [0,1,2,3,5,4] (by decide) rfl).sub ⟨rfl,rfl,rfl,rfl,rfl,aL⟩) ?_ ?_
 ·exact ⟨iH _,fun _ _ h=>h⟩
 clear H;rintro ⟨k,g2⟩ a w hI H;dsimp only at hI H;obtain ⟨hk,O9⟩:=hI;dsimp only [lca,bK] at H;refine kP H (SR fun _ fQ=>Rc rfl (Kz fQ (SQ fun _ iF=>Cd rfl ?_ ?_))) <;> clear H fQ
 ·intro jV a H
  try have p39:=dT jV
  have hk2:k < li.length:=by omega
  obtain ⟨xb,xo,B,d,rfl,hrow,-⟩:=VH ((Eu.mono Jj).mono O9) hk2
  have hk3:k < (li.map eD.id).length:=by simpa using hk2
  have hnew:=aco f2 hk3
  have mG:(li.map eD.id)[k]=li[k].id:=by simp
  rw [mG] at hnew;refine kP H (Kc iF (SQ fun _ jd=>SB (SR fun _ iW=>Ri xC sH rfl rfl ?_)));clear H iF;intro a H;refine aR sH (cs:=_) H wn rfl rfl (fun j v hj=>H.hp.aH (hrow j v hj)) rfl ?_;clear H;intro a H;refine dJ sH H wn rfl ?_;clear H;intro b7 a w wT H;refine aY sH 0 (vs:=[_,_]) _ H wn rfl rfl rfl rfl rfl rfl rfl rfl ?_;clear H;intro w H;dsimp only [List.set,setRow] at H;refine iW _ _ ?_;clear iW;refine dI hmx [[],[0],[0,1],[0,1,2],[],[4],(ra 0 6)] [6] (by kernel_rfl) [_,_,_,.map (some b11),_,vi li[k].id] H (aD (Z0 rfl (Rm rfl)) (Z1 0 42 rfl (Rk rfl)) (Z1 1 43 rfl (Rf akW rfl)) (Z1 2 44 rfl (Ro yD 1 rfl)) (bM (Z0 rfl (Rf ZV rfl)) (bM (Z1 4 46 rfl (Ro aT 0 rfl)) (bM (bS rfl) cO)))) ?_
  clear H;intro a w G ru H hv;have H:=H.aN (hv 3 45 rfl rfl) rfl;have H:=H.aN (hv 5 47 rfl rfl) rfl;clear hv;refine MI (i:=6) wG lq H wn rfl rfl rfl rfl hnew ?_;clear H;intro w H;dsimp only [List.set,List.append,lca,bK] at H;rw [← mG,← acp hk3] at H;refine aC ⟨rfl,?_⟩;refine jd _ _ ?_;clear jd;refine kP H (SC (Rd rfl (Rm rfl ?_)));clear H;intro a H;refine aC ?_;refine dx ((k+1,G)) (by exact (H.dX (Pl:=[_,_,_,_,_,_,_]) (dN:=[_,_,_,_,_,_]) [1,2,3,4,5,6] (by decide) rfl).sub ⟨rfl,rfl,rfl,rfl,rfl,aL⟩) ?_
  (try dsimp only);exact ⟨by omega,fun b o h=>ru b o (O9 b o h)⟩
 intro jV a H
 try have p39:=dF jV
 obtain rfl:k=li.length:=by omega
 rw [gu (by simp)] at H;have avd:=aG O9 (aG Jj hc6);refine jI ?_;refine K9 _ _ ?_;clear K9;refine kP H (SQ fun _ mq=>SR fun _ oJ=>Rf zN rfl (Rg vw rfl (by assumption) ?_));clear H;intro a H;refine kH H (Rl nQ rfl (Rm rfl (Kz oJ (SB ?_))));clear H oJ;intro a H;skip;refine eH (ι:=Nat × GH) (Tc:=[(3,_),(50,_),(51,_)]) (Lc:=[(_,_),(_,_),(_,_),(_,_),(_,_)]) (fun gh=>[(52,vi gh.1)]) (fun gh=>[(b12,eZ (fI ((rv.map bL.id).take gh.1)))]) (fun gh=>gh.2) (fun gh=>gh.1≤rv.length∧(∀ b o,g2 b=some o→gh.2 b=some o)) (fun gh=>rv.length - gh.1) ((0,g2)) (by exact (H.dX (Pl:=[_,_,_,_,_,_]) (dN:=[_,_,_,_,_,_]) [0,1,2,4,5,3] (by decide) rfl).sub ⟨rfl,rfl,rfl,rfl,aL⟩) ?_ ?_
 ·exact ⟨iH _,fun _ _ h=>h⟩
 clear H;rintro ⟨k,g3⟩ a w hI H;dsimp only at hI H;obtain ⟨hk,aaX⟩:=hI;dsimp only [lca,bK] at H;refine kP H (SR fun _ qD=>Rc rfl (Kz qD (SQ fun _ pR=>Cd rfl ?_ ?_))) <;> clear H qD
 ·intro uS a H
  try have p53:=dT uS
  have hk2:k < rv.length:=by omega
  obtain ⟨xb,xo,rfl,hrow⟩:=Wy (((pJ.mono Jj).mono O9).mono aaX) hk2
  have hk3:k < (rv.map bL.id).length:=by simpa using hk2
  have hnew:=aco f3 hk3
  have mG:(rv.map bL.id)[k]=rv[k].id:=by simp
  rw [mG] at hnew;refine kP H (Kc pR (SQ fun _ pz=>SB (SR fun _ pU=>Ri nQ mP rfl rfl ?_)));clear H pR;intro a H;refine aR mP (cs:=_) H wn rfl rfl (fun j v hj=>H.hp.aH (hrow j v hj)) rfl ?_;clear H;intro a H;refine dJ mP H wn rfl ?_;clear H;intro b9 a w uT H;refine aY mP 0 (vs:=[_,_,_]) _ H wn rfl rfl rfl rfl rfl rfl rfl rfl ?_;clear H;intro w H;dsimp only [List.set,setRow] at H;refine pU _ _ ?_;clear pU;refine dI hmx [[],[0],[0,1],[0,1,2],[],[4],(ra 0 6)] [6] (by kernel_rfl) [_,_,_,.map (some b12),_,vi rv[k].id] H (aD (Z0 rfl (Rm rfl)) (Z1 0 56 rfl (Rk rfl)) (Z1 1 57 rfl (Rf KL rfl)) (Z1 2 58 rfl (Ro yD 1 rfl)) (bM (Z0 rfl (Rf Oi rfl)) (bM (Z1 4 60 rfl (Ro aT 0 rfl)) (bM (bS rfl) cO)))) ?_
  clear H;intro a w G zS H hv;have H:=H.aN (hv 3 59 rfl rfl) rfl;have H:=H.aN (hv 5 61 rfl rfl) rfl;clear hv;refine MI (i:=6) wG lq H wn rfl rfl rfl rfl hnew ?_;clear H;intro w H;dsimp only [List.set,List.append,lca,bK] at H;rw [← mG,← acp hk3] at H;refine aC ⟨rfl,?_⟩;refine pz _ _ ?_;clear pz;refine kP H (SC (Rd rfl (Rm rfl ?_)));clear H;intro a H;refine aC ?_;refine dx ((k+1,G)) (by exact (H.dX (Pl:=[_,_,_,_,_,_,_]) (dN:=[_,_,_,_,_,_]) [1,2,3,4,5,6] (by decide) rfl).sub ⟨rfl,rfl,rfl,rfl,aL⟩) ?_
  (try dsimp only);exact ⟨by omega,fun b o h=>zS b o (aaX b o h)⟩
 intro uS a H
 try have p53:=dF uS
 obtain rfl:k=rv.length:=by omega
 rw [gu (by simp)] at H;refine jI ?_;refine mq _ _ ?_;clear mq;refine kP H (SR fun _ pV=>Rm rfl (aF pV rfl ?_));clear H pV;intro a H;refine cK ?_;have H:=H.dX (Pl:=[_,_,_,_,_,_]) (dN:=[_,_,_,_,_,_]) [3,4,5,0,2,1] (by decide) rfl;obtain ⟨Gs,hms,hs,H⟩:=H.eB;obtain ⟨Gl,CZ,hl,H⟩:=H.eB;obtain ⟨Gr,hmr,hr,H⟩:=H.eB;refine lv H results69 rfl ?_;exact H.hp.dM ⟨b16,b10,b11,b12,b13,b14,rfl,rfl,⟨hmr _ _ (CZ _ _ hs),hmr _ _ hl,hr⟩⟩
section
instance:dR prog 133 4 4:=⟨by kernel_rfl⟩
instance:dR prog 133 3 3:=⟨by kernel_rfl⟩
variable {us:List Int}
theorem EJ (x:Int):∀ l:List Int,(uX x (fI l)).getD (.bool false)=.bool (decide (x∈l))
 | []=>rfl
 | k :: r=>by
  have ih:=EJ x r;rw [fI,fG,uX]
  by_cases e:k=x
  ·subst e;simp
  rw [ah e,show (r.map fun k=>(k,Value.bool true))=fI r from rfl,ih]
  simp [show x≠k from fun h=>e h.symm]
def QB (st:List bU) (v:Int):Int:=((st.find? fun s=>decide (s.id=v)).map bU.kind).getD 0
theorem Mk (x:Int):∀ l:List bU,(uX x (Al l)).getD (vi 0)=vi (QB l x)
 | []=>rfl
 | s :: r=>by
  have ih:=Mk x r;rw [Al,fG,uX]
  by_cases e:s.id=x
  ·subst e;simp [QB]
  rw [ah e,show (r.map fun s=>(s.id,vi s.kind))=Al r from rfl,ih]
  simp [QB,e]
def qN (us bN:List Int) (x:Int):Int:=if ¬ (1≤x∧x≤1073741824)∨x∈us then 18 else if x∈bN then 7 else 0
def kN (us bN:List Int) (x:Int):List Int:=if qN us bN x=0 then bN++[x] else bN
theorem apr (l:List Int) (x:Int):fI (l++[x])=fI l++[(x,.bool true)]:=by simp [fI]
theorem RZ (G:GH) (L:OL) (w0:World) (st:List bU) (li:List eD) (rv:List bL) (b ms ml mr mb mu:Nat) (n:Int) (bN:List Int) (x:Int) (hck:wI us G st li rv ms ml mr mu) (hO:gG G (gy b ms ml mr mb mu n :: (mb,eZ (fI bN)) :: L) w0) :
  Calls prog 198 #[(aM b 0),vi x] w0 (fP w0 G (gy b ms ml mr mb mu n :: (mb,eZ (fI bN)) :: L) fun u G' L'=>u=vi (qN us bN x)∧L'=gy b ms ml mr mb mu n :: (mb,eZ (fI (kN us bN x))) :: L∧G=G'):=by
 refine jr (N:=29) (T:=[(0,_),(1,_)]) func198 rfl ntmps198 rfl rfl hO ?_;refine av 7 ?_;intro a H;refine s_call xK H wn rfl (xW _ _ H.ro x 1 1073741824) rfl ?_;clear H;rintro v7 _ a w ⟨rfl,rfl⟩ - H;refine qd 2 9 H ?_ ?_ <;> clear H
 ·intro h9
  try have p9:=dT h9
  refine av 10 ?_
  have e:qN us bN x=18:=by rw [qN,ak (by first|(simp_all;done)|(simp_all;omega))]
  refine av 3 ?_;intro a H;refine lr H results198 rfl ?_
  first
   | exact H.hp.dM ⟨by rw [e],by rw [kN,ak e],rfl⟩
   | exact H.hp.dM ⟨by rw [e],by rw [kN,ah (by rw [e];decide)],rfl⟩
 intro h9
 try have p9:=dF h9
 refine av 1 ?_;intro a H;refine vg H (wg H rfl rfl h9) rfl rfl ?_;clear H;refine av 3 ?_;intro a H;refine Aq (zv:=.bool false) wG lq (by kernel_rfl) H (wg H rfl rfl h9) rfl rfl (H.ro _ _ hck.use) rfl ?_;clear H;intro a H;rw [EJ] at H;refine qb 3 H ?_ ?_ <;> clear H
 ·intro p5
  have e:qN us bN x=18:=by rw [qN,ak (by first|(simp_all;done)|(simp_all;omega))]
  refine av 3 ?_;intro a H;refine lr H results198 rfl ?_
  first
   | exact H.hp.dM ⟨by rw [e],by rw [kN,ak e],rfl⟩
   | exact H.hp.dM ⟨by rw [e],by rw [kN,ah (by rw [e];decide)],rfl⟩
 intro p5
 have hin:¬ (¬ (1≤x∧x≤1073741824)∨x∈us):=by first|(simp_all;done)|(simp_all;omega)
 refine av 6 ?_;intro a H;refine Aq (zv:=.bool false) wG lq (by kernel_rfl) H wn rfl rfl (H.hp.own _ (fJ _ eX)) rfl ?_;clear H;intro a H;rw [EJ] at H;refine lW 2 H ?_ ?_ <;> clear H
 ·intro eT
  have e:qN us bN x=7:=by rw [qN,ah hin,ak (nS eT)]
  refine av 3 ?_;intro a H;refine lr H results198 rfl ?_
  first
   | exact H.hp.dM ⟨by rw [e],by rw [kN,ak e],rfl⟩
   | exact H.hp.dM ⟨by rw [e],by rw [kN,ah (by rw [e];decide)],rfl⟩
 intro eT
 have hx:x∉bN:=of_decide_eq_false eT;have hnew:uX x (fI bN)=none:=Mj (by simpa [fI,List.map_map,Function.comp_def] using hx)
 have e:qN us bN x=0:=by rw [qN,ah hin,ah hx]
 refine av 7 ?_;intro a H;refine MI (i:=1) wG lq H wn rfl rfl rfl rfl hnew ?_;clear H;intro w H;dsimp only [List.set] at H;rw [← apr] at H;refine bJ 4 H ?_;clear H;intro a H;refine lr H results198 rfl ?_
 first
  | exact H.hp.dM ⟨by rw [e],by rw [kN,ak e],rfl⟩
  | exact H.hp.dM ⟨by rw [e],by rw [kN,ah (by rw [e];decide)],rfl⟩
def oW (st:List bU) (mK:List Int) (key v:Int):Int :=
 if key=20∨key=1 then dh (decide (v≠0∧QB st v≠(if key=1 then 2 else 1))) 25 else if key=33 then dh (decide (v≠0∧v∉mK)) 26 else 0
theorem R3 (G:GH) (w0:World) (hG:Hold G w0) (st:List bU) (li:List eD) (rv:List bL) (b ms ml mr mb mu:Nat) (n:Int) (key v:Int) (hck:wI us G st li rv ms ml mr mu) (hb:G b=some (gy b ms ml mr mb mu n).2) :
  Calls prog 130 #[(aM b 0),vi key,vi v] w0 (bB w0 G fun u G'=>u=vi (oW st (li.map eD.id) key v)∧G=G'):=by
 have hc0:aH G b 0=some (.map (some ms)):=by unfold aH;rw [hb];rfl
 have hc1:aH G b 1=some (.map (some ml)):=by unfold aH;rw [hb];rfl
 refine eN [(0,_),(1,_),(2,_)] func130 rfl ntmps130 rfl rfl hG ?_;refine goC 13 ?_ ?_
 ·intro h9
  try have p9:=dT h9
  refine goB 10 ?_ ?_
  ·intro qp
   refine mX 7 16 ?_ ?_
   ·intro h16
    try have p16:=dT h16
    refine av 1 ?_;intro a H;refine vg H (wg H rfl rfl h16) rfl rfl ?_;clear H;refine av 3 ?_;intro a H;refine Aq (zv:=vi 0) EY lq (by kernel_rfl) H (wg H rfl rfl h16) rfl rfl (H.ro _ _ hck.sty) rfl ?_;clear H;intro a H;rw [Mk] at H;refine bJ 3 H ?_;clear H;intro a H;refine s_call jQ H wn rfl (jU _ _ H.ro _ 25) rfl ?_;clear H;rintro v26 _ a w ⟨rfl,rfl⟩ - H;refine kJ 2 H ?_;exact ⟨aB vi (by unfold oW;(repeat' split) <;> first|rfl|(simp_all;done)|(exfalso;simp_all;done)|(congr 1;rw [nL];simp only [vI,mU,lF];exact ⟨fun h=>⟨p31,h⟩,fun h=>h.2⟩)),rfl⟩
   intro h16
   try have p16:=dF h16
   refine av 9 ?_;intro a H;refine s_call jQ H wn rfl (jU _ _ H.ro _ 25) rfl ?_;clear H;rintro v26 _ a w ⟨rfl,rfl⟩ - H;refine kJ 2 H ?_;exact ⟨aB vi (by unfold oW;(repeat' split) <;> first|rfl|(simp_all;done)|(exfalso;simp_all;done)|(congr 1;rw [nL];simp only [vI,mU,lF];exact ⟨fun h=>⟨p31,h⟩,fun h=>h.2⟩)),rfl⟩
  intro qp
  refine mX 5 16 ?_ ?_
  ·intro h16
   try have p16:=dT h16
   refine av 1 ?_;intro a H;refine vg H (wg H rfl rfl h16) rfl rfl ?_;clear H;refine av 3 ?_;intro a H;refine Aq (zv:=vi 0) EY lq (by kernel_rfl) H (wg H rfl rfl h16) rfl rfl (H.ro _ _ hck.sty) rfl ?_;clear H;intro a H;rw [Mk] at H;refine bJ 3 H ?_;clear H;intro a H;refine s_call jQ H wn rfl (jU _ _ H.ro _ 25) rfl ?_;clear H;rintro v26 _ a w ⟨rfl,rfl⟩ - H;refine kJ 2 H ?_;exact ⟨aB vi (by unfold oW;(repeat' split) <;> first|rfl|(simp_all;done)|(exfalso;simp_all;done)|(congr 1;rw [nL];simp only [vI,mU,lF];exact ⟨fun h=>⟨p31,h⟩,fun h=>h.2⟩)),rfl⟩
  intro h16
  try have p16:=dF h16
  refine av 9 ?_;intro a H;refine s_call jQ H wn rfl (jU _ _ H.ro _ 25) rfl ?_;clear H;rintro v26 _ a w ⟨rfl,rfl⟩ - H;refine kJ 2 H ?_;exact ⟨aB vi (by unfold oW;(repeat' split) <;> first|rfl|(simp_all;done)|(exfalso;simp_all;done)|(congr 1;rw [nL];simp only [vI,mU,lF];exact ⟨fun h=>⟨p31,h⟩,fun h=>h.2⟩)),rfl⟩
 intro h9
 try have p9:=dF h9
 refine goB 4 ?_ ?_
 ·intro p9
  refine goB 8 ?_ ?_
  ·intro qp
   refine mX 7 16 ?_ ?_
   ·intro h16
    try have p16:=dT h16
    refine av 1 ?_;intro a H;refine vg H (wg H rfl rfl h16) rfl rfl ?_;clear H;refine av 3 ?_;intro a H;refine Aq (zv:=vi 0) EY lq (by kernel_rfl) H (wg H rfl rfl h16) rfl rfl (H.ro _ _ hck.sty) rfl ?_;clear H;intro a H;rw [Mk] at H;refine bJ 3 H ?_;clear H;intro a H;refine s_call jQ H wn rfl (jU _ _ H.ro _ 25) rfl ?_;clear H;rintro v26 _ a w ⟨rfl,rfl⟩ - H;refine kJ 2 H ?_;exact ⟨aB vi (by unfold oW;(repeat' split) <;> first|rfl|(simp_all;done)|(exfalso;simp_all;done)|(congr 1;rw [nL];simp only [vI,mU,lF];exact ⟨fun h=>⟨p31,h⟩,fun h=>h.2⟩)),rfl⟩
   intro h16
   try have p16:=dF h16
   refine av 9 ?_;intro a H;refine s_call jQ H wn rfl (jU _ _ H.ro _ 25) rfl ?_;clear H;rintro v26 _ a w ⟨rfl,rfl⟩ - H;refine kJ 2 H ?_;exact ⟨aB vi (by unfold oW;(repeat' split) <;> first|rfl|(simp_all;done)|(exfalso;simp_all;done)|(congr 1;rw [nL];simp only [vI,mU,lF];exact ⟨fun h=>⟨p31,h⟩,fun h=>h.2⟩)),rfl⟩
  intro qp
  refine mX 5 16 ?_ ?_
  ·intro h16
   try have p16:=dT h16
   refine av 1 ?_;intro a H;refine vg H (wg H rfl rfl h16) rfl rfl ?_;clear H;refine av 3 ?_;intro a H;refine Aq (zv:=vi 0) EY lq (by kernel_rfl) H (wg H rfl rfl h16) rfl rfl (H.ro _ _ hck.sty) rfl ?_;clear H;intro a H;rw [Mk] at H;refine bJ 3 H ?_;clear H;intro a H;refine s_call jQ H wn rfl (jU _ _ H.ro _ 25) rfl ?_;clear H;rintro v26 _ a w ⟨rfl,rfl⟩ - H;refine kJ 2 H ?_;exact ⟨aB vi (by unfold oW;(repeat' split) <;> first|rfl|(simp_all;done)|(exfalso;simp_all;done)|(congr 1;rw [nL];simp only [vI,mU,lF];exact ⟨fun h=>⟨p31,h⟩,fun h=>h.2⟩)),rfl⟩
  intro h16
  try have p16:=dF h16
  refine av 9 ?_;intro a H;refine s_call jQ H wn rfl (jU _ _ H.ro _ 25) rfl ?_;clear H;rintro v26 _ a w ⟨rfl,rfl⟩ - H;refine kJ 2 H ?_;exact ⟨aB vi (by unfold oW;(repeat' split) <;> first|rfl|(simp_all;done)|(exfalso;simp_all;done)|(congr 1;rw [nL];simp only [vI,mU,lF];exact ⟨fun h=>⟨p31,h⟩,fun h=>h.2⟩)),rfl⟩
 intro p9
 refine goB 4 ?_ ?_
 ·intro p27
  refine mX 4 31 ?_ ?_
  ·intro h31
   try have p31:=dT h31
   refine av 1 ?_;intro a H;refine vg H (wg H rfl rfl h31) rfl rfl ?_;clear H;refine av 3 ?_;intro a H;refine Aq (zv:=.bool false) wG lq (by kernel_rfl) H (wg H rfl rfl h31) rfl rfl (H.ro _ _ hck.mK) rfl ?_;clear H;intro a H;rw [EJ] at H;refine bJ 2 H ?_;clear H;intro a H;refine s_call jQ H wn rfl (jU _ _ H.ro _ 26) rfl ?_;clear H;rintro v40 _ a w ⟨rfl,rfl⟩ - H;refine kJ 2 H ?_;exact ⟨aB vi (by unfold oW;(repeat' split) <;> first|rfl|(simp_all;done)|(exfalso;simp_all;done)|(congr 1;rw [nL];simp only [vI,mU,lF];exact ⟨fun h=>⟨p31,h⟩,fun h=>h.2⟩)),rfl⟩
  intro h31
  try have p31:=dF h31
  refine av 8 ?_;intro a H;refine s_call jQ H wn rfl (jU _ _ H.ro _ 26) rfl ?_;clear H;rintro v40 _ a w ⟨rfl,rfl⟩ - H;refine kJ 2 H ?_;exact ⟨aB vi (by unfold oW;(repeat' split) <;> first|rfl|(simp_all;done)|(exfalso;simp_all;done)|(congr 1;rw [nL];simp only [vI,mU,lF];exact ⟨fun h=>⟨p31,h⟩,fun h=>h.2⟩)),rfl⟩
 intro p27
 refine bP 4 ?_;exact ⟨aB vi (by unfold oW;(repeat' split) <;> first|rfl|(simp_all;done)|(exfalso;simp_all;done)|(congr 1;rw [nL];simp only [vI,mU,lF];exact ⟨fun h=>⟨p31,h⟩,fun h=>h.2⟩)),rfl⟩
end
section
section
variable {N:Nat} {D:List Deferred} {w0:World} {F:Nat→Prop} {G0 G G':GH} {L L':OL} {T:List (Nat × aj)}
variable {r:Option Nat} {P:Program} {ops:Array Oper} {Q:Exit→Act→World→Prop} {rest:List Oper} {a:Act} {w w':World}
theorem DI {ι:Type} {Tc:List (Nat × aj)} {l:List Oper} (k:Nat) (Tv:ι→List (Nat × aj)) (Pr:ι→Prop) (_:St N D w0 F G0 G L Tc a w)
  (h1:(∀ i a w,Pr i→St N D w0 F G0 G L (Tv i++Tc) a w→WL r P ops Q (l.drop k) a w)→WL r P ops Q l a w)
  (h2:∀ i a w,Pr i→St N D w0 F G0 G L (Tv i++Tc) a w→WL r P ops Q (l.drop k) a w):WL r P ops Q l a w:=h1 h2
theorem Change.back (h:Change w w' G G' L L'):Change w w' G G L L' :=
 ⟨h.os,h.tape,h.output,h.size,h.fr,fun _ _ h=>h,fun _ _ h=>.inl h,⟨fun k o hk=>h.owns.ro k o (h.gm k o hk),h.owns.own,fun p hp=>(by
  have hs:=h.owns.sep p hp
  cases hg:G p.1 with
  | none=>rfl
  | some o=>have:=h.gm _ _ hg;rw [hs] at this;cases this),h.owns.nd⟩,h.lx⟩
theorem fP.back {R:aj→GH→OL→Prop} {R':aj→OL→Prop} (hR:∀ v G' L',R v G' L'→R' v L') {e:Ending} (h:fP w G L R e w'):fP w G L (fun v G' L'=>G=G'∧R' v L') e w':=by
 obtain ⟨v,G',L',rfl,hc,hr⟩:=h
 exact ⟨v,G,L',rfl,hc.back,rfl,hR _ _ _ hr⟩
theorem Calls.afM {f:FuncId} {args:Array aj} {R:aj→GH→OL→Prop} {R':aj→OL→Prop} (h:Calls P f args w (fP w G L R)) (hR:∀ v G' L',R v G' L'→R' v L'):Calls P f args w (fP w G L fun v G' L'=>G=G'∧R' v L') :=
 h.mono fun _ _=>fP.back hR
theorem bB.back {R:aj→GH→Prop} {e:Ending} (h:bB w G R e w'):bB w G (fun v G'=>(∃ g,R v g)∧G=G') e w':=by
 obtain ⟨v,G',rfl,hb,hX,hr⟩:=h
 exact ⟨v,G,rfl,hb,⟨fun _ _ h=>h,fun _ _ h=>.inl h,fun k o hk=>hX.2.2 k o (hX.1 k o hk)⟩,⟨G',hr⟩,rfl⟩
theorem Yd {f:FuncId} {args:Array aj} {R:aj→GH→Prop} (h:Calls P f args w (bB w G R)):Calls P f args w (bB w G fun v G'=>(∃ g,R v g)∧G=G'):=h.mono fun _ _=>bB.back
theorem gG.add {b:Nat} {o:Obj} (h:gG G ((b,o) :: L) w):Hold (G.add b o) w:=fun k o' hk=>by
 unfold GH.add at hk
 split at hk
 ·next e=>cases hk;subst e;exact h.own _ eX
 ·exact h.ro k o' hk
theorem aqV {b:Nat} {o:Obj} {R:aj→GH→Prop} {R':aj→Prop} (hO:gG G ((b,o) :: L) w) (hR:∀ v G',R v G'→R' v) {e:Ending} (h:bB w (G.add b o) R e w'):fP w G ((b,o) :: L) (fun v G' L'=>G=G'∧L'=(b,o) :: L∧R' v) e w':=by
 obtain ⟨v,G',rfl,hb,hX,hr⟩:=h
 exact ⟨v,G,_,rfl,(hO.hp.below hb).ael,rfl,rfl,hR _ _ hr⟩
end
end
section
instance Tf:dR prog 161 0 0:=⟨by kernel_rfl⟩
instance xM:dR prog 161 1 1:=⟨by kernel_rfl⟩
instance Oj:dR prog 161 3 3:=⟨by kernel_rfl⟩
instance Ee:dR prog 161 2 2:=⟨by kernel_rfl⟩
theorem Sr:∀ args w,(callFunc 130 args).run prog w=.ok (.enter 130 args) w:=enters func130 rfl (by kernel_rfl)
variable {us:List Int}
structure bC where
 st:List bU
 mK:List Int
 iV:List Int
 us:List Int
abbrev bE (us:List Int) (st:List bU) (li:List eD) (rv:List bL):bC:=⟨st,li.map eD.id,rv.map bL.id,us⟩
theorem EH {G:GH} {l:List cB} {A:Option Addr} {n c k:Nat} (hv:au G (.sl 4 (l.map cB.dat)) (.slice A n c)) (hk:k < l.length):∃ b o,A=some ⟨b,o,none⟩∧(∀ j u,l[k].cells[j]?=some u→aH G b (o+k*4+j)=some u):=by
 obtain ⟨A',c',he,_,_,hg⟩:=hv.slice
 injection he with e1 e2 e3
 subst e1;obtain ⟨b,o,cs,h1,h2,h3,h4⟩:=hg k l[k].dat (by simp [hk]);have:=VB h4;subst this;exact ⟨b,o,h1,h3⟩
theorem Ob {G:GH} {l:List fO} {A:Option Addr} {n c k:Nat} (hv:au G (.sl 2 (l.map fO.dat)) (.slice A n c)) (hk:k < l.length):∃ b o,A=some ⟨b,o,none⟩∧(∀ j u,l[k].cells[j]?=some u→aH G b (o+k*2+j)=some u):=by
 obtain ⟨A',c',he,_,_,hg⟩:=hv.slice
 injection he with e1 e2 e3
 subst e1;obtain ⟨b,o,cs,h1,h2,h3,h4⟩:=hg k l[k].dat (by simp [hk]);have:=KG h4;subst this;exact ⟨b,o,h1,h3⟩
def wo (C:bC) (e:Int) (k:Nat) (x:cB) (pk:Int):Int :=
 if x.rev∉C.iV then 22 else if vQ e x.key=false then 4 else if 0 < k∧x.key < pk then 6 else if x.had=false then dh (decide (x.before≠0)) 21 else dY [tQ x.key x.before,oW C.st C.mK x.key x.before]
def xk (C:bC) (e:Int) (l:List cB) (k:Nat):Int:=match l[k]? with|some x=>wo C e k x ((l[k - 1]?.map cB.key).getD 0)|none=>0
theorem apd (G:GH) (w0:World) (hG:Hold G w0) (st:List bU) (li:List eD) (rv:List bL) (b ms ml mr mb mu:Nat) (n:Int) (hck:wI us G st li rv ms ml mr mu) (hb:G b=some (gy b ms ml mr mb mu n).2)
  (e:Int) (l:List cB) (v:aj) (hv:au G (.sl 4 (l.map cB.dat)) v) (k:Nat) (hk:k < l.length) :
  Calls prog 132 #[(aM b 0),vi e,v,vi k] w0 (bB w0 G fun u G'=>u=vi (xk (bE us st li rv) e l k)):=by
 have hc2:aH G b 2=some (.map (some mr)):=by unfold aH;rw [hb];rfl
 obtain ⟨A,c,rfl,hl1,hl2,-⟩:=hv.slice;have hml:maxLen=9223372036854775807:=rfl;rw [bO] at *;obtain ⟨xb,xo,rfl,hrow⟩:=EH hv hk
 have hk1:k - 1 < l.length:=by omega
 obtain ⟨b',o',he',hrow'⟩:=EH hv hk1
 injection he' with he'
 injection he' with e1 e2
 subst e1;subst e2
 have he:xk (bE us st li rv) e l k=wo (bE us st li rv) e k l[k] l[k - 1].key:=by unfold xk;rw [dZ hk,dZ hk1];rfl
 obtain ⟨x,hx⟩:∃ x,x=l[k]:=⟨_,rfl⟩;obtain ⟨y,hy⟩:∃ y,y=l[k - 1]:=⟨_,rfl⟩;rw [← hx] at hrow he;rw [← hy] at hrow' he;have hq:=hrow' 1 _ rfl;refine eN [(0,_),(1,_),(2,_),(3,_)] func132 rfl ntmps132 rfl rfl hG ?_;intro a H;refine kP H (SR fun _ K1=>aF K1 rfl (SR fun _ K2=>Rm rfl (Rm rfl (Ri nP jy rfl rfl ?_))));clear H K1;intro a H;refine aR jy (cs:=x.cells) H wn rfl rfl (fun j v hj=>H.hp.aH (hrow j v hj)) rfl ?_;clear H;intro a H;refine dJ jy H wn rfl ?_;clear H;intro b9 a w uT H;refine aY jy 0 (vs:=[_,_,_,_]) _ H wn rfl rfl rfl rfl rfl rfl rfl rfl ?_;clear H;intro w H;dsimp only [List.set,setRow] at H;refine K2 _ _ ?_;clear K2;refine kP H (SQ fun _ K3=>SB (SQ fun _ K4=>?_));clear H;intro a H;refine dI hmx [[],[0],[0,1],[0,1,2],[],[4],(ra 0 6),(ra 0 7),(ra 0 8)] [8] (by kernel_rfl) [_,_,_,_,_,vi x.rev,.bool (decide (x.rev∈rv.map bL.id)),_] H (aD (Z0 rfl (Rm rfl)) (Z1 0 15 rfl (Rk rfl)) (Z1 1 16 rfl (Rf KL rfl)) (X1 2 17 rfl fun hG=>Rg yD rfl (aG hG hc2)) (aD (Z0 rfl (Rf Tf rfl)) (Z1 4 19 rfl (Ro aT 0 rfl)) ?_ (Z1 6 21 rfl (Rn rfl)) (bM (bS rfl) cO))) ?_
 ·refine dL 3 18 5 20 rfl rfl fun _ a w G1 hG HT H fin=>?_;refine Aq (zv:=.bool false) wG lq (by kernel_rfl) H wn rfl rfl (H.ro _ _ (hG _ _ hck.rev)) rfl ?_;clear H;intro a H;rw [EJ] at H;exact fin H iJ rfl
 clear H;intro a w G CO H hv;have H:=H.aN (hv 7 22 rfl rfl) rfl;clear hv;refine kH H (Ra rfl ?_);clear H;intro a H;refine aC ⟨rfl,?_⟩;refine K4 _ _ ?_;clear K4;refine mW H rfl ?_ ?_
 ·intro qZ
  try have lN:=dT qZ
  refine kP H (SR fun _ K5=>aF K5 rfl ?_);clear H K5;intro a H;refine lr H results132 rfl ?_
  exact H.rt (by rw [he];refine aB vi ?_;clear he hrow hrow' hq hx hy;unfold wo;(repeat' split) <;> first|rfl|(simp_all;done)|(exfalso;simp_all;done))
 intro qZ
 try have lN:=dF qZ
 refine kP H (SR fun _ K6=>Rm rfl (dU xM aT 0 rfl rfl ?_));clear H;intro a H;refine s_call Zl H wn rfl (Yd (Z5 _ _ H.ro e x.key)) rfl ?_;clear H;rintro v27 _ a w ⟨⟨_,rfl⟩,rfl⟩ - H;refine kH H (Rn rfl (aF K6 rfl (Cd rfl ?_ ?_))) <;> clear H K6
 ·intro h23 a H
  try have BP:=dT h23
  refine kP H (SR fun _ K7=>aF K7 rfl ?_);clear H K7;intro a H;refine lr H results132 rfl ?_
  exact H.rt (by rw [he];refine aB vi ?_;clear he hrow hrow' hq hx hy;unfold wo;(repeat' split) <;> first|rfl|(simp_all;done)|(exfalso;simp_all;done))
 intro h23 a H
 try have BP:=dF h23
 refine eY (fun _ K8=>?_);replace hq:=aG CO hq
 by_cases c0:0 < (k:Int)
 ·skip
  by_cases c1:x.key < y.key
  ·skip;refine dI hmx [[],[0],[0,1],[0,1,2],(ra 0 4),[0,1,2],[0,1,2],[0,1,2,6],[0,1,2,5,6,7],[0,1,2,5,6,7,8],[0,1,2,5,6,7,8,9],(ra 0 11),(ra 0 12),(ra 0 13)] [13] (by kernel_rfl) [_,_,_,_,vi x.key,_,_,vi ((k - 1:Nat):Int),_,_,_,_,_] H (aD (Z0 rfl (Rm rfl)) (Z1 0 30 rfl (Rc rfl)) (Z1 1 31 rfl (Rm rfl)) (Z1 2 32 rfl (YF xM (aI c0) rfl)) (aD (Z2 3 33 2 32 rfl (YO aT 0 (aI c0) rfl)) (Z1 2 32 rfl (YM (aI c0) rfl)) (Z1 2 32 rfl (YM (aI c0) rfl)) ?_ (aD (Z3 5 35 7 37 2 32 rfl (YI nP jy (aI c0) rfl rfl)) (Z2 8 38 2 32 rfl (YF xM (aI c0) rfl)) (X2 9 39 2 32 rfl fun hG=>YR aT (aI c0) rfl (aG hG hq)) (Z3 4 34 10 40 2 32 rfl (YC (aI c0) rfl)) (bM (Z2 2 32 11 41 rfl (Pt (aI c0) rfl)) (bM (bS rfl) cO))))) ?_
   ·refine dL 6 36 2 32 rfl rfl fun _ a w G1 hG HT H fin=>?_;refine og _ H (wg H rfl rfl (aI c0)) rfl rfl rfl (by omega) (by omega) rfl ?_;clear H;intro a H;exact fin H iJ (by show _=_;first|rfl|exact aB vi (by omega))
   clear H;intro a w G gM H hv;have H:=H.aN (hv 12 42 rfl rfl) rfl;clear hv;refine kH H (Ra rfl ?_);clear H;intro a H;refine aC ⟨rfl,?_⟩;refine K8 _ _ ?_;clear K8;refine Kr H rfl (aI c1) ?_;refine eY (fun _ K9=>?_);have hz:0 < k∧x.key < y.key:=⟨by omega,c1⟩;refine kP H (SC (gY K9 rfl ?_));clear H K9;intro a H;refine lr H results132 rfl ?_
   exact H.rt (by rw [he];refine aB vi ?_;clear he hrow hrow' hq hx hy;unfold wo;(repeat' split) <;> first|rfl|(simp_all;done)|(exfalso;simp_all;done))
  skip;refine dI hmx [[],[0],[0,1],[0,1,2],(ra 0 4),[0,1,2],[0,1,2],[0,1,2,6],[0,1,2,5,6,7],[0,1,2,5,6,7,8],[0,1,2,5,6,7,8,9],(ra 0 11),(ra 0 12),(ra 0 13)] [13] (by kernel_rfl) [_,_,_,_,vi x.key,_,_,vi ((k - 1:Nat):Int),_,_,_,_,_] H (aD (Z0 rfl (Rm rfl)) (Z1 0 30 rfl (Rc rfl)) (Z1 1 31 rfl (Rm rfl)) (Z1 2 32 rfl (YF xM (aI c0) rfl)) (aD (Z2 3 33 2 32 rfl (YO aT 0 (aI c0) rfl)) (Z1 2 32 rfl (YM (aI c0) rfl)) (Z1 2 32 rfl (YM (aI c0) rfl)) ?_ (aD (Z3 5 35 7 37 2 32 rfl (YI nP jy (aI c0) rfl rfl)) (Z2 8 38 2 32 rfl (YF xM (aI c0) rfl)) (X2 9 39 2 32 rfl fun hG=>YR aT (aI c0) rfl (aG hG hq)) (Z3 4 34 10 40 2 32 rfl (YC (aI c0) rfl)) (bM (Z2 2 32 11 41 rfl (Pt (aI c0) rfl)) (bM (bS rfl) cO))))) ?_
  ·refine dL 6 36 2 32 rfl rfl fun _ a w G1 hG HT H fin=>?_;refine og _ H (wg H rfl rfl (aI c0)) rfl rfl rfl (by omega) (by omega) rfl ?_;clear H;intro a H;exact fin H iJ (by show _=_;first|rfl|exact aB vi (by omega))
  clear H;intro a w G gM H hv;have H:=H.aN (hv 12 42 rfl rfl) rfl;clear hv;refine kH H (Ra rfl ?_);clear H;intro a H;refine aC ⟨rfl,?_⟩;refine K8 _ _ ?_;clear K8;refine zJ H rfl (aX c1) ?_;refine eY (fun _ eU=>?_)
  have hz:¬ (0 < k∧x.key < y.key):=by first|exact fun h=>c1 h.2|exact fun h=>c0 (by omega)
  refine kP H (SC (dU Oj Cg 0 rfl rfl (Rn rfl (gY eU rfl (Cd rfl ?_ ?_))))) <;> clear H eU
  ·intro h43 a H
   try have p43:=dT h43
   refine kP H (SR fun _ fQ=>dU Ee aT 0 rfl rfl (Rc rfl ?_));clear H;intro a H;refine s_call jQ H wn rfl (jU _ _ H.ro _ 21) rfl ?_;clear H;rintro v50 _ a w ⟨rfl,rfl⟩ - H;refine kH H (aF fQ rfl ?_);clear H fQ;intro a H;refine lr H results132 rfl ?_
   exact H.rt (by rw [he];refine aB vi ?_;clear he hrow hrow' hq hx hy;unfold wo;(repeat' split) <;> first|rfl|(simp_all;done)|(exfalso;simp_all;done))
  intro h43 a H
  try have p43:=dF h43
  refine iw ?_;refine K3 _ _ ?_;clear K3;refine eY (fun _ iF=>?_);replace hck:=(hck.mono CO).mono gM;replace hb:=gM _ _ (CO _ _ hb);refine dI hmx [[],[0],[],[2],(ra 0 4),[],[],[6],[],[8],(ra 0 10),(ra 0 11),(ra 0 12),(ra 0 13)] [11,12,13] (by kernel_rfl) [_,vi x.key,_,vi x.before,vi (tQ x.key x.before),_,_,vi x.key,_,vi x.before,vi (oW st (li.map eD.id) x.key x.before)] H (aD (Z0 rfl (Rf xM rfl)) (Z1 0 51 rfl (Ro aT 0 rfl)) (Z0 rfl (Rf Ee rfl)) (Z1 2 53 rfl (Ro aT 0 rfl)) (aD ?_ (Z0 rfl (Rm rfl)) (Z0 rfl (Rf xM rfl)) (Z1 6 57 rfl (Ro aT 0 rfl)) (aD (Z0 rfl (Rf Ee rfl)) (Z1 8 59 rfl (Ro aT 0 rfl)) ?_ (bS rfl) (bM (bS rfl) (bM (bS rfl) cO))))) ?_
  ·refine dL 1 52 3 54 rfl rfl fun _ a w G1 hG HT H fin=>?_;refine s_call SF H wn rfl (RU _ _ H.ro x.key x.before) rfl ?_;clear H;rintro v55 J7 a w rfl Uh H;exact fin H Uh (rfl)
  ·refine yL 5 56 7 58 9 60 rfl rfl fun _ a w G1 hG HT H fin=>?_;refine s_call Sr H wn rfl (R3 _ _ H.ro st li rv b ms ml mr mb mu n x.key x.before (hck.mono hG) (hG _ _ hb)) rfl ?_;clear H;rintro v61 G61 a w ⟨rfl,-⟩ Ui H;exact fin H Ui (rfl)
  clear H;intro a w G ru H hv;have H:=H.aN (hv 4 55 rfl rfl) rfl;have H:=H.aN (hv 10 61 rfl rfl) rfl;clear hv;refine gQ qz iD [_,_] [_,_] H wn rfl rfl rfl rfl rfl (by intro i q h;match i,h with|0,h=>exact h|1,h=>exact h|n+2,h=>simp at h) rfl rfl ?_;clear H;intro b62 a w amA H;obtain ⟨G62,anv,UA,H⟩:=H.eB;refine s_call rT H wn rfl (rU _ _ H.ro _ _ (zo UA)) rfl ?_;clear H;rintro v63 _ a w ⟨rfl,rfl⟩ - H;refine kH H (Ra rfl ?_);clear H;intro a H;refine aC ⟨rfl,?_⟩;refine iF _ _ ?_;clear iF;refine lr H results132 rfl ?_
  exact H.rt (by rw [he];refine aB vi ?_;clear he hrow hrow' hq hx hy;unfold wo;(repeat' split) <;> first|rfl|(simp_all;done)|(exfalso;simp_all;done))
 skip;refine dI hmx [[],[0],[0,1],[0,1,2],(ra 0 4),[0,1,2],[0,1,2],[0,1,2,6],[0,1,2,5,6,7],[0,1,2,5,6,7,8],[0,1,2,5,6,7,8,9],(ra 0 11),(ra 0 12),(ra 0 13)] [13] (by kernel_rfl) [_,_,_,undef,undef,undef,undef,undef,undef,undef,undef,undef,_] H (aD (Z0 rfl (Rm rfl)) (Z1 0 30 rfl (Rc rfl)) (Z1 1 31 rfl (Rm rfl)) (aW 2 (aX c0) rfl rfl) (aD (aW 2 (aX c0) rfl rfl) (aW 2 (aX c0) rfl rfl) (aW 2 (aX c0) rfl rfl) (aW 2 (aX c0) rfl rfl) (aD (aW 2 (aX c0) rfl rfl) (aW 2 (aX c0) rfl rfl) (aW 2 (aX c0) rfl rfl) (aW 2 (aX c0) rfl rfl) (bM (Z2 2 32 11 41 rfl (Pf (aX c0) rfl)) (bM (bS rfl) cO))))) ?_
 clear H;intro a w G gM H hv;have H:=H.aN (hv 12 42 rfl rfl) rfl;clear hv;refine kH H (Ra rfl ?_);clear H;intro a H;refine aC ⟨rfl,?_⟩;refine K8 _ _ ?_;clear K8;refine zJ H rfl rfl ?_;refine eY (fun _ jd=>?_)
 have hz:¬ (0 < k∧x.key < y.key):=by first|exact fun h=>c1 h.2|exact fun h=>c0 (by omega)
 refine kP H (SC (dU Oj Cg 0 rfl rfl (Rn rfl (gY jd rfl (Cd rfl ?_ ?_))))) <;> clear H jd
 ·intro h43 a H
  try have p43:=dT h43
  refine kP H (SR fun _ iW=>dU Ee aT 0 rfl rfl (Rc rfl ?_));clear H;intro a H;refine s_call jQ H wn rfl (jU _ _ H.ro _ 21) rfl ?_;clear H;rintro v50 _ a w ⟨rfl,rfl⟩ - H;refine kH H (aF iW rfl ?_);clear H iW;intro a H;refine lr H results132 rfl ?_
  exact H.rt (by rw [he];refine aB vi ?_;clear he hrow hrow' hq hx hy;unfold wo;(repeat' split) <;> first|rfl|(simp_all;done)|(exfalso;simp_all;done))
 intro h43 a H
 try have p43:=dF h43
 refine iw ?_;refine K3 _ _ ?_;clear K3;refine eY (fun _ mq=>?_);replace hck:=(hck.mono CO).mono gM;replace hb:=gM _ _ (CO _ _ hb);refine dI hmx [[],[0],[],[2],(ra 0 4),[],[],[6],[],[8],(ra 0 10),(ra 0 11),(ra 0 12),(ra 0 13)] [11,12,13] (by kernel_rfl) [_,vi x.key,_,vi x.before,vi (tQ x.key x.before),_,_,vi x.key,_,vi x.before,vi (oW st (li.map eD.id) x.key x.before)] H (aD (Z0 rfl (Rf xM rfl)) (Z1 0 51 rfl (Ro aT 0 rfl)) (Z0 rfl (Rf Ee rfl)) (Z1 2 53 rfl (Ro aT 0 rfl)) (aD ?_ (Z0 rfl (Rm rfl)) (Z0 rfl (Rf xM rfl)) (Z1 6 57 rfl (Ro aT 0 rfl)) (aD (Z0 rfl (Rf Ee rfl)) (Z1 8 59 rfl (Ro aT 0 rfl)) ?_ (bS rfl) (bM (bS rfl) (bM (bS rfl) cO))))) ?_
 ·refine dL 1 52 3 54 rfl rfl fun _ a w G1 hG HT H fin=>?_;refine s_call SF H wn rfl (RU _ _ H.ro x.key x.before) rfl ?_;clear H;rintro v55 J7 a w rfl Uh H;exact fin H Uh (rfl)
 ·refine yL 5 56 7 58 9 60 rfl rfl fun _ a w G1 hG HT H fin=>?_;refine s_call Sr H wn rfl (R3 _ _ H.ro st li rv b ms ml mr mb mu n x.key x.before (hck.mono hG) (hG _ _ hb)) rfl ?_;clear H;rintro v61 G61 a w ⟨rfl,-⟩ Ui H;exact fin H Ui (rfl)
 clear H;intro a w G ru H hv;have H:=H.aN (hv 4 55 rfl rfl) rfl;have H:=H.aN (hv 10 61 rfl rfl) rfl;clear hv;refine gQ qz iD [_,_] [_,_] H wn rfl rfl rfl rfl rfl (by intro i q h;match i,h with|0,h=>exact h|1,h=>exact h|n+2,h=>simp at h) rfl rfl ?_;clear H;intro b62 a w amA H;obtain ⟨G62,anv,UA,H⟩:=H.eB;refine s_call rT H wn rfl (rU _ _ H.ro _ _ (zo UA)) rfl ?_;clear H;rintro v63 _ a w ⟨rfl,rfl⟩ - H;refine kH H (Ra rfl ?_);clear H;intro a H;refine aC ⟨rfl,?_⟩;refine mq _ _ ?_;clear mq;refine lr H results132 rfl ?_
 exact H.rt (by rw [he];refine aB vi ?_;clear he hrow hrow' hq hx hy;unfold wo;(repeat' split) <;> first|rfl|(simp_all;done)|(exfalso;simp_all;done))
end
section
instance QG:Ty prog 123 1 8 [.pointer none] false:=⟨by kernel_rfl,by kernel_rfl⟩
theorem aic:∀ args w,(callFunc 132 args).run prog w=.ok (.enter 132 args) w:=enters func132 rfl (by kernel_rfl)
instance Dy:Ty prog 27 4 64 [.int .i64 0,.int .i64 0,.slice none 0 0,.slice none 0 0] true:=⟨by kernel_rfl,by kernel_rfl⟩
instance IG:dR prog 159 0 0:=⟨by kernel_rfl⟩
instance:dR prog 159 1 1:=⟨by kernel_rfl⟩
theorem aib:∀ args w,(callFunc 131 args).run prog w=.ok (.enter 131 args) w:=enters func131 rfl (by kernel_rfl)
variable {us:List Int}
theorem apb {G:GH} {st:List bU} {li:List eD} {rv:List bL} {b ms ml mr mb mu:Nat} {n:Int} (hck:wI us G st li rv ms ml mr mu) (hb:G b=some (gy b ms ml mr mb mu n).2)
  {x3 x4 Xh:Nat} {e:Int} {l:List cB} {v:aj} (h3:aH G x3 0=some (aM b 0)) (h4:aH G x4 0=some (vi e)) (h11:aH G Xh 3=some v) (hv:au G (.sl 4 (l.map cB.dat)) v) :
  uH (.func (.func 131) #[] #[(aM x3 0),(aM x4 0),(aM Xh 0)]) G l.length (xk (bE us st li rv) e l):=by
 intro k hk G1 w0 hm hG;refine jo (caps:=[(aM x3 0),(aM x4 0),(aM Xh 0)]) aib ?_;replace h3:=aG hm h3;replace h4:=aG hm h4;replace h11:=aG hm h11;replace hv:=hv.mono hm;obtain ⟨vA,vn,vc,rfl⟩:=hv.form;refine eN [(0,_),(1,_),(2,_),(3,_)] func131 rfl ntmps131 rfl rfl hG ?_;refine av 9 ?_;intro a H;refine s_call aic H wn rfl (apd _ _ H.ro st li rv b ms ml mr mb mu n (hck.mono hm) (hm _ _ hb) e l _ hv k hk) rfl ?_;clear H;rintro v11 tC a w rfl CV H;refine kJ 2 H ?_;exact rfl
def yw (C:bC) (l:List aS):Int:=dY (l.map fun p=>oW C.st C.mK p.key p.value)
def jJ (C:bC) (m:yK):Int:=if m.ins≠0∧m.ins∉C.iV then 22 else if ¬ (0≤m.move∧m.move≤1073741824)∨(m.move≠0∧m.ins=0) then 21 else if 16 < (m.bH.length:Int) then 9 else 0
def tV (C:bC) (k:Nat) (x:fO) (pr:Int):Int:=if x.rev∉C.iV then 22 else if 0 < k∧x.rev≤pr then 6 else if ¬ (0≤x.move∧x.move≤1073741824) then 21 else 0
def sQ (C:bC) (l:List fO) (k:Nat):Int:=match l[k]? with|some x=>tV C k x ((l[k - 1]?.map fO.rev).getD 0)|none=>0
def gN (C:bC) (e:Int) (h:dP):Int:=dY [ig e h.props,yw C h.props,jJ C h.marks,kr (sQ C h.marks.bH) h.marks.bH.length,dh (decide (64 < (h.marks.layers.length:Int))) 9,kr (xk C e h.marks.layers) h.marks.layers.length]
theorem amW {C:bC} {e:Int} {h:dP} (h1:ig e h.props≠0):gN C e h=ig e h.props:=by simp [gN,dY,h1]
theorem amX {C:bC} {e:Int} {h:dP} (h1:ig e h.props=0) (h2:yw C h.props≠0):gN C e h=yw C h.props:=by simp [gN,dY,h1,h2]
theorem CQ {C:bC} {e:Int} {h:dP} (h1:ig e h.props=0) (h2:yw C h.props=0) (h3:jJ C h.marks≠0):gN C e h=jJ C h.marks:=by simp [gN,dY,h1,h2,h3]
theorem amY {C:bC} {e:Int} {h:dP} (h1:ig e h.props=0) (h2:yw C h.props=0) (h3:jJ C h.marks=0) (h4:kr (sQ C h.marks.bH) h.marks.bH.length≠0):gN C e h=kr (sQ C h.marks.bH) h.marks.bH.length:=by simp [gN,dY,h1,h2,h3,h4]
theorem amZ {C:bC} {e:Int} {h:dP} (h1:ig e h.props=0) (h2:yw C h.props=0) (h3:jJ C h.marks=0) (h4:kr (sQ C h.marks.bH) h.marks.bH.length=0) (h5:64 < (h.marks.layers.length:Int)):gN C e h=9:=by simp [gN,dY,h1,h2,h3,h4,dh,h5]
theorem ana {C:bC} {e:Int} {h:dP} (h1:ig e h.props=0) (h2:yw C h.props=0) (h3:jJ C h.marks=0) (h4:kr (sQ C h.marks.bH) h.marks.bH.length=0) (h5:¬ 64 < (h.marks.layers.length:Int)):gN C e h=kr (xk C e h.marks.layers) h.marks.layers.length:=by simp [gN,dY,h1,h2,h3,h4,dh,h5];exact Eq.symm
theorem adj {C:bC} {l:List aS} {k:Nat} (h:k < l.length):dY ((l.map fun p=>oW C.st C.mK p.key p.value).drop k)=if oW C.st C.mK l[k].key l[k].value≠0 then oW C.st C.mK l[k].key l[k].value else dY ((l.map fun p=>oW C.st C.mK p.key p.value).drop (k+1)):=by
 rw [Oy (by simpa using h)];simp
theorem anb (G:GH) (w0:World) (hG:Hold G w0) (st:List bU) (li:List eD) (rv:List bL) (b ms ml mr mb mu:Nat) (n:Int) (hck:wI us G st li rv ms ml mr mu) (hb:G b=some (gy b ms ml mr mb mu n).2)
  (e:Int) (h:dP) (p d l:aj) (hh:iA G h p d l) (hz:mh h≤4294967296) :
  Calls prog 70 #[(aM b 0),vi e,rz h p d l] w0 (bB w0 G fun u G'=>u=vi (gN (bE us st li rv) e h)):=by
 obtain ⟨pA,pc,rfl,-,-,-⟩:=hh.props.slice;obtain ⟨dA,dc,rfl,-,-,-⟩:=hh.bH.slice;obtain ⟨lA,lc,rfl,-,-,-⟩:=hh.layers.slice;have hml:maxLen=9223372036854775807:=rfl;have hzz:=E9 h;have hz1:=qQ (h.props.map aS.dat);have hz2:=qQ (h.marks.bH.map fO.dat);have hz3:=qQ (h.marks.layers.map cB.dat)
 simp only [bO] at hh hz1 hz2 hz3 ⊢
 generalize mh h=zz at hz hzz
 refine eN [(0,_),(1,_),(2,_)] func70 rfl ntmps70 rfl rfl hG ?_;refine av 1 ?_;intro a H;refine dW (cs:=[_]) H wn rfl rfl rfl ?_;clear H;intro b3 a w hb3 H;refine dW (cs:=[_]) H wn rfl rfl rfl ?_;clear H;intro b4 a w hb4 H;refine dW (cs:=[_,_,_,_,_]) H wn rfl rfl rfl ?_;clear H;intro b5 a w hb5 H;refine bJ 3 H ?_;clear H;intro a H;obtain ⟨Ga5,O8,Bz,H⟩:=H.eB;obtain ⟨Ga4,Ji,xR,H⟩:=H.eB;obtain ⟨Ga,Ez,uf,H⟩:=H.eB;replace Bz:=Ez _ _ (Ji _ _ Bz);replace xR:=Ez _ _ xR;have hma:∀ b o,G b=some o→Ga b=some o:=fun b o h=>Ez _ _ (Ji _ _ (O8 _ _ h));clear Ez Ji O8;replace hck:=hck.mono hma;replace hb:=hma _ _ hb;replace hh:=hh.mono hma
 have g3:aH Ga b3 0=some (aM b 0):=by unfold aH;rw [uf];rfl
 have g4:aH Ga b4 0=some (vi e):=by unfold aH;rw [xR];rfl
 have g50:aH Ga b5 0=some (.slice pA h.props.length pc):=by unfold aH;rw [Bz];rfl
 have g51:∀ (j:Nat) (u:aj),[vi h.marks.ins,vi h.marks.move,.slice dA h.marks.bH.length dc,.slice lA h.marks.layers.length lc][j]?=some u→aH Ga b5 (1+j)=some u:=by
  intro j u hj
  unfold aH;rw [Bz]
  match j,hj with
  | 0,hj=>exact hj
  | 1,hj=>exact hj
  | 2,hj=>exact hj
  | 3,hj=>exact hj
  | n+4,hj=>simp at hj
 have hc2:aH Ga b 2=some (.map (some mr)):=by unfold aH;rw [hb];rfl
 refine mE 4 H ?_;clear H;intro a H;refine s_call Zd H wn rfl (Yd (ade _ _ H.ro e h.props _ hh.props)) rfl ?_;clear H;rintro v17 _ a w ⟨⟨_,rfl⟩,rfl⟩ - H;refine qb 6 H ?_ ?_ <;> clear H
 ·intro uq
  have hE:=amW (C:=bE us st li rv) (e:=e) (h:=h) uq;refine bP 4 ?_;rw [hE]
 intro uq
 have e1:ig e h.props=0:=by simpa using uq
 refine av 9 ?_;intro a H;refine eH (ι:=Nat) (Tc:=[(3,_),(4,_),(5,_),(22,_),(23,_)]) (Lc:=[]) (fun gh=>[(24,vi gh)]) (fun gh=>[]) (fun gh=>Ga) (fun gh=>gh≤h.props.length∧dY ((h.props.map fun p=>oW st (li.map eD.id) p.key p.value).drop gh)=yw (bE us st li rv) h.props) (fun gh=>h.props.length - gh) (0) sB ?_ ?_
 ·exact ⟨iH _,rfl⟩
 clear H;intro k a w hI H;obtain ⟨hk,heq⟩:=hI;dsimp only [lca,bK] at H;refine iI 4 H ?_ ?_ <;> clear H
 ·intro p25
  have hk2:k < h.props.length:=by omega
  obtain ⟨xb,xo,rfl,hrow⟩:=GX hh.props hk2;refine av 5 ?_;intro a H;refine aR gL (cs:=[_,_]) H wn rfl rfl (fun j v hj=>H.hp.aH (hrow j v hj)) rfl ?_;clear H;intro a H;refine dJ gL H wn rfl ?_;clear H;intro b9 a w uT H;refine aY gL 0 (vs:=[_,_]) _ H wn rfl rfl rfl rfl rfl rfl rfl rfl ?_;clear H;intro w H;dsimp only [List.set,setRow] at H;refine bJ 7 H ?_;clear H;intro a H;refine s_call Sr H wn rfl (R3 _ _ H.ro st li rv b ms ml mr mb mu n h.props[k].key h.props[k].value hck hb) rfl ?_;clear H;rintro v33 _ a w ⟨rfl,rfl⟩ - H;refine qb 6 H ?_ ?_ <;> clear H
  ·intro p35
   have hr:yw (bE us st li rv) h.props=oW st (li.map eD.id) h.props[k].key h.props[k].value:=by rw [← heq];exact (adj (C:=bE us st li rv) hk2).trans (ak p35)
   have hE:=(amX (C:=bE us st li rv) (e:=e) (h:=h) e1 (by rw [hr];exact p35)).trans hr;refine bP 4 ?_;rw [hE]
  intro p35
  refine av 4 ?_;intro a H;refine aC ?_;refine dx ((k+1)) (by exact (H.dX (Pl:=[_]) (dN:=[]) [] (by decide) rfl).sub ⟨rfl,rfl,rfl,rfl,rfl,rfl,aL⟩) ?_
  exact ⟨by omega,by rw [adj (C:=bE us st li rv) hk2,ah (by simpa using p35)] at heq;exact heq⟩
 intro p25
 refine av 1 ?_
 have e2:yw (bE us st li rv) h.props=0:=by rw [← heq,lG (by rw [bO];omega)];rfl
 refine av 2 ?_;intro a H;refine aR Dy (cs:=[vi h.marks.ins,vi h.marks.move,.slice dA h.marks.bH.length dc,.slice lA h.marks.layers.length lc]) H wn rfl rfl (fun j v hj=>H.hp.aH (g51 j v hj)) rfl ?_;clear H;intro a H;refine dJ Dy H wn rfl ?_;clear H;intro b11 a w IZ H;refine aY Dy 0 (vs:=[_,_,_,_]) _ H wn rfl rfl rfl rfl rfl rfl rfl rfl ?_;clear H;intro w H;dsimp only [List.set,setRow] at H;obtain ⟨Gb,hmb,Es,H⟩:=H.eB;replace hck:=hck.mono hmb;replace hb:=hmb _ _ hb;replace hh:=hh.mono hmb;replace g3:=aG hmb g3;replace g4:=aG hmb g4;replace hc2:=aG hmb hc2
 have q0:aH Gb b11 0=some (vi h.marks.ins):=by unfold aH;rw [Es];rfl
 have q1:aH Gb b11 1=some (vi h.marks.move):=by unfold aH;rw [Es];rfl
 have q2:aH Gb b11 2=some (.slice dA h.marks.bH.length dc):=by unfold aH;rw [Es];rfl
 have q3:aH Gb b11 3=some (.slice lA h.marks.layers.length lc):=by unfold aH;rw [Es];rfl
 have hcb:=apb hck hb g3 g4 q3 hh.layers;refine aC ?_;refine oH ?_;refine rR (ι:=GH) (Tc:=[(3,_),(4,_),(11,_)]) (Lc:=[]) (fun gh=>[]) (fun gh=>[]) (fun gh=>gh) (fun gh=>jJ (bE us st li rv) h.marks=0∧(∀ b o,Gb b=some o→gh b=some o)) sB ?_ ?_
 ·refine Kq ?_;refine KP ?_
  by_cases c0:h.marks.ins≠0
  ·skip
   by_cases c1:h.marks.ins∉rv.map bL.id
   ·refine dI hmx [[],[0],[0,1],[0,1,2],(ra 0 4),(ra 0 5),(ra 0 6),(ra 0 7),(ra 0 4),[0,1,2,3,8],(ra 0 10),(ra 0 11),(ra 0 12),(ra 0 13)] [13] (by kernel_rfl) [_,_,_,_,_,(aM b 0),_,_,_,_,.bool (decide (h.marks.ins∈rv.map bL.id)),.bool (decide (h.marks.ins∉rv.map bL.id)),_] H (aD (Z0 rfl (Rf Cz rfl)) (X1 0 41 rfl fun hG=>Rg aT rfl (aG hG q0)) (Z1 1 42 rfl (Rc rfl)) (Z1 2 43 rfl (Rm rfl)) (aD (X1 3 44 rfl fun hG=>YR QG (aI c0) rfl (aG hG g3)) ?_ (Z2 5 46 3 44 rfl (YF KL (aI c0) rfl)) (X2 6 47 3 44 rfl fun hG=>YR yD (aI c0) rfl (aG hG hc2)) (aD (Z1 3 44 rfl (YF Cz (aI c0) rfl)) (X2 8 49 3 44 rfl fun hG=>YR aT (aI c0) rfl (aG hG q0)) ?_ ?_ (bM (Z2 3 44 11 52 rfl (Pt (aI c0) rfl)) (bM (bS rfl) cO))))) ?_
    ·refine dL 4 45 3 44 rfl rfl fun _ a w G1 hG HT H fin=>?_;refine vg H (wg H rfl rfl (aI c0)) rfl rfl ?_;clear H;intro a H;exact fin H iJ rfl
    ·refine yL 7 48 9 50 3 44 rfl rfl fun _ a w G1 hG HT H fin=>?_;refine Aq (zv:=.bool false) wG lq (by kernel_rfl) H (wg H rfl rfl (aI c0)) rfl rfl (H.ro _ _ (hG _ _ hck.rev)) rfl ?_;clear H;intro a H;rw [EJ] at H;exact fin H iJ rfl
    ·refine dL 10 51 3 44 rfl rfl fun _ a w G1 hG HT H fin=>?_;refine bJ 1 H ?_;clear H;intro a H;exact fin H iJ (by show _=_;first|rfl|exact dG decide_not.symm)
    clear H;intro a w G nW H hv;have H:=H.aN (hv 12 53 rfl rfl) rfl;clear hv;refine t1 3 H ?_;clear H;have e3:jJ (bE us st li rv) h.marks=22:=ak ⟨c0,c1⟩;have hE:=(CQ (C:=bE us st li rv) (e:=e) (h:=h) e1 e2 (by rw [e3];decide)).trans e3;refine bP 3 ?_;rw [hE]
   refine dI hmx [[],[0],[0,1],[0,1,2],(ra 0 4),(ra 0 5),(ra 0 6),(ra 0 7),(ra 0 4),[0,1,2,3,8],(ra 0 10),(ra 0 11),(ra 0 12),(ra 0 13)] [13] (by kernel_rfl) [_,_,_,_,_,(aM b 0),_,_,_,_,.bool (decide (h.marks.ins∈rv.map bL.id)),.bool (decide (h.marks.ins∉rv.map bL.id)),_] H (aD (Z0 rfl (Rf Cz rfl)) (X1 0 41 rfl fun hG=>Rg aT rfl (aG hG q0)) (Z1 1 42 rfl (Rc rfl)) (Z1 2 43 rfl (Rm rfl)) (aD (X1 3 44 rfl fun hG=>YR QG (aI c0) rfl (aG hG g3)) ?_ (Z2 5 46 3 44 rfl (YF KL (aI c0) rfl)) (X2 6 47 3 44 rfl fun hG=>YR yD (aI c0) rfl (aG hG hc2)) (aD (Z1 3 44 rfl (YF Cz (aI c0) rfl)) (X2 8 49 3 44 rfl fun hG=>YR aT (aI c0) rfl (aG hG q0)) ?_ ?_ (bM (Z2 3 44 11 52 rfl (Pt (aI c0) rfl)) (bM (bS rfl) cO))))) ?_
   ·refine dL 4 45 3 44 rfl rfl fun _ a w G1 hG HT H fin=>?_;refine vg H (wg H rfl rfl (aI c0)) rfl rfl ?_;clear H;intro a H;exact fin H iJ rfl
   ·refine yL 7 48 9 50 3 44 rfl rfl fun _ a w G1 hG HT H fin=>?_;refine Aq (zv:=.bool false) wG lq (by kernel_rfl) H (wg H rfl rfl (aI c0)) rfl rfl (H.ro _ _ (hG _ _ hck.rev)) rfl ?_;clear H;intro a H;rw [EJ] at H;exact fin H iJ rfl
   ·refine dL 10 51 3 44 rfl rfl fun _ a w G1 hG HT H fin=>?_;refine bJ 1 H ?_;clear H;intro a H;exact fin H iJ (by show _=_;first|rfl|exact dG decide_not.symm)
   clear H;intro a w G nW H hv;have H:=H.aN (hv 12 53 rfl rfl) rfl;clear hv;refine t1 3 H ?_;clear H
   have hno:¬ (h.marks.ins≠0∧h.marks.ins∉(bE us st li rv).iV):=by first|exact fun h=>c1 h.2|exact fun h=>c0 h.1
   replace q0:=aG nW q0;replace q1:=aG nW q1;replace q2:=aG nW q2;refine av 3 ?_;intro a H;refine s_call xK H wn rfl (xW _ _ H.ro h.marks.move 0 1073741824) rfl ?_;clear H;rintro v57 _ a w ⟨rfl,rfl⟩ - H;refine sS 2 59 H ?_ ?_ <;> clear H
   ·intro p59
    refine av 12 ?_
    have e3:jJ (bE us st li rv) h.marks=21:=by unfold jJ;rw [ah hno,ak (by first|(simp_all;done)|(simp_all;omega))]
    have hE:=(CQ (C:=bE us st li rv) (e:=e) (h:=h) e1 e2 (by rw [e3];decide)).trans e3;refine bP 3 ?_;rw [hE]
   intro p59
   refine qJ 4 63 ?_ ?_
   ·intro p63
    refine goB 7 ?_ ?_
    ·intro p54
     have e3:jJ (bE us st li rv) h.marks=21:=by unfold jJ;rw [ah hno,ak (by first|(simp_all;done)|(simp_all;omega))]
     have hE:=(CQ (C:=bE us st li rv) (e:=e) (h:=h) e1 e2 (by rw [e3];decide)).trans e3;refine bP 3 ?_;rw [hE]
    intro p54
    have hn2:¬ (¬ (0≤h.marks.move∧h.marks.move≤1073741824)∨(h.marks.move≠0∧h.marks.ins=0)):=by first|(simp_all;done)|(simp_all;omega)
    refine goC 7 ?_ ?_
    ·intro vV
     have e3:jJ (bE us st li rv) h.marks=9:=by unfold jJ;rw [ah hno,ah hn2,ak (by simpa using vV)]
     have hE:=(CQ (C:=bE us st li rv) (e:=e) (h:=h) e1 e2 (by rw [e3];decide)).trans e3;refine bP 3 ?_;rw [hE]
    intro vV
    have e3:jJ (bE us st li rv) h.marks=0:=by unfold jJ;rw [ah hno,ah hn2,ah (by simpa using vV)]
    intro a H;refine iw ?_;refine ⟨_,sB,?_⟩;exact ⟨e3,nW⟩
   intro p63
   refine av 8 ?_
   have hn2:¬ (¬ (0≤h.marks.move∧h.marks.move≤1073741824)∨(h.marks.move≠0∧h.marks.ins=0)):=by first|(simp_all;done)|(simp_all;omega)
   refine goC 7 ?_ ?_
   ·intro vV
    have e3:jJ (bE us st li rv) h.marks=9:=by unfold jJ;rw [ah hno,ah hn2,ak (by simpa using vV)]
    have hE:=(CQ (C:=bE us st li rv) (e:=e) (h:=h) e1 e2 (by rw [e3];decide)).trans e3;refine bP 3 ?_;rw [hE]
   intro vV
   have e3:jJ (bE us st li rv) h.marks=0:=by unfold jJ;rw [ah hno,ah hn2,ah (by simpa using vV)]
   intro a H;refine iw ?_;refine ⟨_,sB,?_⟩;exact ⟨e3,nW⟩
  refine dI hmx [[],[0],[0,1],[0,1,2],(ra 0 4),(ra 0 5),(ra 0 6),(ra 0 7),(ra 0 4),[0,1,2,3,8],(ra 0 10),(ra 0 11),(ra 0 12),(ra 0 13)] [13] (by kernel_rfl) [_,_,_,_,undef,undef,undef,undef,undef,undef,undef,undef,_] H (aD (Z0 rfl (Rf Cz rfl)) (X1 0 41 rfl fun hG=>Rg aT rfl (aG hG q0)) (Z1 1 42 rfl (Rc rfl)) (Z1 2 43 rfl (Rm rfl)) (aD (aW 3 (aX c0) rfl rfl) (aW 3 (aX c0) rfl rfl) (aW 3 (aX c0) rfl rfl) (aW 3 (aX c0) rfl rfl) (aD (aW 3 (aX c0) rfl rfl) (aW 3 (aX c0) rfl rfl) (aW 3 (aX c0) rfl rfl) (aW 3 (aX c0) rfl rfl) (bM (Z2 3 44 11 52 rfl (Pf (aX c0) rfl)) (bM (bS rfl) cO))))) ?_
  clear H;intro a w G nW H hv;have H:=H.aN (hv 12 53 rfl rfl) rfl;clear hv;refine t1 3 H ?_;clear H
  have hno:¬ (h.marks.ins≠0∧h.marks.ins∉(bE us st li rv).iV):=by first|exact fun h=>c1 h.2|exact fun h=>c0 h.1
  replace q0:=aG nW q0;replace q1:=aG nW q1;replace q2:=aG nW q2;refine av 3 ?_;intro a H;refine s_call xK H wn rfl (xW _ _ H.ro h.marks.move 0 1073741824) rfl ?_;clear H;rintro v57 _ a w ⟨rfl,rfl⟩ - H;refine sS 2 59 H ?_ ?_ <;> clear H
  ·intro p59
   refine av 12 ?_
   have e3:jJ (bE us st li rv) h.marks=21:=by unfold jJ;rw [ah hno,ak (by first|(simp_all;done)|(simp_all;omega))]
   have hE:=(CQ (C:=bE us st li rv) (e:=e) (h:=h) e1 e2 (by rw [e3];decide)).trans e3;refine bP 3 ?_;rw [hE]
  intro p59
  refine qJ 4 63 ?_ ?_
  ·intro p63
   refine goB 7 ?_ ?_
   ·intro p54
    have e3:jJ (bE us st li rv) h.marks=21:=by unfold jJ;rw [ah hno,ak (by first|(simp_all;done)|(simp_all;omega))]
    have hE:=(CQ (C:=bE us st li rv) (e:=e) (h:=h) e1 e2 (by rw [e3];decide)).trans e3;refine bP 3 ?_;rw [hE]
   intro p54
   have hn2:¬ (¬ (0≤h.marks.move∧h.marks.move≤1073741824)∨(h.marks.move≠0∧h.marks.ins=0)):=by first|(simp_all;done)|(simp_all;omega)
   refine goC 7 ?_ ?_
   ·intro vV
    have e3:jJ (bE us st li rv) h.marks=9:=by unfold jJ;rw [ah hno,ah hn2,ak (by simpa using vV)]
    have hE:=(CQ (C:=bE us st li rv) (e:=e) (h:=h) e1 e2 (by rw [e3];decide)).trans e3;refine bP 3 ?_;rw [hE]
   intro vV
   have e3:jJ (bE us st li rv) h.marks=0:=by unfold jJ;rw [ah hno,ah hn2,ah (by simpa using vV)]
   intro a H;refine iw ?_;refine ⟨_,sB,?_⟩;exact ⟨e3,nW⟩
  intro p63
  refine av 8 ?_
  have hn2:¬ (¬ (0≤h.marks.move∧h.marks.move≤1073741824)∨(h.marks.move≠0∧h.marks.ins=0)):=by first|(simp_all;done)|(simp_all;omega)
  refine goC 7 ?_ ?_
  ·intro vV
   have e3:jJ (bE us st li rv) h.marks=9:=by unfold jJ;rw [ah hno,ah hn2,ak (by simpa using vV)]
   have hE:=(CQ (C:=bE us st li rv) (e:=e) (h:=h) e1 e2 (by rw [e3];decide)).trans e3;refine bP 3 ?_;rw [hE]
  intro vV
  have e3:jJ (bE us st li rv) h.marks=0:=by unfold jJ;rw [ah hno,ah hn2,ah (by simpa using vV)]
  intro a H;refine iw ?_;refine ⟨_,sB,?_⟩;exact ⟨e3,nW⟩
 clear H;intro g a w hI H;obtain ⟨e3,xU⟩:=hI;replace hck:=hck.mono xU;replace hb:=xU _ _ hb;replace hh:=hh.mono xU;replace g3:=aG xU g3;replace q2:=aG xU q2;replace q3:=aG xU q3;replace hc2:=aG xU hc2;replace hcb:=hcb.mono xU;dsimp only [lca,bK] at H;refine mE 8 H ?_;clear H;intro a H;refine eH (ι:=Nat × GH) (Tc:=[(3,_),(4,_),(11,_),(75,_),(76,_)]) (Lc:=[]) (fun gh=>[(77,vi gh.1)]) (fun gh=>[]) (fun gh=>gh.2) (fun gh=>gh.1≤h.marks.bH.length∧dY (((List.range h.marks.bH.length).map (sQ (bE us st li rv) h.marks.bH)).drop gh.1)=kr (sQ (bE us st li rv) h.marks.bH) h.marks.bH.length∧(∀ b o,g b=some o→gh.2 b=some o)) (fun gh=>h.marks.bH.length - gh.1) ((0,g)) sB ?_ ?_
 ·exact ⟨iH _,rfl,fun _ _ h=>h⟩
 clear H;rintro ⟨k,g2⟩ a w hI H;dsimp only at hI H;obtain ⟨hk,heq,hgm⟩:=hI;dsimp only [lca,bK] at H;refine iI 4 H ?_ ?_ <;> clear H
 ·intro p78
  have hk2:k < h.marks.bH.length:=by omega
  have hd2:=hh.bH.mono hgm;obtain ⟨xb,xo,rfl,hrow⟩:=Ob hd2 hk2
  have hk1:k - 1 < h.marks.bH.length:=by omega
  obtain ⟨b',o',he',hrow'⟩:=Ob hd2 hk1
  intro a H;injection he' with he'
  injection he' with e1 e2
  subst e1;subst e2
  have hde:sQ (bE us st li rv) h.marks.bH k=tV (bE us st li rv) k h.marks.bH[k] h.marks.bH[k - 1].rev:=by unfold sQ;rw [dZ hk2,dZ hk1];rfl
  have hX:∀ v,tV (bE us st li rv) k h.marks.bH[k] h.marks.bH[k - 1].rev=v→v≠0→gN (bE us st li rv) e h=v:=fun v h1 h2=>by
   have h4:kr (sQ (bE us st li rv) h.marks.bH) h.marks.bH.length=v:=by rw [← heq,Fw hk2,hde,h1,ak h2]
   exact (amY e1 e2 e3 (by rw [h4];exact h2)).trans h4
  have hp:=hrow' 0 _ rfl;have g3':=aG hgm g3;have hc2':=aG hgm hc2;have q2':=aG hgm q2;refine mE 6 H ?_;clear H;intro a H;refine aR oG (cs:=h.marks.bH[k].cells) H wn rfl rfl (fun j v hj=>H.hp.aH (hrow j v hj)) rfl ?_;clear H;intro a H;refine dJ oG H wn rfl ?_;clear H;intro b13 a w OO H;refine bJ 1 H ?_;clear H;intro a H;refine aY oG 0 (vs:=[_,_]) _ H wn rfl rfl rfl rfl rfl rfl rfl rfl ?_;clear H;intro w H;dsimp only [List.set,setRow] at H;refine bJ 3 H ?_;clear H;intro a H;refine dI hmx [[],[0],[0,1],[0,1,2],[],[4],(ra 0 6),(ra 0 7),(ra 0 8)] [8] (by kernel_rfl) [_,_,_,_,_,vi h.marks.bH[k].rev,.bool (decide (h.marks.bH[k].rev∈rv.map bL.id)),_] H (aD (X0 rfl fun hG=>Rg QG rfl (aG hG g3')) (Z1 0 83 rfl (Rk rfl)) (Z1 1 84 rfl (Rf KL rfl)) (X1 2 85 rfl fun hG=>Rg yD rfl (aG hG hc2')) (aD (Z0 rfl (Rf IG rfl)) (Z1 4 87 rfl (Ro aT 0 rfl)) ?_ (Z1 6 89 rfl (Rn rfl)) (bM (bS rfl) cO))) ?_
  ·refine dL 3 86 5 88 rfl rfl fun _ a w G1 hG HT H fin=>?_;refine Aq (zv:=.bool false) wG lq (by kernel_rfl) H wn rfl rfl (H.ro _ _ (hG _ _ (hgm _ _ hck.rev))) rfl ?_;clear H;intro a H;rw [EJ] at H;exact fin H iJ rfl
  clear H;intro a w G Ep H hv;have H:=H.aN (hv 7 90 rfl rfl) rfl;clear hv;refine t1 2 H ?_;clear H;refine goC 0 ?_ ?_
  ·intro OI
   have hE:=hX 22 (by unfold tV;rw [ak (by simpa using OI)]) (by decide);refine bP 3 ?_;rw [hE]
  intro OI
  try have p82:=dF OI
  have LD:¬ (h.marks.bH[k].rev∉(bE us st li rv).iV):=by simpa using OI
  refine av 1 ?_;replace hp:=aG Ep hp;replace q2':=aG Ep q2'
  intro a H;by_cases c3:0 < (k:Int)
  ·skip
   by_cases c4:h.marks.bH[k].rev≤h.marks.bH[k - 1].rev
   ·refine dI hmx [[],[0],[0,1],[0,1,2],(ra 0 4),[0,1,2],[0,1,2,5],[0,1,2],[0,1,2,7],[0,1,2,5,6,7,8],[0,1,2,5,6,7,8,9],([0,1,2]++ra 5 6),(ra 0 12),(ra 0 13),(ra 0 14)] [14] (by kernel_rfl) [_,_,_,_,vi h.marks.bH[k].rev,_,_,_,vi ((k - 1:Nat):Int),_,_,_,_,_] H (aD (Z0 rfl (Rm rfl)) (Z1 0 92 rfl (Rc rfl)) (Z1 1 93 rfl (Rm rfl)) (Z1 2 94 rfl (YF IG (aI c3) rfl)) (aD (Z2 3 95 2 94 rfl (YO aT 0 (aI c3) rfl)) (Z1 2 94 rfl (YF FD (aI c3) rfl)) (X2 5 97 2 94 rfl fun hG=>YR Ce (aI c3) rfl (aG hG q2')) (Z1 2 94 rfl (YM (aI c3) rfl)) (aD ?_ (Z3 6 98 8 100 2 94 rfl (YI uD oG (aI c3) rfl rfl)) (Z2 9 101 2 94 rfl (YF IG (aI c3) rfl)) (X2 10 102 2 94 rfl fun hG=>YR aT (aI c3) rfl (aG hG hp)) (bM (Z3 4 96 11 103 2 94 rfl (YC (aI c3) rfl)) (bM (Z2 2 94 12 104 rfl (Pt (aI c3) rfl)) (bM (bS rfl) cO)))))) ?_
    ·refine dL 7 99 2 94 rfl rfl fun _ a w G1 hG HT H fin=>?_;refine og _ H (wg H rfl rfl (aI c3)) rfl rfl rfl (by omega) (by omega) rfl ?_;clear H;intro a H;exact fin H iJ (by show _=_;first|rfl|exact aB vi (by omega))
    clear H;intro a w G IX H hv;have H:=H.aN (hv 13 105 rfl rfl) rfl;clear hv;refine t1 3 H ?_;clear H;have hz:0 < k∧h.marks.bH[k].rev≤h.marks.bH[k - 1].rev:=⟨by omega,c4⟩;have hE:=hX 6 (by unfold tV;rw [ah LD,ak hz]) (by decide);refine bP 3 ?_;rw [hE]
   refine dI hmx [[],[0],[0,1],[0,1,2],(ra 0 4),[0,1,2],[0,1,2,5],[0,1,2],[0,1,2,7],[0,1,2,5,6,7,8],[0,1,2,5,6,7,8,9],([0,1,2]++ra 5 6),(ra 0 12),(ra 0 13),(ra 0 14)] [14] (by kernel_rfl) [_,_,_,_,vi h.marks.bH[k].rev,_,_,_,vi ((k - 1:Nat):Int),_,_,_,_,_] H (aD (Z0 rfl (Rm rfl)) (Z1 0 92 rfl (Rc rfl)) (Z1 1 93 rfl (Rm rfl)) (Z1 2 94 rfl (YF IG (aI c3) rfl)) (aD (Z2 3 95 2 94 rfl (YO aT 0 (aI c3) rfl)) (Z1 2 94 rfl (YF FD (aI c3) rfl)) (X2 5 97 2 94 rfl fun hG=>YR Ce (aI c3) rfl (aG hG q2')) (Z1 2 94 rfl (YM (aI c3) rfl)) (aD ?_ (Z3 6 98 8 100 2 94 rfl (YI uD oG (aI c3) rfl rfl)) (Z2 9 101 2 94 rfl (YF IG (aI c3) rfl)) (X2 10 102 2 94 rfl fun hG=>YR aT (aI c3) rfl (aG hG hp)) (bM (Z3 4 96 11 103 2 94 rfl (YC (aI c3) rfl)) (bM (Z2 2 94 12 104 rfl (Pt (aI c3) rfl)) (bM (bS rfl) cO)))))) ?_
   ·refine dL 7 99 2 94 rfl rfl fun _ a w G1 hG HT H fin=>?_;refine og _ H (wg H rfl rfl (aI c3)) rfl rfl rfl (by omega) (by omega) rfl ?_;clear H;intro a H;exact fin H iJ (by show _=_;first|rfl|exact aB vi (by omega))
   clear H;intro a w G IX H hv;have H:=H.aN (hv 13 105 rfl rfl) rfl;clear hv;refine t1 3 H ?_;clear H
   have hz:¬ (0 < k∧h.marks.bH[k].rev≤h.marks.bH[k - 1].rev):=by first|exact fun h=>c4 h.2|exact fun h=>c3 (by omega)
   refine av 3 ?_;intro a H;refine s_call xK H wn rfl (xW _ _ H.ro h.marks.bH[k].move 0 1073741824) rfl ?_;clear H;rintro v109 _ a w ⟨rfl,rfl⟩ - H;refine lW 3 H ?_ ?_ <;> clear H
   ·intro zQ
    try have V7:=dT zQ
    have hE:=hX 21 (by unfold tV;rw [ah LD,ah hz,ak (by have h0:=zQ;simp at h0;omega)]) (by decide);refine bP 3 ?_;rw [hE]
   intro zQ
   try have V7:=dF zQ
   have UJ:tV (bE us st li rv) k h.marks.bH[k] h.marks.bH[k - 1].rev=0:=by unfold tV;rw [ah LD,ah hz,ah (by have h0:=zQ;simp at h0;omega)]
   have TV:=fun b o h=>IX b o (Ep b o (hgm b o h));refine av 4 ?_;intro a H;refine aC ?_;refine dx ((k+1,G)) (by exact (H.dX (Pl:=[_]) (dN:=[]) [] (by decide) rfl).sub ⟨rfl,rfl,rfl,rfl,rfl,rfl,aL⟩) ?_
   (try dsimp only);exact ⟨by omega,by rw [Fw hk2,ah (by rw [hde];simpa using UJ)] at heq;exact heq,TV⟩
  refine dI hmx [[],[0],[0,1],[0,1,2],(ra 0 4),[0,1,2],[0,1,2,5],[0,1,2],[0,1,2,7],[0,1,2,5,6,7,8],[0,1,2,5,6,7,8,9],([0,1,2]++ra 5 6),(ra 0 12),(ra 0 13),(ra 0 14)] [14] (by kernel_rfl) [_,_,_,undef,undef,undef,undef,undef,undef,undef,undef,undef,undef,_] H (aD (Z0 rfl (Rm rfl)) (Z1 0 92 rfl (Rc rfl)) (Z1 1 93 rfl (Rm rfl)) (aW 2 (aX c3) rfl rfl) (aD (aW 2 (aX c3) rfl rfl) (aW 2 (aX c3) rfl rfl) (aW 2 (aX c3) rfl rfl) (aW 2 (aX c3) rfl rfl) (aD (aW 2 (aX c3) rfl rfl) (aW 2 (aX c3) rfl rfl) (aW 2 (aX c3) rfl rfl) (aW 2 (aX c3) rfl rfl) (bM (aW 2 (aX c3) rfl rfl) (bM (Z2 2 94 12 104 rfl (Pf (aX c3) rfl)) (bM (bS rfl) cO)))))) ?_
  clear H;intro a w G IX H hv;have H:=H.aN (hv 13 105 rfl rfl) rfl;clear hv;refine t1 3 H ?_;clear H
  have hz:¬ (0 < k∧h.marks.bH[k].rev≤h.marks.bH[k - 1].rev):=by first|exact fun h=>c4 h.2|exact fun h=>c3 (by omega)
  refine av 3 ?_;intro a H;refine s_call xK H wn rfl (xW _ _ H.ro h.marks.bH[k].move 0 1073741824) rfl ?_;clear H;rintro v109 _ a w ⟨rfl,rfl⟩ - H;refine lW 3 H ?_ ?_ <;> clear H
  ·intro zQ
   try have V7:=dT zQ
   have hE:=hX 21 (by unfold tV;rw [ah LD,ah hz,ak (by have h0:=zQ;simp at h0;omega)]) (by decide);refine bP 3 ?_;rw [hE]
  intro zQ
  try have V7:=dF zQ
  have UJ:tV (bE us st li rv) k h.marks.bH[k] h.marks.bH[k - 1].rev=0:=by unfold tV;rw [ah LD,ah hz,ah (by have h0:=zQ;simp at h0;omega)]
  have TV:=fun b o h=>IX b o (Ep b o (hgm b o h));refine av 4 ?_;intro a H;refine aC ?_;refine dx ((k+1,G)) (by exact (H.dX (Pl:=[_]) (dN:=[]) [] (by decide) rfl).sub ⟨rfl,rfl,rfl,rfl,rfl,rfl,aL⟩) ?_
  (try dsimp only);exact ⟨by omega,by rw [Fw hk2,ah (by rw [hde];simpa using UJ)] at heq;exact heq,TV⟩
 intro p78
 refine av 2 ?_
 have e4:kr (sQ (bE us st li rv) h.marks.bH) h.marks.bH.length=0:=by rw [← heq,lG (by simp;omega)];rfl
 replace q3:=aG hgm q3;refine goB 6 ?_ ?_
 ·intro V8
  have hE:=amZ (C:=bE us st li rv) (e:=e) (h:=h) e1 e2 e3 e4 V8;refine bP 3 ?_;rw [hE]
 intro V8
 refine av 1 ?_;have hE:=ana (C:=bE us st li rv) (e:=e) (h:=h) e1 e2 e3 e4 V8;refine av 4 ?_;intro a H;refine qy H wn rfl rfl ?_;clear H;intro a H;refine s_call Iu H wn rfl (Km _ _ H.ro h.marks.layers.length (xk (bE us st li rv) e h.marks.layers) _ (by omega) (hcb.mono hgm)) rfl ?_;clear H;rintro avL auv a w rfl auK H;refine kJ 2 H ?_;rw [hE]
end
instance:dR prog 68 1 1:=⟨by kernel_rfl⟩
def codeOk (x:ay):Bool:=if x.kind=4 then decide (1≤x.code∧x.code≤3) else if x.kind=6 then decide (1≤x.code∧x.code≤2) else if x.kind=8 then decide (1≤x.code∧x.code≤4) else true
def zm (x:ay):Bool:=decide (x.kind=8∧x.code=1)
def zw (x:ay):Bool:=decide (x.kind=1∨x.kind=5) || zm x
def xu (x:ay):Bool:=decide (x.kind=6∨x.kind=7∨x.kind=8)
def wO (x:ay):Bool:=decide (x.kind=4∨x.kind=6∨x.kind=8)
def qW (s:ByteArray):Bool:=s.toList == (⟨#[]⟩:ByteArray).toList
def uO (x:ay):Bool:=!wO x && decide (x.code≠0) || !xu x && decide (x.id≠0) || !zw x && !qW x.text || decide (x.kind≠6) && decide (0 < (x.flow.length:Int)) || decide (x.kind≠7) && decide (0 < (x.rows.length:Int))
def kI (x:ay):Int :=
 if (!decide (1≤x.kind∧x.kind≤8) || !codeOk x)=true then 3 else if uO x=true then 15 else if rM x.text=false then 12 else if (decide (x.kind=1∨x.kind=5) && qW x.text)=true then 11
 else if (decide (x.kind=5) && decide (1024 < (x.text.size:Int)))=true then 10 else if (zm x && !sP x.text)=true then 13 else 0
theorem alq (G:GH) (w0:World) (hG:Hold G w0) (x:ay) (p d l:aj) (fA rA:Option Addr) (fc rc:Nat) (hs:x.text.size < 4611686018427387904) :
  Calls prog 196 #[.agg #[vi x.kind,vi x.code,vi x.id,.string x.text,p,vi x.head.marks.ins,vi x.head.marks.move,d,l,.slice fA x.flow.length fc,.slice rA x.rows.length rc]] w0 (bB w0 G fun u G'=>u=vi (kI x)∧G=G'):=by
 refine eN [(0,_)] func196 rfl ntmps196 rfl rfl hG ?_;refine av 1 ?_;intro a H;refine dW (cs:=[_,_,_,_,_,_,_,_,_,_,_]) H wn rfl rfl rfl ?_;clear H;intro b1 a w hb1 H;refine bJ 2 H ?_;clear H;intro a H;refine rR (ι:=Bool) (Tc:=[(1,_)]) (Lc:=[(_,_)]) (fun gh=>[(3,.bool gh)]) (fun gh=>[]) (fun gh=>G) (fun gh=>gh=zm x) sB ?_ ?_
 ·refine CF 5 11 H ?_ ?_ <;> clear H
  ·intro rH
   refine av 5 ?_;intro a H;refine aC ?_;refine ⟨_,sB,?_⟩
   unfold zm;first|(simp_all;done)
  intro rH
  refine av 5 ?_;intro a H;refine aC ?_;refine ⟨_,sB,?_⟩
  unfold zm;first|(simp_all;done)
 clear H;intro st a w hI H;have hst:=hI;dsimp only [lca,bK] at H;refine rR (ι:=Bool) (Tc:=[(1,_),(3,_)]) (Lc:=[(_,_)]) (fun gh=>[(4,.bool gh)]) (fun gh=>[]) (fun gh=>G) (fun gh=>gh=zw x) sB ?_ ?_
 ·refine CF 5 19 H ?_ ?_ <;> clear H
  ·intro uq
   refine av 8 ?_;intro a H;refine aC ?_;refine ⟨_,sB,?_⟩
   unfold zw;first|(simp_all;done)
  intro uq
  refine qJ 5 24 ?_ ?_
  ·intro jT
   refine av 3 ?_;intro a H;refine aC ?_;refine ⟨_,sB,?_⟩
   unfold zw;first|(simp_all;done)
  intro jT
  refine av 3 ?_;intro a H;refine aC ?_;refine ⟨_,sB,?_⟩
  unfold zw;first|(simp_all;done)
 clear H;intro wd a w hI H;have hwd:=hI;dsimp only [lca,bK] at H;refine rR (ι:=Bool) (Tc:=[(1,_),(3,_),(4,_)]) (Lc:=[(_,_)]) (fun gh=>[(5,.bool gh)]) (fun gh=>[]) (fun gh=>G) (fun gh=>gh=xu x) sB ?_ ?_
 ·refine CF 5 30 H ?_ ?_ <;> clear H
  ·intro p30
   refine av 10 ?_;intro a H;refine aC ?_;refine ⟨_,sB,?_⟩
   unfold xu;first|(simp_all;done)
  intro p30
  refine qJ 5 35 ?_ ?_
  ·intro p35
   refine av 5 ?_;intro a H;refine aC ?_;refine ⟨_,sB,?_⟩
   unfold xu;first|(simp_all;done)
  intro p35
  refine av 5 ?_;intro a H;refine aC ?_;refine ⟨_,sB,?_⟩
  unfold xu;first|(simp_all;done)
 clear H;intro nm a w hI H;have hnm:=hI;dsimp only [lca,bK] at H;refine mE 3 H ?_;clear H;intro a H;refine rR (ι:=Bool) (Tc:=[(1,_),(3,_),(4,_),(5,_)]) (Lc:=[(_,_)]) (fun gh=>[(6,.bool gh)]) (fun gh=>[]) (fun gh=>G) (fun gh=>gh=codeOk x) sB ?_ ?_
 ·refine iI 9 H ?_ ?_ <;> clear H
  ·intro p42
   refine av 3 ?_;intro a H;refine s_call xK H wn rfl (xW _ _ H.ro x.code 1 3) rfl ?_;clear H;rintro v46 _ a w ⟨rfl,rfl⟩ - H;refine bJ 1 H ?_;clear H;intro a H;refine aC ?_;refine ⟨_,sB,?_⟩
   unfold codeOk;first|(simp_all;done)
  intro p42
  refine goB 4 ?_ ?_
  ·intro p47
   refine av 3 ?_;intro a H;refine s_call xK H wn rfl (xW _ _ H.ro x.code 1 2) rfl ?_;clear H;rintro v51 _ a w ⟨rfl,rfl⟩ - H;refine bJ 1 H ?_;clear H;intro a H;refine aC ?_;refine ⟨_,sB,?_⟩
   unfold codeOk;first|(simp_all;done)
  intro p47
  refine goB 4 ?_ ?_
  ·intro p52
   refine av 3 ?_;intro a H;refine s_call xK H wn rfl (xW _ _ H.ro x.code 1 4) rfl ?_;clear H;rintro v56 _ a w ⟨rfl,rfl⟩ - H;refine bJ 1 H ?_;clear H;intro a H;refine aC ?_;refine ⟨_,sB,?_⟩
   unfold codeOk;first|(simp_all;done)
  intro p52
  intro a H;refine iw ?_;refine ⟨_,sB,?_⟩
  unfold codeOk;first|(simp_all;done)
 clear H;intro ck a w hI H;have hck:=hI;dsimp only [lca,bK] at H;refine rR (ι:=Bool) (Tc:=[(1,_),(3,_),(4,_),(5,_),(6,_)]) (Lc:=[(_,_)]) (fun gh=>[(7,.bool gh)]) (fun gh=>[]) (fun gh=>G) (fun gh=>gh=wO x) sB ?_ ?_
 ·refine CF 5 60 H ?_ ?_ <;> clear H
  ·intro p60
   refine av 10 ?_;intro a H;refine aC ?_;refine ⟨_,sB,?_⟩
   unfold wO;first|(simp_all;done)
  intro p60
  refine qJ 5 65 ?_ ?_
  ·intro p65
   refine av 5 ?_;intro a H;refine aC ?_;refine ⟨_,sB,?_⟩
   unfold wO;first|(simp_all;done)
  intro p65
  refine av 5 ?_;intro a H;refine aC ?_;refine ⟨_,sB,?_⟩
  unfold wO;first|(simp_all;done)
 clear H;intro cd a w hI H;have hcd:=hI;dsimp only [lca,bK] at H;refine mE 3 H ?_;clear H;intro a H;refine DI (ι:=Bool) (Tc:=[(1,_),(3,_),(4,_),(5,_),(7,_)]) 8 (fun (q0:Bool)=>[(78,.bool q0)]) (fun (q0:Bool)=>q0=(!decide (1≤x.kind∧x.kind≤8) || !codeOk x)) sB ?_ ?_
 ·intro aao;refine bJ 2 H ?_;clear H;intro a H;refine s_call xK H wn rfl (xW _ _ H.ro x.kind 1 8) rfl ?_;clear H;rintro v73 _ a w ⟨rfl,rfl⟩ - H;refine sS 2 75 H ?_ ?_ <;> clear H
  ·intro p75
   refine av 3 ?_;intro a H;refine aao (_) _ _ ?_ sB;rw [← hck];clear hst hwd hnm hck hcd;(try clear hq1);(try clear hq2);(try clear hq3);(try clear hq0);(try clear hq4);(try clear ou);(try clear ow);(try clear oz);simp_all
  intro p75
  refine av 3 ?_;intro a H;refine aao (_) _ _ ?_ sB;rw [← hck];clear hst hwd hnm hck hcd;(try clear hq1);(try clear hq2);(try clear hq3);(try clear hq0);(try clear hq4);(try clear ou);(try clear ow);(try clear oz);simp_all
 clear H;intro q0 a w hI H;dsimp only [lca,bK] at H;(repeat with_reducible refine dK ?_);refine d0 ?_;have hq0:=hI;refine lW 2 H ?_ ?_ <;> clear H
 ·intro OH
  have e:kI x=3:=by unfold kI;rw [ak (by rw [← hq0];exact OH)]
  refine bP 3 ?_;exact ⟨by rw [e],rfl⟩
 intro OH
 try have p70:=dF OH
 have f0:¬ (!decide (1≤x.kind∧x.kind≤8) || !codeOk x)=true:=by rw [← hq0,OH];decide
 refine av 1 ?_;intro a H;refine DI (ι:=Bool) (Tc:=[(1,_),(3,_),(4,_),(5,_)]) 7 (fun (q1:Bool)=>[(86,.bool q1)]) (fun (q1:Bool)=>q1=(!wO x && decide (x.code≠0))) sB ?_ ?_
 ·intro aap;refine sS 3 82 H ?_ ?_ <;> clear H
  ·intro p82
   refine av 4 ?_;intro a H;refine aap (_) _ _ ?_ sB;rw [← hcd];clear hst hwd hnm hck hcd;(try clear hq1);(try clear hq2);(try clear hq3);(try clear hq0);(try clear hq4);(try clear ou);(try clear ow);(try clear oz);simp_all
  intro p82
  refine av 4 ?_;intro a H;refine aap (_) _ _ ?_ sB;rw [← hcd];clear hst hwd hnm hck hcd;(try clear hq1);(try clear hq2);(try clear hq3);(try clear hq0);(try clear hq4);(try clear ou);(try clear ow);(try clear oz);simp_all
 clear H;intro q1 a w hI H;dsimp only [lca,bK] at H;(repeat with_reducible refine dK ?_);refine d0 ?_;have hq1:=hI;refine DI (ι:=Bool) (Tc:=[(1,_),(3,_),(4,_)]) 9 (fun (q2:Bool)=>[(95,.bool q2)]) (fun (q2:Bool)=>q2=(q1 || !xu x && decide (x.id≠0))) sB ?_ ?_
 ·intro Uq;refine sS 1 87 H ?_ ?_ <;> clear H
  ·intro Wd
   refine av 8 ?_;intro a H;refine Uq (_) _ _ ?_ sB;rw [← hnm];clear hst hwd hnm hck hcd;(try clear hq1);(try clear hq2);(try clear hq3);(try clear hq0);(try clear hq4);(try clear ou);(try clear ow);(try clear oz);simp_all
  intro Wd
  refine qJ 3 90 ?_ ?_
  ·intro p90
   refine av 5 ?_;intro a H;refine Uq (_) _ _ ?_ sB;rw [← hnm];clear hst hwd hnm hck hcd;(try clear hq1);(try clear hq2);(try clear hq3);(try clear hq0);(try clear hq4);(try clear ou);(try clear ow);(try clear oz);simp_all
  intro p90
  refine av 5 ?_;intro a H;refine Uq (_) _ _ ?_ sB;rw [← hnm];clear hst hwd hnm hck hcd;(try clear hq1);(try clear hq2);(try clear hq3);(try clear hq0);(try clear hq4);(try clear ou);(try clear ow);(try clear oz);simp_all
 clear H;intro q2 a w hI H;dsimp only [lca,bK] at H;(repeat with_reducible refine dK ?_);refine d0 ?_;have hq2:=hI;refine DI (ι:=Bool) (Tc:=[(1,_),(3,_)]) 9 (fun (q3:Bool)=>[(104,.bool q3)]) (fun (q3:Bool)=>q3=(q2 || !zw x && !qW x.text)) sB ?_ ?_
 ·intro Um;refine sS 1 96 H ?_ ?_ <;> clear H
  ·intro Mv
   refine av 8 ?_;intro a H;refine Um (_) _ _ ?_ sB;rw [← hwd];clear hst hwd hnm hck hcd;(try clear hq1);(try clear hq2);(try clear hq3);(try clear hq0);(try clear hq4);(try clear ou);(try clear ow);(try clear oz);simp_all [qW]
  intro Mv
  refine mX 3 99 ?_ ?_
  ·intro OJ
   try have p99:=dT OJ
   refine av 2 ?_;intro a H;refine arY H (wg H rfl rfl OJ) rfl rfl rfl ?_;clear H;refine av 2 ?_;intro a H;refine Um (_) _ _ ?_ sB;rw [← hwd];clear hst hwd hnm hck hcd;(try clear hq1);(try clear hq2);(try clear hq3);(try clear hq0);(try clear hq4);(try clear ou);(try clear ow);(try clear oz);simp_all [qW]
  intro OJ
  try have p99:=dF OJ
  refine av 5 ?_;intro a H;refine Um (_) _ _ ?_ sB;rw [← hwd];clear hst hwd hnm hck hcd;(try clear hq1);(try clear hq2);(try clear hq3);(try clear hq0);(try clear hq4);(try clear ou);(try clear ow);(try clear oz);simp_all [qW]
 clear H;intro q3 a w hI H;dsimp only [lca,bK] at H;(repeat with_reducible refine dK ?_);refine d0 ?_;have hq3:=hI;refine DI (ι:=Bool) (Tc:=[(1,_),(3,_)]) 11 (fun (q4:Bool)=>[(115,.bool q4)]) (fun (q4:Bool)=>q4=(q3 || decide (x.kind≠6) && decide (0 < (x.flow.length:Int)))) sB ?_ ?_
 ·intro Un;refine sS 1 105 H ?_ ?_ <;> clear H
  ·intro Jz
   refine av 10 ?_;intro a H;refine Un (_) _ _ ?_ sB;clear hst hwd hnm hck hcd;(try clear hq1);(try clear hq2);(try clear hq3);(try clear hq0);(try clear hq4);(try clear ou);(try clear ow);(try clear oz);simp_all
  intro Jz
  refine qJ 4 109 ?_ ?_
  ·intro aqh
   refine av 6 ?_;intro a H;refine Un (_) _ _ ?_ sB;clear hst hwd hnm hck hcd;(try clear hq1);(try clear hq2);(try clear hq3);(try clear hq0);(try clear hq4);(try clear ou);(try clear ow);(try clear oz);simp_all
  intro aqh
  refine av 6 ?_;intro a H;refine Un (_) _ _ ?_ sB;clear hst hwd hnm hck hcd;(try clear hq1);(try clear hq2);(try clear hq3);(try clear hq0);(try clear hq4);(try clear ou);(try clear ow);(try clear oz);simp_all
 clear H;intro q4 a w hI H;dsimp only [lca,bK] at H;(repeat with_reducible refine dK ?_);refine d0 ?_;have hq4:=hI;refine DI (ι:=Bool) (Tc:=[(1,_),(3,_)]) 11 (fun (q5:Bool)=>[(126,.bool q5)]) (fun (q5:Bool)=>q5=uO x) sB ?_ ?_
 ·intro Uo;refine sS 1 116 H ?_ ?_ <;> clear H
  ·intro aqk
   refine av 10 ?_;intro a H;refine Uo (_) _ _ ?_ sB;rw [show uO x=(q4 || decide (x.kind≠7) && decide (0 < (x.rows.length:Int))) by rw [hq4,hq3,hq2,hq1];rfl];clear hq4;clear hst hwd hnm hck hcd;(try clear hq1);(try clear hq2);(try clear hq3);(try clear hq0);(try clear hq4);(try clear ou);(try clear ow);(try clear oz);simp_all
  intro aqk
  refine qJ 4 120 ?_ ?_
  ·intro aqm
   refine av 6 ?_;intro a H;refine Uo (_) _ _ ?_ sB;rw [show uO x=(q4 || decide (x.kind≠7) && decide (0 < (x.rows.length:Int))) by rw [hq4,hq3,hq2,hq1];rfl];clear hq4;clear hst hwd hnm hck hcd;(try clear hq1);(try clear hq2);(try clear hq3);(try clear hq0);(try clear hq4);(try clear ou);(try clear ow);(try clear oz);simp_all
  intro aqm
  refine av 6 ?_;intro a H;refine Uo (_) _ _ ?_ sB;rw [show uO x=(q4 || decide (x.kind≠7) && decide (0 < (x.rows.length:Int))) by rw [hq4,hq3,hq2,hq1];rfl];clear hq4;clear hst hwd hnm hck hcd;(try clear hq1);(try clear hq2);(try clear hq3);(try clear hq0);(try clear hq4);(try clear ou);(try clear ow);(try clear oz);simp_all
 clear H;intro q5 a w hI H;dsimp only [lca,bK] at H;(repeat with_reducible refine dK ?_);refine d0 ?_;have ou:=hI;refine lW 2 H ?_ ?_ <;> clear H
 ·intro En
  have e:kI x=15:=by unfold kI;rw [ah f0,ak (by rw [← ou];exact En)]
  refine bP 3 ?_;exact ⟨by rw [e],rfl⟩
 intro En
 try have V9:=dF En
 have f1:¬ uO x=true:=by rw [← ou,En];decide
 refine av 3 ?_;intro a H;refine s_call KI H wn rfl (MX _ _ H.ro x.text hs) rfl ?_;clear H;rintro v130 _ a w ⟨rfl,rfl⟩ - H;refine lW 3 H ?_ ?_ <;> clear H
 ·intro h127
  have e:kI x=12:=by unfold kI;rw [ah f0,ah f1,ak (by simpa using h127)]
  refine bP 3 ?_;exact ⟨by rw [e],rfl⟩
 intro h127
 try have avG:=dF h127
 have f2:¬ rM x.text=false:=by simpa using h127
 refine av 1 ?_;intro a H;refine DI (ι:=Bool) (Tc:=[(1,_),(3,_)]) 13 (fun (q6:Bool)=>[(145,.bool q6)]) (fun (q6:Bool)=>q6=(decide (x.kind=1∨x.kind=5) && qW x.text)) sB ?_ ?_
 ·intro Ur;refine sS 4 136 H ?_ ?_ <;> clear H
  ·intro aqo
   refine av 5 ?_;intro a H;refine JH Ei H (wg H rfl rfl rfl) rfl rfl ?_;clear H;intro a H;refine kL kR H (wg H rfl rfl rfl) rfl (H.hp.sw 0 rfl rfl) rfl ?_;clear H;intro a H;refine BZ H (wg H rfl rfl rfl) rfl rfl rfl ?_;clear H;refine av 1 ?_;intro a H;refine Ur (_) _ _ ?_ sB;clear hst hwd hnm hck hcd;(try clear hq1);(try clear hq2);(try clear hq3);(try clear hq0);(try clear hq4);(try clear ou);(try clear ow);(try clear oz);simp_all [qW]
  intro aqo
  refine mX 5 141 ?_ ?_
  ·intro OB
   try have aqr:=dT OB
   refine av 2 ?_;intro a H;refine BZ H (wg H rfl rfl OB) rfl rfl rfl ?_;clear H;refine av 1 ?_;intro a H;refine Ur (_) _ _ ?_ sB;clear hst hwd hnm hck hcd;(try clear hq1);(try clear hq2);(try clear hq3);(try clear hq0);(try clear hq4);(try clear ou);(try clear ow);(try clear oz);simp_all [qW]
  intro OB
  try have aqr:=dF OB
  refine av 4 ?_;intro a H;refine Ur (_) _ _ ?_ sB;clear hst hwd hnm hck hcd;(try clear hq1);(try clear hq2);(try clear hq3);(try clear hq0);(try clear hq4);(try clear ou);(try clear ow);(try clear oz);simp_all [qW]
 clear H;intro q6 a w hI H;dsimp only [lca,bK] at H;(repeat with_reducible refine dK ?_);refine d0 ?_;have ow:=hI;refine lW 2 H ?_ ?_ <;> clear H
 ·intro OA
  have e:kI x=11:=by unfold kI;rw [ah f0,ah f1,ah f2,ak (by rw [← ow];exact OA)]
  refine bP 3 ?_;exact ⟨by rw [e],rfl⟩
 intro OA
 try have acY:=dF OA
 have f3:¬ (decide (x.kind=1∨x.kind=5) && qW x.text)=true:=by rw [← ow,OA];decide
 refine av 1 ?_;intro a H;refine DI (ι:=Bool) (Tc:=[(1,_),(3,_)]) 9 (fun (q7:Bool)=>[(155,.bool q7)]) (fun (q7:Bool)=>q7=(decide (x.kind=5) && decide (1024 < (x.text.size:Int)))) sB ?_ ?_
 ·intro aaq;refine qd 4 150 H ?_ ?_ <;> clear H
  ·intro OD
   try have aqs:=dT OD
   refine av 2 ?_;intro a H;refine ES jB H (wg H rfl rfl OD) rfl rfl ?_;clear H;refine av 2 ?_;intro a H;refine aaq (_) _ _ ?_ sB;clear hst hwd hnm hck hcd;(try clear hq1);(try clear hq2);(try clear hq3);(try clear hq0);(try clear hq4);(try clear ou);(try clear ow);(try clear oz);simp_all
  intro OD
  try have aqs:=dF OD
  refine av 5 ?_;intro a H;refine aaq (_) _ _ ?_ sB;clear hst hwd hnm hck hcd;(try clear hq1);(try clear hq2);(try clear hq3);(try clear hq0);(try clear hq4);(try clear ou);(try clear ow);(try clear oz);simp_all
 clear H;intro q7 a w hI H;dsimp only [lca,bK] at H;(repeat with_reducible refine dK ?_);refine d0 ?_;have oz:=hI;refine lW 2 H ?_ ?_ <;> clear H
 ·intro OC
  have e:kI x=10:=by unfold kI;rw [ah f0,ah f1,ah f2,ah f3,ak (by rw [← oz];exact OC)]
  refine bP 3 ?_;exact ⟨by rw [e],rfl⟩
 intro OC
 try have avH:=dF OC
 have f4:¬ (decide (x.kind=5) && decide (1024 < (x.text.size:Int)))=true:=by rw [← oz,OC];decide
 refine av 1 ?_;intro a H;refine DI (ι:=Bool) (Tc:=[]) 7 (fun (q8:Bool)=>[(163,.bool q8)]) (fun (q8:Bool)=>q8=(zm x && !sP x.text)) (by exact H.sub trivial) ?_ ?_
 ·intro aar;refine qd 2 158 H ?_ ?_ <;> clear H
  ·intro OE
   try have aqt:=dT OE
   refine av 2 ?_;intro a H;refine s_call SE H (wg H rfl rfl OE) rfl (R9 _ _ H.ro x.text hs) rfl ?_;clear H;rintro avO _ a w ⟨rfl,rfl⟩ - H;refine bJ 2 H ?_;clear H;intro a H;refine aar (_) _ _ ?_ sB;rw [← hst];clear hst hwd hnm hck hcd;(try clear hq1);(try clear hq2);(try clear hq3);(try clear hq0);(try clear hq4);(try clear ou);(try clear ow);(try clear oz);simp_all
  intro OE
  try have aqt:=dF OE
  refine av 5 ?_;intro a H;refine aar (_) _ _ ?_ sB;rw [← hst];clear hst hwd hnm hck hcd;(try clear hq1);(try clear hq2);(try clear hq3);(try clear hq0);(try clear hq4);(try clear ou);(try clear ow);(try clear oz);simp_all
 clear H;intro q8 a w hI H;dsimp only [lca,bK] at H;(repeat with_reducible refine dK ?_);refine d0 ?_;have hq8:=hI;refine lW 2 H ?_ ?_ <;> clear H
 ·intro TJ
  have e:kI x=13:=by unfold kI;rw [ah f0,ah f1,ah f2,ah f3,ah f4,ak (by rw [← hq8];exact TJ)]
  refine bP 3 ?_;exact ⟨by rw [e],rfl⟩
 intro TJ
 refine av 1 ?_
 have e:kI x=0:=by unfold kI;rw [ah f0,ah f1,ah f2,ah f3,ah f4,ah (by rw [← hq8,TJ];decide)]
 refine bP 3 ?_;exact ⟨by rw [e],rfl⟩
structure CS where
 n:Int
 bN:List Int
abbrev CR:=Int × CS
def gF (r:CR) (f:CS→CR):CR:=if r.1≠0 then r else f r.2
theorem Ih {r:CR} {f:CS→CR} (h:r.1=0):gF r f=f r.2:=by rw [gF,ah (fun h'=>h' h)]
theorem NH {r:CR} {f:CS→CR} (h:r.1≠0):gF r f=r:=by rw [gF,ak h]
def kQ (C:bC) (s:CS) (x:Int):CR:=(qN C.us s.bN x,⟨s.n,kN C.us s.bN x⟩)
def nE (C:bC) (body note:Bool) (t k i:Int) (s:CS):CR :=
 if k=3 then (dh (!body) 19,s) else if k=6 then gF (dh note 19,s) fun s=>kQ C s i else if k=7 then gF (dh (decide (4≤t)) 17,s) fun s=>kQ C s i else if k=8 then (dh (!decide (1≤i∧i≤1073741824)) 18,s) else (0,s)
def Dn (C:bC) (h:dP) (n:Nat):Int:=dY [gN C 9 h,dh (decide ((n:Int)=0)) 11,dh (decide (32 < (n:Int))) 9]
def mM (n:Nat) (f:CS→CR) (s:CS):CR:=if n=0 then (11,s) else if 256 < n then (9,s) else f s
mutual
def fD (C:bC) (body note:Bool) (t:Int):ay→CS→CR
 | .mk k c i tx h f r,s =>
  gF (kI (.mk k c i tx h f r),s) fun s=>gF (nE C body note t k i ⟨s.n+(if k=1 then tT tx else 1:Nat),s.bN⟩) fun s=>gF (gN C k h,s) fun s =>
   if k=6 then jE C false true t f s else if k=7 then mM r.length (fun s=>iN C note (t+1) r s) s else (0,s)
def ze (C:bC) (note:Bool) (t:Int):aU→CS→CR
 | .mk h cs,s=>gF (Dn C h cs.length,s) fun s=>qG C note t cs s
def cellC (C:bC) (note:Bool) (t:Int):aZ→CS→CR
 | .mk i h f,s=>gF (kQ C s i) fun s=>gF (gN C 10 h,s) fun s=>jE C false note t f s
def jE (C:bC) (body note:Bool) (t:Int):List ay→CS→CR
 | [],s=>(0,s)
 | x :: r,s=>gF (fD C body note t x s) fun s=>jE C body note t r s
def iN (C:bC) (note:Bool) (t:Int):List aU→CS→CR
 | [],s=>(0,s)
 | x :: r,s=>gF (ze C note t x s) fun s=>iN C note t r s
def qG (C:bC) (note:Bool) (t:Int):List aZ→CS→CR
 | [],s=>(0,s)
 | x :: r,s=>gF (cellC C note t x s) fun s=>qG C note t r s
end
theorem abU (C:bC) (body note:Bool) (t:Int) (x:ay) (s:CS):fD C body note t x s=gF (kI x,s) fun s=>gF (nE C body note t x.kind x.id ⟨s.n+(jC x:Nat),s.bN⟩) fun s=>gF (gN C x.kind x.head,s) fun s =>
  if x.kind=6 then jE C false true t x.flow s else if x.kind=7 then mM x.rows.length (fun s=>iN C note (t+1) x.rows s) s else (0,s):=by cases x;rw [fD];rfl
theorem Qj (C:bC) (note:Bool) (t:Int) (x:aU) (s:CS):ze C note t x s=gF (Dn C x.head x.cells.length,s) fun s=>qG C note t x.cells s:=by cases x;rw [ze];rfl
theorem NQ (C:bC) (note:Bool) (t:Int) (x:aZ) (s:CS):cellC C note t x s=gF (kQ C s x.id) fun s=>gF (gN C 10 x.head,s) fun s=>jE C false note t x.flow s:=by cases x;rw [cellC];rfl
def Up (s:CS) (z:Nat) (r:CR):Prop:=s.n≤r.2.n∧r.2.n≤s.n+z
theorem Up.and {s:CS} {z y q:Nat} {r:CR} {f:CS→CR} (h:Up s z r) (hq:z+y≤q) (hf:∀ s,Up s y (f s)):Up s q (gF r f):=by
 obtain ⟨h1,h2⟩:=h
 unfold gF
 split
 ·exact ⟨h1,by omega⟩
 obtain ⟨h3,h4⟩:=hf r.2;exact ⟨by omega,by omega⟩
theorem Up.zero (s:CS) (e:Int) (q:Nat):Up s q (e,s):=⟨Int.le_refl _,by dsimp only;omega⟩
theorem Up.le {s:CS} {z y:Nat} {r:CR} (h:Up s z r) (hq:z≤y):Up s y r:=⟨h.1,by have:=h.2;omega⟩
theorem aeC (C:bC) (s:CS) (x:Int) (q:Nat):Up s q (kQ C s x):=⟨Int.le_refl _,by dsimp only [kQ];omega⟩
theorem atI (C:bC) (body note:Bool) (t k i:Int) (s:CS) (q:Nat):Up s q (nE C body note t k i s):=by
 unfold nE
 (repeat' split) <;> first|exact Up.zero _ _ _|exact (Up.zero _ _ 0).and (y:=0) (by omega) fun s=>aeC _ _ _ _
mutual
theorem aeD (C:bC) (body note:Bool) (t:Int):∀ (x:ay) (s:CS),Up s (bZ x.dat) (fD C body note t x s)
 | .mk k c i tx h f r,s=>by
  have hz:=zy (.mk k c i tx h f r);have hf:=QK C false true t f;have hr:=aeE C note (t+1) r;rw [fD];obtain ⟨u,hu'⟩:∃ u,u=(if k=1 then tT tx else 1:Nat):=⟨_,rfl⟩
  have hu:u≤tx.size+1:=by
   have:=Yx tx
   rw [hu'];split <;> omega
  rw [← hu'];dsimp only [ay.text,ay.flow,ay.rows,ay.head] at hz;refine (Up.zero s _ 0).and (Nat.le_of_eq (gD _)) fun s=>?_
  have h2:Up s (u) (nE C body note t k i ⟨s.n+(u:Nat),s.bN⟩):=by
   obtain ⟨h3,h4⟩:=atI C body note t k i ⟨s.n+(u:Nat),s.bN⟩ 0;dsimp only at h3 h4;exact ⟨by omega,by omega⟩
  refine h2.and (y:=cu f+gX r) (by omega) fun s=>(Up.zero s _ 0).and (Nat.le_of_eq (gD _)) fun s=>?_
  by_cases h6:k=6
  ·rw [ak h6];exact (hf s).le (by omega)
  rw [ah h6]
  by_cases h7:k=7
  ·rw [ak h7]
   unfold mM
   by_cases c1:r.length=0
   ·rw [ak c1];exact Up.zero _ _ _
   rw [ah c1]
   by_cases c2:256 < r.length
   ·rw [ak c2];exact Up.zero _ _ _
   rw [ah c2];exact (hr s).le (by omega)
  rw [ah h7];exact Up.zero _ _ _
theorem atJ (C:bC) (note:Bool) (t:Int):∀ (x:aU) (s:CS),Up s (bZ x.dat) (ze C note t x s)
 | .mk h cs,s=>by
  have hz:=DK (.mk h cs);have hc:=aeB C note t cs;rw [Qj];dsimp only [aU.cells,aU.head] at hz ⊢;exact (Up.zero s _ 0).and (y:=iR cs) (by omega) fun s=>hc s
theorem atH (C:bC) (note:Bool) (t:Int):∀ (x:aZ) (s:CS),Up s (bZ x.dat) (cellC C note t x s)
 | .mk i h f,s=>by
  have hz:=DJ (.mk i h f);have hf:=QK C false note t f;rw [NQ];dsimp only [aZ.flow,aZ.head,aZ.id] at hz ⊢;exact (aeC C s _ 0).and (y:=cu f) (by omega) fun s=>(Up.zero s _ 0).and (Nat.le_of_eq (gD _)) fun s=>hf s
theorem QK (C:bC) (body note:Bool) (t:Int):∀ (l:List ay) (s:CS),Up s (cu l) (jE C body note t l s)
 | [],s=>by rw [jE];exact Up.zero _ _ _
 | x :: r,s=>by
  rw [jE];exact (aeD C body note t x s).and (y:=cu r) (by simp only [cu,fG,eG];omega) fun s=>QK C body note t r s
theorem aeE (C:bC) (note:Bool) (t:Int):∀ (l:List aU) (s:CS),Up s (gX l) (iN C note t l s)
 | [],s=>by rw [iN];exact Up.zero _ _ _
 | x :: r,s=>by
  rw [iN];exact (atJ C note t x s).and (y:=gX r) (by simp only [gX,fG,eG];omega) fun s=>aeE C note t r s
theorem aeB (C:bC) (note:Bool) (t:Int):∀ (l:List aZ) (s:CS),Up s (iR l) (qG C note t l s)
 | [],s=>by rw [qG];exact Up.zero _ _ _
 | x :: r,s=>by
  rw [qG];exact (atH C note t x s).and (y:=iR r) (by simp only [iR,fG,eG];omega) fun s=>aeB C note t r s
end
def rJ {α:Type} (f:α→CS→CR) (l:List α) (s:CS):Nat→CS
 | 0=>s
 | i+1=>match l[i]? with|some x=>(f x (rJ f l s i)).2|none=>rJ f l s i
def Cy {α:Type} (f:α→CS→CR) (l:List α) (s:CS) (i:Nat):Int:=match l[i]? with|some x=>(f x (rJ f l s i)).1|none=>0
theorem WO {α:Type} (f:α→CS→CR) (x:α) (l:List α) (s:CS):∀ i,rJ f (x :: l) s (i+1)=rJ f l (f x s).2 i
 | 0=>rfl
 | i+1=>by
  have ih:=WO f x l s i
  simp only [rJ,List.getElem?_cons_succ] at ih ⊢
  rw [ih]
theorem akH {α:Type} (f:α→CS→CR) (x:α) (l:List α) (s:CS) (i:Nat):Cy f (x :: l) s (i+1)=Cy f l (f x s).2 i:=by
 unfold Cy
 simp only [List.getElem?_cons_succ,WO]
theorem afI (E:Nat→Int) (n:Nat):kr E (n+1)=if E 0≠0 then E 0 else kr (fun i=>E (i+1)) n:=by
 unfold kr
 rw [List.range_succ_eq_map,fG,dY,List.map_map]
 rfl
theorem abV (C:bC) (body note:Bool) (t:Int):∀ (l:List ay) (s:CS),(jE C body note t l s).1=kr (Cy (fD C body note t) l s) l.length∧((jE C body note t l s).1=0→(jE C body note t l s).2=rJ (fD C body note t) l s l.length)
 | [],s=>by rw [jE];exact ⟨rfl,fun _=>rfl⟩
 | x :: r,s=>by
  obtain ⟨h1,h2⟩:=abV C body note t r (fD C body note t x s).2;have e0:Cy (fD C body note t) (x :: r) s 0=(fD C body note t x s).1:=rfl;rw [jE,kU,afI,e0,WO]
  simp only [akH]
  unfold gF
  split
  ·next h=>exact ⟨rfl,fun h0=>absurd h0 h⟩
  exact ⟨h1,h2⟩
theorem aeF (C:bC) (body note:Bool) (t:Int) (l:List ay) (s:CS):∀ i,i≤l.length→s.n≤(rJ (fD C body note t) l s i).n∧(rJ (fD C body note t) l s i).n+(cu (l.drop i):Nat)≤s.n+(cu l:Nat)
 | 0,_=>⟨Int.le_refl _,Int.le_refl _⟩
 | i+1,hi=>by
  have hi':i < l.length:=hi;obtain ⟨h1,h2⟩:=aeF C body note t l s i (by omega)
  have hs:rJ (fD C body note t) l s (i+1)=(fD C body note t l[i] (rJ (fD C body note t) l s i)).2:=by rw [rJ,dZ hi']
  have hd:cu (l.drop i)=1+bZ l[i].dat+cu (l.drop (i+1)):=by
   simp only [cu];rw [qR hi',fG,eG]
  obtain ⟨h3,h4⟩:=aeD C body note t l[i] (rJ (fD C body note t) l s i);rw [hs];exact ⟨by omega,by omega⟩
mutual
/-- The ids in items, in document order. -/
def qM:ay→List Int
 | .mk k _ i _ _ f r=>(if k=6∨k=7 then [i] else [])++((if k=6 then iZ f else [])++(if k=7 then nu r else []))
def iZ:List ay→List Int
 | []=>[]
 | x :: r=>qM x++iZ r
def uW:aU→List Int
 | .mk _ c=>nY c
def nu:List aU→List Int
 | []=>[]
 | x :: r=>uW x++nu r
def vZ:aZ→List Int
 | .mk i _ f=>i :: iZ f
def nY:List aZ→List Int
 | []=>[]
 | x :: r=>vZ x++nY r
end
theorem mV {r:CR} {f:CS→CR} {s':CS} (h:gF r f=(0,s')):r.1=0∧f r.2=(0,s'):=by
 unfold gF at h
 split at h
 ·rename_i h1;rw [h] at h1;exact absurd rfl h1
 rename_i h1;exact ⟨nT.1 h1,h⟩
theorem Sb {r:CR} (h:r.1=0):r=(0,r.2):=Prod.ext h rfl
structure mQ (a b c:List Int):Prop where
 eq:c=a++b
 nd:a.Nodup→c.Nodup
 pos:∀ i∈b,1≤i∧i≤1073741824
theorem mQ.nil (a:List Int):mQ a [] a:=⟨by simp,fun h=>h,fun i h=>by cases h⟩
theorem mQ.trans {a b c d e:List Int} (h:mQ a b c) (g:mQ c d e):mQ a (b++d) e:=⟨by rw [g.eq,h.eq,jm],fun h1=>g.nd (h.nd h1),fun i hi=>(mJ.1 hi).elim (h.pos i) (g.pos i)⟩
theorem mQ.id {us a:List Int} {x:Int} (h:qN us a x=0):mQ a [x] (kN us a x):=by
 unfold kN
 rw [ak h]
 unfold qN at h
 by_cases h0:¬ (1≤x∧x≤1073741824)∨x∈us
 ·rw [ak h0] at h;cases h
 rw [ah h0] at h;have h1:1≤x∧x≤1073741824:=nT.1 fun h'=>h0 (.inl h')
 by_cases h2:x∈a
 ·rw [ak h2] at h;cases h
 exact ⟨rfl,fun h3=>List.nodup_append.2 ⟨h3,by simp,fun u hu v hv=>by rw [tL.1 hv];exact fun e=>h2 (e ▸ hu)⟩,fun i hi=>by rw [tL.1 hi];exact h1⟩
theorem mQ.kQ {C:bC} {s s':CS} {x:Int} (h:kQ C s x=(0,s')):mQ s.bN [x] s'.bN:=by
 unfold Go.Proofs.YtdiflmikikiedaaGreat.kQ at h
 injection h with h1 h2
 rw [← h2];exact mQ.id h1
theorem aqy {C:bC} {body note:Bool} {t k i:Int} {s s':CS} (h:nE C body note t k i s=(0,s')):mQ s.bN (if k=6∨k=7 then [i] else []) s'.bN:=by
 unfold nE at h
 by_cases h3:k=3
 ·rw [ak h3] at h;injection h with _ h2;rw [ah (by omega),← h2];exact mQ.nil _
 rw [ah h3] at h
 by_cases h6:k=6
 ·rw [ak h6] at h;rw [ak (.inl h6)];exact mQ.kQ (mV h).2
 rw [ah h6] at h
 by_cases h7:k=7
 ·rw [ak h7] at h;rw [ak (.inr h7)];exact mQ.kQ (mV h).2
 rw [ah h7] at h;rw [ah (by omega)]
 by_cases h8:k=8
 ·rw [ak h8] at h;injection h with _ h2;rw [← h2];exact mQ.nil _
 rw [ah h8] at h;injection h with _ h2;rw [← h2];exact mQ.nil _
theorem Wo {n:Nat} {f:CS→CR} {s s':CS} (h:mM n f s=(0,s')):n≠0∧f s=(0,s'):=by
 unfold mM at h
 split at h
 ·cases h
 rename_i h1
 split at h
 ·cases h
 exact ⟨h1,h⟩
mutual
theorem akL (C:bC) (body note:Bool) (t:Int):∀ (x:ay) (s s':CS),fD C body note t x s=(0,s')→mQ s.bN (qM x) s'.bN
 | .mk k c i tx h f r,s,s',e=>by
  have hf:=Oh C false true t f;have hr:=ZL C note (t+1) r;rw [fD] at e;obtain ⟨-,e⟩:=mV e;obtain ⟨e1,e⟩:=mV e;obtain ⟨-,e⟩:=mV e;have h1:=aqy (Sb e1);rw [qM];refine h1.trans ?_
  by_cases h6:k=6
  ·rw [ak h6] at e ⊢;rw [ah (show ¬ k=7 by omega),fZ];exact hf _ _ e
  rw [ah h6] at e ⊢;rw [oL]
  by_cases h7:k=7
  ·rw [ak h7] at e ⊢;exact hr _ _ (Wo e).2
  rw [ah h7] at e ⊢
  injection e with _ e
  rw [← e];exact mQ.nil _
theorem akM (C:bC) (note:Bool) (t:Int):∀ (x:aU) (s s':CS),ze C note t x s=(0,s')→mQ s.bN (uW x) s'.bN
 | .mk h cs,s,s',e=>by
  have hc:=ZK C note t cs;rw [Qj] at e;rw [uW];exact hc _ _ (mV e).2
theorem akK (C:bC) (note:Bool) (t:Int):∀ (x:aZ) (s s':CS),cellC C note t x s=(0,s')→mQ s.bN (vZ x) s'.bN
 | .mk i h f,s,s',e=>by
  have hf:=Oh C false note t f;rw [NQ] at e;dsimp only [aZ.id,aZ.head,aZ.flow] at e;obtain ⟨e1,e⟩:=mV e;have h1:=mQ.kQ (s':=(kQ C s i).2) (Prod.ext e1 rfl);rw [vZ];exact h1.trans (hf _ _ (mV e).2)
theorem Oh (C:bC) (body note:Bool) (t:Int):∀ (l:List ay) (s s':CS),jE C body note t l s=(0,s')→mQ s.bN (iZ l) s'.bN
 | [],s,s',e=>by rw [jE] at e;injection e with _ e;rw [← e];exact mQ.nil _
 | x :: r,s,s',e=>by
  rw [jE] at e;obtain ⟨e1,e⟩:=mV e;rw [iZ];exact (akL C body note t x s _ (Prod.ext e1 rfl)).trans (Oh C body note t r _ _ e)
theorem ZL (C:bC) (note:Bool) (t:Int):∀ (l:List aU) (s s':CS),iN C note t l s=(0,s')→mQ s.bN (nu l) s'.bN
 | [],s,s',e=>by rw [iN] at e;injection e with _ e;rw [← e];exact mQ.nil _
 | x :: r,s,s',e=>by
  rw [iN] at e;obtain ⟨e1,e⟩:=mV e;rw [nu];exact (akM C note t x s _ (Prod.ext e1 rfl)).trans (ZL C note t r _ _ e)
theorem ZK (C:bC) (note:Bool) (t:Int):∀ (l:List aZ) (s s':CS),qG C note t l s=(0,s')→mQ s.bN (nY l) s'.bN
 | [],s,s',e=>by rw [qG] at e;injection e with _ e;rw [← e];exact mQ.nil _
 | x :: r,s,s',e=>by
  rw [qG] at e;obtain ⟨e1,e⟩:=mV e;rw [nY];exact (akK C note t x s _ (Prod.ext e1 rfl)).trans (ZK C note t r _ _ e)
end
def rQ (l:List ay):Prop:=∃ (C:bC) (body note:Bool) (t:Int) (s s':CS),jE C body note t l s=(0,s')
structure Ia (x:ay):Prop where
 txt:rM x.text=true
 kd:1≤x.kind∧x.kind≤8
 rw0:x.kind≠7→x.rows=[]
 fl0:x.kind≠6→x.flow=[]
 fl:rQ x.flow
 rw:∀ r∈x.rows,∀ c∈r.cells,rQ c.flow
theorem apX:rQ []:=⟨⟨[],[],[],[]⟩,false,false,0,⟨0,[]⟩,⟨0,[]⟩,by rw [jE]⟩
theorem FK {x:ay} (h:kI x=0):rM x.text=true∧(1≤x.kind∧x.kind≤8)∧(x.kind≠7→x.rows=[])∧(x.kind≠6→x.flow=[]):=by
 unfold kI at h
 split at h
 ·cases h
 rename_i h1
 split at h
 ·cases h
 rename_i h2
 split at h
 ·cases h
 rename_i h3
 have hk:decide (1≤x.kind∧x.kind≤8)=true:=by
  cases hd:decide (1≤x.kind∧x.kind≤8)
  ·rw [hd] at h1;exact absurd rfl h1
  rfl
 refine ⟨by simpa using h3,nS hk,fun h7=>?_,fun h6=>?_⟩
 ·rw [Bool.not_eq_true] at h2
  unfold uO at h2
  simp only [Bool.or_eq_false_iff] at h2
  have h4:=h2.2;rw [iO h7,D6,mU] at h4;exact List.length_eq_zero_iff.1 (by omega)
 rw [Bool.not_eq_true] at h2
 unfold uO at h2
 simp only [Bool.or_eq_false_iff] at h2
 have h4:=h2.1.2;rw [iO h6,D6,mU] at h4;exact List.length_eq_zero_iff.1 (by omega)
theorem cells_ok {C:bC} {note:Bool} {t:Int}:∀ {l:List aZ} {s s':CS},qG C note t l s=(0,s')→∀ c∈l,rQ c.flow
 | [],_,_,_,_,h=>by cases h
 | x :: r,s,s',e,c,h=>by
  rw [qG] at e;obtain ⟨e1,e⟩:=mV e
  rcases iX.1 h with rfl|h
  ·have e2:cellC C note t c s=(0,(cellC C note t c s).2):=Prod.ext e1 rfl
   generalize (cellC C note t c s).2=s2 at e2
   rw [NQ] at e2;exact ⟨C,false,note,t,_,_,(mV (mV e2).2).2⟩
  exact cells_ok e c h
theorem adu {C:bC} {note:Bool} {t:Int}:∀ {l:List aU} {s s':CS},iN C note t l s=(0,s')→∀ r∈l,∀ c∈r.cells,rQ c.flow
 | [],_,_,_,_,h=>by cases h
 | x :: r,s,s',e,q,h=>by
  rw [iN] at e;obtain ⟨e1,e⟩:=mV e
  rcases iX.1 h with rfl|h
  ·have e2:ze C note t q s=(0,(ze C note t q s).2):=Prod.ext e1 rfl
   generalize (ze C note t q s).2=s2 at e2
   rw [Qj] at e2;exact cells_ok (mV e2).2
  exact adu e q h
theorem rQ.head {x:ay} {l:List ay} (h:rQ (x :: l)):Ia x∧rQ l:=by
 obtain ⟨C,body,note,t,s,s',e⟩:=h;rw [jE] at e;obtain ⟨e1,e⟩:=mV e;have e2:fD C body note t x s=(0,(fD C body note t x s).2):=Prod.ext e1 rfl
 generalize (fD C body note t x s).2=s2 at e2
 refine ⟨?_,⟨C,body,note,t,_,_,e⟩⟩;rw [abU] at e2;obtain ⟨f1,e2⟩:=mV e2;(iterate 2 obtain ⟨-,e2⟩:=mV e2);obtain ⟨h1,h2,h3,h4⟩:=FK f1;refine ⟨h1,h2,h3,h4,?_,?_⟩
 ·by_cases h6:x.kind=6
  ·rw [ak h6] at e2;exact ⟨_,_,_,_,_,_,e2⟩
  rw [h4 h6];exact apX
 by_cases h7:x.kind=7
 ·rw [ah (by omega),ak h7] at e2;exact adu (Wo e2).2
 rw [h3 h7];exact fun _ h=>by cases h
theorem rQ.tail {x:ay} {l:List ay} (h:rQ (x :: l)):rQ l:=h.head.2
theorem rQ.mem:∀ {l:List ay} {x:ay},rQ l→x∈l→Ia x
 | y :: l,x,h,hx=>by
  rcases iX.1 hx with rfl|hx
  ·exact h.head.1
  exact rQ.mem h.head.2 hx
theorem Ia.e {x:ay} (h:Ia x):MW x=0:=by unfold MW JR;rw [ak h.txt];split <;> rfl
theorem Ia.n1 {x:ay} (h:Ia x):n1 x=jC x:=by unfold Go.Proofs.YtdiflmikikiedaaGreat.n1;rw [ak h.e]
theorem rQ.div {l:List ay} (h:rQ l):Oc l=true:=by
 unfold Oc
 rw [kE];exact fun x hx=>iO (h.mem hx).e
theorem rQ.len {l:List ay} (h:rQ l):EI l=Hg l:=by unfold EI;rw [ak h.div]
mutual
theorem aud (note:Bool) (t:Int):∀ x:ay,((M0 note t x).map qB.id).Sublist (qM x)
 | .mk k c i tx h f r=>by
  have hf:=QN true t f;have hr:=aeQ note t r;rw [M0,qM]
  by_cases h6:k=6
  ·rw [ak h6,ak (.inl h6),ak h6,ah (by omega),fZ];exact List.Sublist.cons_cons _ hf
  rw [ah h6,ah h6,oL]
  by_cases h7:k=7
  ·rw [ak h7,ak h7,ak (.inr h7)];exact List.Sublist.cons _ hr
  rw [ah h7];exact List.nil_sublist _
theorem QN (note:Bool) (t:Int):∀ l:List ay,((Ch note t l).map qB.id).Sublist (iZ l)
 | []=>by rw [Ch];exact List.nil_sublist _
 | x :: l=>by
  rw [Ch,iZ,kV];exact (aud note t x).append (QN note t l)
theorem aue (note:Bool) (t:Int):∀ x:aU,((M4 note t x).map qB.id).Sublist (uW x)
 | .mk h cs=>by rw [M4,uW];exact aeP note t cs
theorem aeQ (note:Bool) (t:Int):∀ l:List aU,((E8 note t l).map qB.id).Sublist (nu l)
 | []=>by rw [E8];exact List.nil_sublist _
 | x :: l=>by
  rw [E8,nu,kV];exact (aue note t x).append (aeQ note t l)
theorem auc (note:Bool) (t:Int):∀ x:aZ,((MZ note t x).map qB.id).Sublist (vZ x)
 | .mk i h f=>by rw [MZ,vZ];exact List.Sublist.cons_cons _ (QN note (t+1) f)
theorem aeP (note:Bool) (t:Int):∀ l:List aZ,((E5 note t l).map qB.id).Sublist (nY l)
 | []=>by rw [E5];exact List.nil_sublist _
 | x :: l=>by
  rw [E5,nY,kV];exact (auc note t x).append (aeP note t l)
end
structure Nv (l:List ay):Prop where
 ok:rQ l
 nd:(iZ l).Nodup
 pos:∀ i∈iZ l,1≤i∧i≤1073741824
theorem Nv.of {C:bC} {body note:Bool} {t n:Int} {l:List ay} {s':CS} (h:jE C body note t l ⟨n,[]⟩=(0,s')):Nv l:=by
 have he:=Oh C body note t l _ _ h;have hn:=he.nd List.nodup_nil;rw [he.eq] at hn;exact ⟨⟨C,body,note,t,_,_,h⟩,by simpa using hn,he.pos⟩
theorem Nv.ids {l:List ay} (h:Nv l):((IQ l).map qB.id).Nodup:=by
 have hs:=QN false 0 l;rw [IQ,fG,List.nodup_cons];exact ⟨fun hm=>by have:=h.pos _ (hs.subset hm);dsimp only at this;omega,hs.nodup h.nd⟩
section
theorem Iy:∀ args w,(callFunc 70 args).run prog w=.ok (.enter 70 args) w:=enters func70 rfl (by kernel_rfl)
theorem SG:∀ args w,(callFunc 198 args).run prog w=.ok (.enter 198 args) w:=enters func198 rfl (by kernel_rfl)
theorem KJ:∀ args w,(callFunc 72 args).run prog w=.ok (.enter 72 args) w:=enters func72 rfl (by kernel_rfl)
variable {us:List Int}
theorem I5 (G:GH) (L:OL) (w0:World) (st:List bU) (li:List eD) (rv:List bL) (b ms ml mr mb mu:Nat) (n:Int) (hck:wI us G st li rv ms ml mr mu) (hO:gG G (gy b ms ml mr mb mu n :: L) w0)
  (e:Int) (h:dP) (p d l:aj) (hh:iA G h p d l) (hz:mh h≤4294967296) :
  Calls prog 70 #[(aM b 0),vi e,rz h p d l] w0 (fP w0 G (gy b ms ml mr mb mu n :: L) fun v G' L'=>G=G'∧L'=gy b ms ml mr mb mu n :: L∧v=vi (gN (bE us st li rv) e h)):=by
 have hm:=GH.Ie G (o:=(gy b ms ml mr mb mu n).2) (hO.sep _ eX);exact (anb (G.add b (gy b ms ml mr mb mu n).2) w0 hO.add st li rv b ms ml mr mb mu n (hck.mono hm) (GH.Ig _ _ _) e h p d l (hh.mono hm) hz).mono fun _ _=>aqV (b:=b) (o:=(gy b ms ml mr mb mu n).2) (R':=fun v=>v=vi (gN (bE us st li rv) e h)) hO fun _ _ h=>h
abbrev Ng (b ms ml mr mb mu:Nat) (L:OL) (r:CR):aj→OL→Prop:=fun u L'=>∃ s:CS,u=vi r.1∧L'=gy b ms ml mr mb mu s.n :: (mb,eZ (fI s.bN)) :: L∧(r.1=0→s=r.2)
def HZ (us:List Int) (m:Nat):Prop:=∀ (G:GH) (L:OL) (w0:World) (st:List bU) (li:List eD) (rv:List bL) (b ms ml mr mb mu:Nat) (s:CS) (l:List ay) (v:aj) (body note:Bool) (t:Int),
 wI us G st li rv ms ml mr mu→gG G (gy b ms ml mr mb mu s.n :: (mb,eZ (fI s.bN)) :: L) w0→au G (.sl 11 (l.map ay.dat)) v→cu l < m→0≤t→t≤4→0≤s.n→s.n+(cu l:Nat)≤1099511627776 →
 Calls prog 72 #[(aM b 0),v,.agg #[.bool body,.bool note,vi t]] w0 (fP w0 G (gy b ms ml mr mb mu s.n :: (mb,eZ (fI s.bN)) :: L) fun u G' L'=>G=G'∧Ng b ms ml mr mb mu L (jE (bE us st li rv) body note t l s) u L')
theorem rows_ok {m:Nat} (ih:HZ us m) (hm:m≤4294967296) (Gt:GH) (L:OL) (w0:World) (st:List bU) (li:List eD) (rv:List bL) (b ms ml mr mb mu:Nat) (s:CS) (l:List aU) (v:aj) (note:Bool) (t:Int)
  (hck:wI us Gt st li rv ms ml mr mu) (hO:gG Gt (gy b ms ml mr mb mu s.n :: (mb,eZ (fI s.bN)) :: L) w0) (hv:au Gt (.sl 6 (l.map aU.dat)) v) (hz:gX l < m) (ht0:0≤t) (Ah:t≤4) (hs0:0≤s.n) (hs1:s.n+(gX l:Nat)≤1099511627776) :
  Calls prog 199 #[(aM b 0),v,.agg #[.bool false,.bool note,vi t]] w0 (fP w0 Gt (gy b ms ml mr mb mu s.n :: (mb,eZ (fI s.bN)) :: L) fun u G' L'=>Ng b ms ml mr mb mu L (mM l.length (fun s=>iN (bE us st li rv) note t l s) s) u L'):=by
 obtain ⟨A,c,rfl,hc1,hc2,hg⟩:=hv.slice;rw [bO] at *;have hll:=JY l;refine jr (N:=77) (T:=[(0,_),(1,_),(2,_)]) func199 rfl ntmps199 rfl rfl hO ?_;intro a H;refine fK (fun _ K1=>?_);refine dW (cs:=[_,_,_]) H wn rfl rfl rfl ?_;clear H;intro b5 a w hb5 H;refine kH H (aF K1 rfl (SQ fun _ K2=>SR fun _ K3=>Rm rfl (Rl tq rfl (Rc rfl (Kz K3 (Cd rfl ?_ ?_)))))) <;> clear H K1 K3
 ·intro eT a H
  try have jZ:=dT eT
  refine eY (fun _ K4=>?_);have hE:mM l.length (fun s=>iN (bE us st li rv) note t l s) s=(11,s):=ak (by omega);exact kP H (SC (gY K4 rfl (LR results199 rfl fun H=>H.hp.kZ (L':=gy b ms ml mr mb mu s.n :: (mb,eZ (fI s.bN)) :: L) (by repeat (first|exact kF _|apply List.Sublist.cons)) ⟨s,by rw [hE],rfl,fun h=>by rw [hE]⟩)))
 intro eT a H
 try have jZ:=dF eT
 refine kP H (Kc K2 (SQ fun _ K5=>SR fun _ K6=>Rm rfl (Rl tq rfl (Rc rfl (Kz K6 (Cd rfl ?_ ?_)))))) <;> clear H K2 K6
 ·intro h20 a H
  try have Ms:=dT h20
  refine eY (fun _ K7=>?_)
  have hE:mM l.length (fun s=>iN (bE us st li rv) note t l s) s=(9,s):=by rw [mM,ah (by omega),ak (by omega)]
  exact kP H (SC (gY K7 rfl (LR results199 rfl fun H=>H.hp.kZ (L':=gy b ms ml mr mb mu s.n :: (mb,eZ (fI s.bN)) :: L) (by repeat (first|exact kF _|apply List.Sublist.cons)) ⟨s,by rw [hE],rfl,fun h=>by rw [hE]⟩)))
 intro h20 a H
 try have Ms:=dF h20
 refine kP H (Kc K5 (SQ fun _ K8=>SQ fun _ K9=>?_));clear H K5;intro a H
 have hE:mM l.length (fun s=>iN (bE us st li rv) note t l s) s=iN (bE us st li rv) note t l s:=by rw [mM,ah (by omega),ah (by omega)]
 refine kP H (SC (Rm rfl (Rl tq rfl (Rm rfl (Kn K9 (SB ?_))))));clear H K9;intro a H;skip;refine eH (ι:=Nat × CS × GH) (Tc:=[(0,_),(5,_),(21,_),(22,_)]) (Lc:=[(_,_)]) (fun gh=>[(23,vi gh.1)]) (fun gh=>[gy b ms ml mr mb mu gh.2.1.n,(mb,eZ (fI gh.2.1.bN))]++L) (fun gh=>gh.2.2) (fun gh=>gh.1≤l.length∧(∀ b o,Gt b=some o→gh.2.2 b=some o)∧iN (bE us st li rv) note t l s=iN (bE us st li rv) note t (l.drop gh.1) gh.2.1∧0≤gh.2.1.n∧gh.2.1.n+(gX (l.drop gh.1):Nat)≤1099511627776) (fun gh=>l.length - gh.1) ((0,s,Gt)) (by exact (H).sub ⟨rfl,rfl,rfl,rfl,rfl,aL⟩) ?_ ?_
 ·exact ⟨iH _,fun _ _ h=>h,rfl,hs0,hs1⟩
 clear H;rintro ⟨k,s1,g⟩ a w hI H;dsimp only at hI H;obtain ⟨hk,hgm,hR,hn0,hn1⟩:=hI;dsimp only [lca,bK] at H;refine kP H (SR fun _ eU=>Rc rfl (Kz eU (SQ fun _ fQ=>Cd rfl ?_ ?_))) <;> clear H eU
 ·intro fq a H
  try have jT:=dT fq
  have hk2:k < l.length:=by omega
  have hsz:=Na hk2;have hcs:=JW l[k].cells
  have hdz:gX (l.drop k)=1+bZ l[k].dat+gX (l.drop (k+1)):=by simp only [gX];rw [qR hk2,fG,eG]
  have hrz:=DK l[k];obtain ⟨xb,xo,qA,qn,qc,eA,en,ec,zA,zn,zc,cA,cn,cc,rfl,hrow,Df,hcl⟩:=Mx hk2 hg;replace hrow:=fun j u hj=>aG hgm (hrow j u hj);replace Df:=Df.mono hgm;replace hcl:=hcl.mono hgm;have hcn:=hcl.len;rw [bO] at hcn;subst hcn;have amM:=hck.mono hgm;rw [qR hk2,iN,Qj] at hR;refine kP H (Kc fQ (SQ fun _ iF=>SB (SR fun _ jd=>Ri tq jA rfl rfl ?_)));clear H fQ;intro a H;refine aR jA (cs:=[_,_,_,_,_,_]) H wn rfl rfl (fun j v hj=>H.hp.aH (hrow j v hj)) rfl ?_;clear H;intro a H;refine dJ jA H wn rfl ?_;clear H;intro b8 a w BA H;refine aY jA 0 (vs:=[_,_,_,_,_,_]) _ H wn rfl rfl rfl rfl rfl rfl rfl rfl ?_;clear H;intro w H;dsimp only [List.set,setRow] at H;refine jd _ _ ?_;clear jd;refine eY (fun _ iW=>?_);refine eY (fun _ mq=>?_);refine dI hmx [[],[],[1],[0,1,2],[],[4],[4,5],[4,5,6],(ra 0 8),[],[9],[9,10],[9,10,11],(ra 0 13),(ra 0 14),(ra 0 15),(ra 0 16)] [14,15,16] (by kernel_rfl) [_,_,rz l[k].head (.slice qA qn qc) (.slice eA en ec) (.slice zA zn zc),vi (gN (bE us st li rv) 9 l[k].head),_,.slice cA l[k].cells.length cc,_,_,vi (dh (decide ((l[k].cells.length:Int)=0)) 11),_,.slice cA l[k].cells.length cc,_,_,vi (dh (decide (32 < (l[k].cells.length:Int))) 9)] H (aD (Z0 rfl (Rm rfl)) (Z0 rfl (Rf Ot rfl)) ?_ ?_ (aD (Z0 rfl (Rf Ej rfl)) (Z1 4 31 rfl (Ro DF 0 rfl)) (Z1 5 32 rfl (Rl vB rfl)) (Z1 6 33 rfl (Rc rfl)) (aD ?_ (Z0 rfl (Rf Ej rfl)) (Z1 9 36 rfl (Ro DF 0 rfl)) (Z1 10 37 rfl (Rl vB rfl)) (aD (Z1 11 38 rfl (Rc rfl)) ?_ (bS rfl) (bS rfl) (bM (bS rfl) cO))))) ?_
  ·refine eu 1 28 rfl rfl fun _ a w G1 hG HT H fin=>?_;refine aR dB (cs:=[_,_,_,_,_]) H wn rfl rfl (H.hp.bT 0 rfl rfl) rfl ?_;clear H;intro a H;exact fin H iJ rfl
  ·refine dL 0 27 2 29 rfl rfl fun _ a w G1 hG HT H fin=>?_;refine gK Iy (Li:=[_,_]) (L:=gy b ms ml mr mb mu s1.n :: (mb,eZ (fI s1.bN)) :: L) H wn rfl (I5 _ _ _ st li rv b ms ml mr mb mu _ (amM.mono hG) (Hp.owns (Li:=[_,_]) H.hp) 9 l[k].head _ _ _ (Df.mono hG) (by omega)) rfl ?_;clear H;rintro v30 _ _ a w ⟨rfl,rfl,rfl⟩ KU H;dsimp only [lca,bK] at H;exact fin H KU (rfl)
  ·refine eu 7 34 rfl rfl fun _ a w G1 hG HT H fin=>?_;refine s_call jQ H wn rfl (jU _ _ H.ro _ 11) rfl ?_;clear H;rintro v35 XA a w ⟨rfl,-⟩ Ud H;exact fin H Ud (rfl)
  ·refine eu 12 39 rfl rfl fun _ a w G1 hG HT H fin=>?_;refine s_call jQ H wn rfl (jU _ _ H.ro _ 9) rfl ?_;clear H;rintro v40 Q7 a w ⟨rfl,-⟩ alJ H;exact fin H alJ (rfl)
  clear H;intro a w G oM H hv;have H:=H.aN (hv 3 30 rfl rfl) rfl;have H:=H.aN (hv 8 35 rfl rfl) rfl;have H:=H.aN (hv 13 40 rfl rfl) rfl;clear hv;refine gQ qz iD [_,_,_] [_,_,_] H wn rfl rfl rfl rfl rfl (by intro i q h;match i,h with|0,h=>exact h|1,h=>exact h|2,h=>exact h|n+3,h=>simp at h) rfl rfl ?_;clear H;intro b41 a w auT H;obtain ⟨HY,vX,amw,H⟩:=H.eB;have aaG:∀ b o,Gt b=some o→HY b=some o:=fun b o h=>vX _ _ (oM _ _ (hgm _ _ h));refine s_call rT H wn rfl (rU _ _ H.ro _ _ (Gy [gN (bE us st li rv) 9 l[k].head,dh (decide ((l[k].cells.length:Int)=0)) 11,dh (decide (32 < (l[k].cells.length:Int))) 9] amw (show 3≤maxLen by decide))) rfl ?_;clear H;rintro v42 _ a w ⟨rfl,rfl⟩ - H;refine kH H (Ra rfl ?_);clear H;intro a H;refine aC ⟨rfl,?_⟩;refine mq _ _ ?_;clear mq;refine kP H (SR fun _ oJ=>Rm rfl (Rc rfl (Kz oJ (Cd rfl ?_ ?_)))) <;> clear H oJ
  ·intro CG a H
   try have p44:=dT CG
   have e44:Dn (bE us st li rv) l[k].head l[k].cells.length≠0:=p44
   have hF1:(mM l.length (fun s=>iN (bE us st li rv) note t l s) s).1=Dn (bE us st li rv) l[k].head l[k].cells.length:=by rw [hE,hR,NH (r:=(Dn (bE us st li rv) l[k].head l[k].cells.length,s1)) e44,NH e44]
   have hF2:(mM l.length (fun s=>iN (bE us st li rv) note t l s) s).1=0→s1=(mM l.length (fun s=>iN (bE us st li rv) note t l s) s).2:=fun h=>absurd (hF1.symm.trans h) e44;exact kP H (SR fun _ qD=>Rm rfl (aF qD rfl (LR results199 rfl fun H=>H.hp.kZ (L':=gy b ms ml mr mb mu s1.n :: (mb,eZ (fI s1.bN)) :: L) (by repeat (first|exact kF _|apply List.Sublist.cons)) ⟨s1,aB vi hF1.symm,rfl,hF2⟩)))
  intro CG a H
  try have p44:=dF CG
  have e44:Dn (bE us st li rv) l[k].head l[k].cells.length=0:=nT.1 p44;rw [Ih (r:=(Dn (bE us st li rv) l[k].head l[k].cells.length,s1)) e44] at hR;dsimp only at hR;have amN:=hck.mono aaG;replace hcl:=hcl.mono (fun b o h=>vX _ _ (oM b o h));refine kP H (Kc iW (SR fun _ pR=>dU Ej DF 0 rfl rfl (Rl vB rfl (Rm rfl (Kz pR (SB ?_))))));clear H iW pR;intro a H;skip;refine eH (ι:=Nat × CS × GH) (Tc:=[(0,_),(5,_),(21,_),(22,_),(23,_),(47,_),(48,_)]) (Lc:=[(_,_),(_,_)]) (fun gh=>[(49,vi gh.1)]) (fun gh=>[gy b ms ml mr mb mu gh.2.1.n,(mb,eZ (fI gh.2.1.bN))]++L) (fun gh=>gh.2.2) (fun gh=>gh.1≤l[k].cells.length∧(∀ b o,HY b=some o→gh.2.2 b=some o)∧iN (bE us st li rv) note t l s=gF (qG (bE us st li rv) note t (l[k].cells.drop gh.1) gh.2.1) (fun s=>iN (bE us st li rv) note t (l.drop (k+1)) s)∧0≤gh.2.1.n∧gh.2.1.n+(iR (l[k].cells.drop gh.1):Nat)+(gX (l.drop (k+1)):Nat)≤1099511627776) (fun gh=>l[k].cells.length - gh.1) ((0,s1,HY)) (by exact (H).sub ⟨rfl,rfl,rfl,rfl,rfl,rfl,rfl,rfl,aL⟩) ?_ ?_
  ·exact ⟨iH _,fun _ _ h=>h,hR,hn0,by dsimp only;rw [List.drop_zero];omega⟩
  clear H;rintro ⟨c,s2,g2⟩ a w hI H;dsimp only at hI H;obtain ⟨hc,OY,hR2,hm0,hm1⟩:=hI;have jg:=fun b o h=>OY b o (aaG b o h);dsimp only [lca,bK] at H;refine kP H (SR fun _ pz=>Rc rfl (Kz pz (SQ fun _ pU=>Cd rfl ?_ ?_))) <;> clear H pz
  ·intro h50 a H
   try have p50:=dT h50
   have hk4:c < l[k].cells.length:=by omega
   have aoj:=M9 hk4
   have amV:iR (l[k].cells.drop c)=1+bZ l[k].cells[c].dat+iR (l[k].cells.drop (c+1)):=by simp only [iR];rw [qR hk4,fG,eG]
   have hcz:=DJ l[k].cells[c];obtain ⟨b3',o3,sA,sn,sc,tA,tn,tc,uA,un,uc,gA,gn,gc,rfl,hrow,hch,hcf⟩:=Kt hk4 (hcl.mono OY).at_;have UG:=amN.mono OY;rw [qR hk4,qG,NQ] at hR2;obtain ⟨y,hy⟩:∃ y,y=l[k].cells[c]:=⟨_,rfl⟩;rw [← hy] at hR2 hrow hch hcf hcz aoj amV;refine kP H (Kc pU (SQ fun _ pV=>SB (SR fun _ xE=>Ri vB jL rfl rfl ?_)));clear H pU;intro a H;refine aR jL (cs:=[_,_,_,_,_,_,_]) H wn rfl rfl (fun j v hj=>H.hp.aH (hrow j v hj)) rfl ?_;clear H;intro a H;refine dJ jL H wn rfl ?_;clear H;intro b11 a w IZ H;refine aY jL 0 (vs:=[_,_,_,_,_,_,_]) _ H wn rfl rfl rfl rfl rfl rfl rfl rfl ?_;clear H;intro w H;dsimp only [List.set,setRow] at H;refine xE _ _ ?_;clear xE;refine kP H (SQ fun _ AL=>SR fun _ yJ=>Rm rfl (dU Tn aT 0 rfl rfl ?_));clear H;intro a H;refine gK SG (Li:=[_,_,_]) (L:=gy b ms ml mr mb mu s2.n :: (mb,eZ (fI s2.bN)) :: L) H wn rfl (RZ _ _ _ st li rv b ms ml mr mb mu _ s2.bN y.id UG (Hp.owns (Li:=[_,_,_]) H.hp)) rfl ?_;clear H;rintro v56 _ _ a w ⟨rfl,rfl,rfl⟩ - H;dsimp only [lca,bK] at H;refine kH H (aF yJ rfl (SR fun _ AO=>Rm rfl (Rc rfl (Kz AO (Cd rfl ?_ ?_))))) <;> clear H yJ AO
   ·intro kX a H
    try have p58:=dT kX
    have hF1:(mM l.length (fun s=>iN (bE us st li rv) note t l s) s).1=qN us s2.bN y.id:=by rw [hE,hR2];simp [gF,kQ,p58]
    have hF2:(mM l.length (fun s=>iN (bE us st li rv) note t l s) s).1=0→(⟨s2.n,kN us s2.bN y.id⟩:CS)=(mM l.length (fun s=>iN (bE us st li rv) note t l s) s).2:=fun h=>absurd (hF1.symm.trans h) p58;exact kP H (SR fun _ AQ=>Rm rfl (aF AQ rfl (LR results199 rfl fun H=>H.hp.kZ (L':=gy b ms ml mr mb mu s2.n :: (mb,eZ (fI (kN us s2.bN y.id))) :: L) (by repeat (first|exact kF _|apply List.Sublist.cons)) ⟨⟨s2.n,kN us s2.bN y.id⟩,aB vi hF1.symm,rfl,hF2⟩)))
   intro kX a H
   try have p58:=dF kX
   have e58:qN us s2.bN y.id=0:=nT.1 p58;refine kP H (Kc AL (SQ fun _ AU=>SR fun _ DU=>Rm rfl (Rf Ou rfl ?_)));clear H AL;intro a H;refine aR dB (cs:=[_,_,_,_,_]) H wn rfl rfl (H.hp.bT 0 rfl rfl) rfl ?_;clear H;intro a H;refine gK Iy (Li:=[_,_,_]) (L:=gy b ms ml mr mb mu s2.n :: (mb,eZ (fI (kN us s2.bN y.id))) :: L) H wn rfl (I5 _ _ _ st li rv b ms ml mr mb mu _ UG (Hp.owns (Li:=[_,_,_]) H.hp) 10 y.head _ _ _ hch (by omega)) rfl ?_;clear H;rintro v63 _ _ a w ⟨rfl,rfl,rfl⟩ - H;dsimp only [lca,bK] at H;refine kH H (aF DU rfl (SR fun _ Fj=>Rm rfl (Rc rfl (Kz Fj (Cd rfl ?_ ?_))))) <;> clear H DU Fj
   ·intro FM a H
    try have p65:=dT FM
    have hF1:(mM l.length (fun s=>iN (bE us st li rv) note t l s) s).1=gN (bE us st li rv) 10 y.head:=by rw [hE,hR2];simp [gF,kQ,e58,p65]
    have hF2:(mM l.length (fun s=>iN (bE us st li rv) note t l s) s).1=0→(⟨s2.n,kN us s2.bN y.id⟩:CS)=(mM l.length (fun s=>iN (bE us st li rv) note t l s) s).2:=fun h=>absurd (hF1.symm.trans h) p65;exact kP H (SR fun _ J8=>Rm rfl (aF J8 rfl (LR results199 rfl fun H=>H.hp.kZ (L':=gy b ms ml mr mb mu s2.n :: (mb,eZ (fI (kN us s2.bN y.id))) :: L) (by repeat (first|exact kF _|apply List.Sublist.cons)) ⟨⟨s2.n,kN us s2.bN y.id⟩,aB vi hF1.symm,rfl,hF2⟩)))
   intro FM a H
   try have p65:=dF FM
   have e65:gN (bE us st li rv) 10 y.head=0:=nT.1 p65;refine kP H (Kc AU (SR fun _ J9=>Rm rfl (dU Ov lS 0 rfl rfl ?_)));clear H AU;intro a H;refine aR aer (cs:=[_,_,_]) H wn rfl rfl (H.hp.bT 2 rfl rfl) rfl ?_;clear H;intro a H;refine gK KJ (Li:=[_,_,_]) (L:=gy b ms ml mr mb mu s2.n :: (mb,eZ (fI (kN us s2.bN y.id))) :: L) H wn rfl (ih _ _ _ st li rv b ms ml mr mb mu ⟨s2.n,kN us s2.bN y.id⟩ y.flow _ false note t UG (Hp.owns (Li:=[_,_,_]) H.hp) hcf (by omega) ht0 Ah hm0 (by dsimp only;omega)) rfl ?_;clear H;rintro v71 _ _ a w ⟨rfl,s3,rfl,rfl,h3⟩ - H;dsimp only [lca,bK] at H;refine kH H (aF J9 rfl (SR fun _ Ka=>Rm rfl (Rc rfl (Kz Ka (Cd rfl ?_ ?_))))) <;> clear H J9 Ka
   ·intro TQ a H
    try have p73:=dT TQ
    have hF1:(mM l.length (fun s=>iN (bE us st li rv) note t l s) s).1=(jE (bE us st li rv) false note t y.flow ⟨s2.n,kN us s2.bN y.id⟩).1:=by rw [hE,hR2];simp [gF,kQ,e58,e65,p73]
    have hF2:(mM l.length (fun s=>iN (bE us st li rv) note t l s) s).1=0→s3=(mM l.length (fun s=>iN (bE us st li rv) note t l s) s).2:=fun h=>absurd (hF1.symm.trans h) p73;exact kP H (SR fun _ Nq=>Rm rfl (aF Nq rfl (LR results199 rfl fun H=>H.hp.kZ (L':=gy b ms ml mr mb mu s3.n :: (mb,eZ (fI s3.bN)) :: L) (by repeat (first|exact kF _|apply List.Sublist.cons)) ⟨s3,aB vi hF1.symm,rfl,hF2⟩)))
   intro TQ a H
   try have p73:=dF TQ
   have Sm:(jE (bE us st li rv) false note t y.flow ⟨s2.n,kN us s2.bN y.id⟩).1=0:=nT.1 p73;obtain ⟨hu1,hu2⟩:=QK (bE us st li rv) false note t y.flow ⟨s2.n,kN us s2.bN y.id⟩;rw [← h3 Sm] at hu1 hu2;dsimp only at hu1 hu2
   have hS:gF (gF (gF (kQ (bE us st li rv) s2 y.id) fun s=>gF (gN (bE us st li rv) 10 y.head,s) fun s=>jE (bE us st li rv) false note t y.flow s) fun s=>qG (bE us st li rv) note t (l[k].cells.drop (c+1)) s) (fun s=>iN (bE us st li rv) note t (l.drop (k+1)) s)=gF (qG (bE us st li rv) note t (l[k].cells.drop (c+1)) s3) (fun s=>iN (bE us st li rv) note t (l.drop (k+1)) s):=by
    rw [h3 Sm];simp [gF,kQ,e58,e65,Sm]
   refine kP H (Kc pV (SC (Rd rfl (Rm rfl ?_))));clear H pV;intro a H;refine aC ?_;refine dx ((c+1,s3,g2)) (by exact (H.dX (Pl:=[_,_,_,_,_]) (dN:=[_,_,_,_]) [1,2,3,4] (by decide) rfl).sub ⟨rfl,rfl,rfl,rfl,rfl,rfl,rfl,rfl,aL⟩) ?_
   (try dsimp only);exact ⟨by omega,OY,hR2.trans hS,by omega,by omega⟩
  intro h50 a H
  try have p50:=dF h50
  refine jI ?_;refine iF _ _ ?_;clear iF;refine kP H (SC (Rd rfl (Rm rfl ?_)));clear H;intro a H;refine aC ?_;refine dx ((k+1,s2,g2)) (by exact (H.dX (Pl:=[_,_,_,_]) (dN:=[_,_,_]) [1,2,3] (by decide) rfl).sub ⟨rfl,rfl,rfl,rfl,rfl,aL⟩) ?_
  (try dsimp only);exact ⟨by omega,jg,by rw [hR2,lG (by omega),qG,Ih rfl],hm0,by omega⟩
 intro fq a H
 try have jT:=dF fq
 refine jI ?_;refine K8 _ _ ?_;clear K8;refine eY (fun _ Rj=>?_)
 have hF1:(mM l.length (fun s=>iN (bE us st li rv) note t l s) s).1=0:=by rw [hE,hR,lG (by omega),iN]
 have hF2:(mM l.length (fun s=>iN (bE us st li rv) note t l s) s).1=0→s1=(mM l.length (fun s=>iN (bE us st li rv) note t l s) s).2:=fun h=>by rw [hE,hR,lG (by omega),iN]
 exact kP H (SC (gY Rj rfl (LR results199 rfl fun H=>H.hp.kZ (L':=gy b ms ml mr mb mu s1.n :: (mb,eZ (fI s1.bN)) :: L) (by repeat (first|exact kF _|apply List.Sublist.cons)) ⟨s1,aB vi hF1.symm,rfl,hF2⟩)))
end
section
theorem aiV:∀ args w,(callFunc 199 args).run prog w=.ok (.enter 199 args) w:=enters func199 rfl (by kernel_rfl)
theorem aiT:∀ args w,(callFunc 196 args).run prog w=.ok (.enter 196 args) w:=enters func196 rfl (by kernel_rfl)
instance FC:dR prog 133 5 5:=⟨by kernel_rfl⟩
instance akU:dR prog 129 0 0:=⟨by kernel_rfl⟩
variable {us:List Int}
theorem aqb {G:GH} {b:Nat} {x:Int} (h:G b=some (.cells #[vi x] 49 (0,0))):au G (.sl 1 ([x].map fun k=>[li k])) (.slice (some ⟨b,0,none⟩) 1 1):=Gy [x] h (show 1≤maxLen by decide)
theorem aoR {m:Nat} (ih:HZ us m) (hm:m≤4294967296) (Gt:GH) (L:OL) (w0:World) (st:List bU) (li:List eD) (rv:List bL) (b ms ml mr mb mu:Nat) (s:CS) (x:ay) (p d y f r:aj) (body note:Bool) (t:Int)
  (hck:wI us Gt st li rv ms ml mr mu) (hO:gG Gt (gy b ms ml mr mb mu s.n :: (mb,eZ (fI s.bN)) :: L) w0) (hh:iA Gt x.head p d y) (hf:au Gt (.sl 11 (x.flow.map ay.dat)) f) (hr:au Gt (.sl 6 (x.rows.map aU.dat)) r) (hz:bZ x.dat≤m) (ht0:0≤t) (Ah:t≤4) (hs0:0≤s.n) (hs1:s.n+(bZ x.dat:Nat)≤1099511627776) :
  Calls prog 134 #[(aM b 0),.agg #[vi x.kind,vi x.code,vi x.id,.string x.text,p,vi x.head.marks.ins,vi x.head.marks.move,d,y,f,r],.agg #[.bool body,.bool note,vi t]] w0 (fP w0 Gt (gy b ms ml mr mb mu s.n :: (mb,eZ (fI s.bN)) :: L) fun u G' L'=>Ng b ms ml mr mb mu L (fD (bE us st li rv) body note t x s) u L'):=by
 obtain ⟨pA,pn,pc,rfl⟩:=hh.props.form;obtain ⟨dA,dn,dc,rfl⟩:=hh.bH.form;obtain ⟨lA,ln,lc,rfl⟩:=hh.layers.form;obtain ⟨fA,fc,rfl,-⟩:=hf.slice;obtain ⟨rA,rc,rfl,-⟩:=hr.slice;(iterate 2 rw [bO] at *);have hxz:=zy x;have hcl:=Yx x.text
 have hus:jC x≤x.text.size+1:=by unfold jC;split <;> omega
 have hE:=abU (bE us st li rv) body note t x s;refine jr (N:=117) (T:=[(0,_),(1,_),(2,_)]) func134 rfl ntmps134 rfl rfl hO ?_;intro a H;refine fK (fun _ K1=>?_);refine dW (cs:=[_,_,_,_,_,_,_,_,_,_,_]) H wn rfl rfl rfl ?_;clear H;intro b4 a w hb4 H;refine dW (cs:=[_,_,_]) H wn rfl rfl rfl ?_;clear H;intro b5 a w hb5 H;refine kH H (aF K1 rfl (SQ fun _ K2=>SR fun _ K3=>?_));clear H K1;intro a H;refine aR gB (cs:=[_,_,_,_,_,_,_,_,_,_,_]) H wn rfl rfl (H.hp.bT 1 rfl rfl) rfl ?_;clear H;intro a H;refine s_call aiT H wn rfl (alq _ _ H.ro x _ _ _ _ _ _ _ (by omega)) rfl ?_;clear H;rintro v15 _ a w ⟨rfl,rfl⟩ - H;refine kH H (aF K3 rfl (SR fun _ K4=>Rm rfl (Rc rfl (Kz K4 (Cd rfl ?_ ?_))))) <;> clear H K3 K4
 ·intro eT a H
  try have jZ:=dT eT
  rw [NH (r:=(kI x,s)) jZ] at hE;exact kP H (SR fun _ K5=>Rm rfl (aF K5 rfl (LR results134 rfl fun H=>H.hp.kZ (L':=gy b ms ml mr mb mu s.n :: (mb,eZ (fI s.bN)) :: L) (by repeat (first|exact kF _|apply List.Sublist.cons)) ⟨s,by rw [hE],rfl,fun h=>by rw [hE]⟩)))
 intro eT a H
 try have jZ:=dF eT
 rw [Ih (r:=(kI x,s)) (nT.1 jZ)] at hE;dsimp only at hE;refine kP H (Kc K2 (SR fun _ K6=>Rm rfl (Rk rfl (dU FC aT 2 rfl rfl (Rd rfl (Rk rfl (Rf FC rfl ?_)))))));clear H K2;intro a H;refine aY aT 2 (vs:=[_]) _ H wn rfl rfl rfl rfl rfl rfl rfl rfl ?_;clear H;intro w H;dsimp only [List.set,setRow] at H;refine K6 _ _ ?_;clear K6;refine rR (ι:=CS × GH) (Tc:=[(0,_),(4,_),(5,_)]) (Lc:=[(_,_),(_,_)]) (fun gh=>[]) (fun gh=>[gy b ms ml mr mb mu gh.1.n,(mb,eZ (fI gh.1.bN))]++L) (fun gh=>gh.2) (fun gh=>nE (bE us st li rv) body note t x.kind x.id ⟨s.n+(jC x:Nat),s.bN⟩=(0,gh.1)∧(∀ b o,Gt b=some o→gh.2 b=some o)∧gh.1.n=s.n+(jC x:Nat)∧(x.kind=7→t < 4)) (by exact (H).sub ⟨rfl,rfl,rfl,aL⟩) ?_ ?_
 ·skip;refine kP H (SR fun _ K7=>dU vP aT 1 rfl rfl (Kz K7 (SB (SR fun _ K8=>Rc rfl (aF K8 rfl (Cd rfl ?_ ?_)))))) <;> clear H K7 K8
  ·intro nV a H
   try have p28:=dT nV
   have hu:((jC x:Nat):Int)=tT x.text:=by rw [jC,ak p28]
   refine kP H (SR fun _ K9=>dU Ei kR 1 rfl rfl ?_);clear H;intro a H;refine s_call aiU H wn rfl (ahp _ _ H.ro x.text (by omega)) rfl ?_;clear H;rintro v33 _ a w ⟨rfl,rfl⟩ - H;refine kH H (Rm rfl ?_);clear H;intro a H;(iterate 2 refine lQ H wn rfl rfl rfl ?_;clear H;intro a H);refine kH H (Ra rfl (aF K9 rfl (SC (Rm rfl (Rk rfl (dU FC aT 2 rfl rfl (Rm rfl (Rs rfl (Rd rfl ?_)))))))));clear H K9;intro a H;rw [show s.n+1+((tT x.text:Int) - 1)=s.n+(jC x:Nat) by omega] at H;refine kH H (Rk rfl (Rf FC rfl ?_));clear H;intro a H;refine aY aT 2 (vs:=[_]) _ H wn rfl rfl rfl rfl rfl rfl rfl rfl ?_;clear H;intro w H;dsimp only [List.set,setRow] at H;refine aC ?_;refine ⟨(⟨s.n+(jC x:Nat),s.bN⟩,Gt),by exact (H).sub ⟨rfl,rfl,rfl,aL⟩,?_⟩;(try dsimp only)
   first
   | exact ⟨by simp_all [nE,dh,gF,kQ],fun _ _ h=>h,rfl,fun h7=>by first|omega|(exfalso;simp_all)⟩
   | exact ⟨by simp_all [nE,dh,gF,kQ],vY,rfl,fun h7=>by first|omega|(exfalso;simp_all)⟩
  intro nV a H
  try have p28:=dF nV
  have hu:((jC x:Nat):Int)=1:=by rw [jC,ah p28];rfl
  rw [show s.n+1=s.n+((jC x:Nat):Int) by omega] at H;refine kP H (SR fun _ eU=>Rc rfl (aF eU rfl (Cd rfl ?_ ?_))) <;> clear H eU
  ·intro h45 a H
   try have p45:=dT h45
   refine kP H (SR fun _ fQ=>dU akU Cg 0 rfl rfl (Rn rfl (Kz fQ (Cd rfl ?_ ?_)))) <;> clear H fQ
   ·intro OG a H
    try have p49:=dT OG
    refine eY (fun _ iF=>?_)
    have hF1:(fD (bE us st li rv) body note t x s).1=19:=by rw [hE];simp [gF,nE,p45,dh,OG]
    have hF2:(fD (bE us st li rv) body note t x s).1=0→(⟨s.n+(jC x:Nat),s.bN⟩:CS)=(fD (bE us st li rv) body note t x s).2:=fun h=>absurd (hF1.symm.trans h) (by decide);exact kP H (SC (gY iF rfl (LR results134 rfl fun H=>H.hp.kZ (L':=gy b ms ml mr mb mu (s.n+(jC x:Nat)) :: (mb,eZ (fI (s.bN))) :: L) (by repeat (first|exact kF _|apply List.Sublist.cons)) ⟨⟨s.n+(jC x:Nat),s.bN⟩,aB vi hF1.symm,rfl,hF2⟩)))
   intro OG a H
   try have p49:=dF OG
   refine iw ?_;refine ⟨(⟨s.n+(jC x:Nat),s.bN⟩,Gt),by exact (H).sub ⟨rfl,rfl,rfl,aL⟩,?_⟩;(try dsimp only)
   first
   | exact ⟨by simp_all [nE,dh,gF,kQ],fun _ _ h=>h,rfl,fun h7=>by first|omega|(exfalso;simp_all)⟩
   | exact ⟨by simp_all [nE,dh,gF,kQ],vY,rfl,fun h7=>by first|omega|(exfalso;simp_all)⟩
  intro h45 a H
  try have p45:=dF h45
  refine kP H (SR fun _ jd=>Rc rfl (aF jd rfl (Cd rfl ?_ ?_))) <;> clear H jd
  ·intro h50 a H
   try have p50:=dT h50
   refine kP H (SQ fun _ iW=>SR fun _ mq=>dU ZP Cg 0 rfl rfl ?_);clear H;intro a H;refine s_call jQ H wn rfl (jU _ _ H.ro _ 19) rfl ?_;clear H;rintro v54 _ a w ⟨rfl,rfl⟩ - H;refine gQ qz iD [_] [_] H wn rfl rfl rfl rfl rfl (by intro i q h;match i,h with|0,h=>exact h|n+1,h=>simp at h) rfl rfl ?_;clear H;intro b55 a w auX H;obtain ⟨J7,vY,amy,H⟩:=H.eB;refine s_call rT H wn rfl (rU _ _ H.ro _ _ (aqb amy)) rfl ?_;clear H;rintro v56 _ a w ⟨rfl,rfl⟩ - H;refine kH H (aF mq rfl (SR fun _ oJ=>Rm rfl (Rc rfl (Kz oJ (Cd rfl ?_ ?_))))) <;> clear H mq oJ
   ·intro kX a H
    try have p58:=dT kX
    have e58:dh note 19≠0:=fun h=>p58 (by rw [h];rfl)
    have aoA:dY [dh note 19]=dh note 19:=by simp [dY,e58]
    rw [aoA] at H
    have hF1:(fD (bE us st li rv) body note t x s).1=dh note 19:=by rw [hE];simp [gF,nE,p50,e58]
    have hF2:(fD (bE us st li rv) body note t x s).1=0→(⟨s.n+(jC x:Nat),s.bN⟩:CS)=(fD (bE us st li rv) body note t x s).2:=fun h=>absurd (hF1.symm.trans h) (e58);exact kP H (SR fun _ qD=>Rm rfl (aF qD rfl (LR results134 rfl fun H=>H.hp.kZ (L':=gy b ms ml mr mb mu (s.n+(jC x:Nat)) :: (mb,eZ (fI (s.bN))) :: L) (by repeat (first|exact kF _|apply List.Sublist.cons)) ⟨⟨s.n+(jC x:Nat),s.bN⟩,aB vi hF1.symm,rfl,hF2⟩)))
   intro kX a H
   try have p58:=dF kX
   have e58:dh note 19=0:=Decidable.byContradiction fun h=>p58 (by simp [dY,h]);refine kP H (Kc iW (SR fun _ pR=>Rm rfl (dU Tm aT 1 rfl rfl ?_)));clear H iW;intro a H;refine gK SG (Li:=[_,_]) (L:=gy b ms ml mr mb mu _ :: (mb,eZ (fI s.bN)) :: L) H wn rfl (RZ _ _ _ st li rv b ms ml mr mb mu _ s.bN x.id (hck.mono vY) (Hp.owns (Li:=[_,_]) H.hp)) rfl ?_;clear H;rintro v63 _ _ a w ⟨rfl,rfl,rfl⟩ - H;dsimp only [lca,bK] at H;refine kH H (aF pR rfl (SR fun _ pz=>Rm rfl (Rc rfl (Kz pz (Cd rfl ?_ ?_))))) <;> clear H pR pz
   ·intro FM a H
    try have p65:=dT FM
    have hF1:(fD (bE us st li rv) body note t x s).1=qN us s.bN x.id:=by rw [hE];simp [gF,nE,p50,e58,kQ,p65]
    have hF2:(fD (bE us st li rv) body note t x s).1=0→(⟨s.n+(jC x:Nat),kN us s.bN x.id⟩:CS)=(fD (bE us st li rv) body note t x s).2:=fun h=>absurd (hF1.symm.trans h) (p65);exact kP H (SR fun _ pU=>Rm rfl (aF pU rfl (LR results134 rfl fun H=>H.hp.kZ (L':=gy b ms ml mr mb mu (s.n+(jC x:Nat)) :: (mb,eZ (fI (kN us s.bN x.id))) :: L) (by repeat (first|exact kF _|apply List.Sublist.cons)) ⟨⟨s.n+(jC x:Nat),kN us s.bN x.id⟩,aB vi hF1.symm,rfl,hF2⟩)))
   intro FM a H
   try have p65:=dF FM
   have e65:qN us s.bN x.id=0:=nT.1 p65;refine iw ?_;refine ⟨(⟨s.n+(jC x:Nat),kN us s.bN x.id⟩,J7),by exact (H).sub ⟨rfl,rfl,rfl,aL⟩,?_⟩;(try dsimp only)
   first
   | exact ⟨by simp_all [nE,dh,gF,kQ],fun _ _ h=>h,rfl,fun h7=>by first|omega|(exfalso;simp_all)⟩
   | exact ⟨by simp_all [nE,dh,gF,kQ],vY,rfl,fun h7=>by first|omega|(exfalso;simp_all)⟩
  intro h50 a H
  try have p50:=dF h50
  refine kP H (SR fun _ pV=>Rc rfl (aF pV rfl (Cd rfl ?_ ?_))) <;> clear H pV
  ·intro TN a H
   try have p67:=dT TN
   refine kP H (SQ fun _ xE=>SR fun _ AL=>dU Te aT 0 rfl rfl (Rc rfl (Kz AL (Cd rfl ?_ ?_)))) <;> clear H AL
   ·intro TP a H
    try have p71:=dT TP
    refine eY (fun _ yJ=>?_)
    have hF1:(fD (bE us st li rv) body note t x s).1=17:=by rw [hE];simp [gF,nE,p67,dh,p71]
    have hF2:(fD (bE us st li rv) body note t x s).1=0→(⟨s.n+(jC x:Nat),s.bN⟩:CS)=(fD (bE us st li rv) body note t x s).2:=fun h=>absurd (hF1.symm.trans h) (by decide);exact kP H (SC (gY yJ rfl (LR results134 rfl fun H=>H.hp.kZ (L':=gy b ms ml mr mb mu (s.n+(jC x:Nat)) :: (mb,eZ (fI (s.bN))) :: L) (by repeat (first|exact kF _|apply List.Sublist.cons)) ⟨⟨s.n+(jC x:Nat),s.bN⟩,aB vi hF1.symm,rfl,hF2⟩)))
   intro TP a H
   try have p71:=dF TP
   have e71:¬ 4≤t:=by omega
   refine kP H (Kc xE (SR fun _ AO=>Rm rfl (dU Tm aT 1 rfl rfl ?_)));clear H xE;intro a H;refine gK SG (Li:=[_,_]) (L:=gy b ms ml mr mb mu _ :: (mb,eZ (fI s.bN)) :: L) H wn rfl (RZ _ _ _ st li rv b ms ml mr mb mu _ s.bN x.id hck (Hp.owns (Li:=[_,_]) H.hp)) rfl ?_;clear H;rintro v75 _ _ a w ⟨rfl,rfl,rfl⟩ - H;dsimp only [lca,bK] at H;refine kH H (aF AO rfl (SR fun _ AQ=>Rm rfl (Rc rfl (Kz AQ (Cd rfl ?_ ?_))))) <;> clear H AO AQ
   ·intro TR a H
    try have JA:=dT TR
    have hF1:(fD (bE us st li rv) body note t x s).1=qN us s.bN x.id:=by rw [hE];simp [gF,nE,p67,dh,e71,kQ,JA]
    have hF2:(fD (bE us st li rv) body note t x s).1=0→(⟨s.n+(jC x:Nat),kN us s.bN x.id⟩:CS)=(fD (bE us st li rv) body note t x s).2:=fun h=>absurd (hF1.symm.trans h) (JA);exact kP H (SR fun _ AU=>Rm rfl (aF AU rfl (LR results134 rfl fun H=>H.hp.kZ (L':=gy b ms ml mr mb mu (s.n+(jC x:Nat)) :: (mb,eZ (fI (kN us s.bN x.id))) :: L) (by repeat (first|exact kF _|apply List.Sublist.cons)) ⟨⟨s.n+(jC x:Nat),kN us s.bN x.id⟩,aB vi hF1.symm,rfl,hF2⟩)))
   intro TR a H
   try have JA:=dF TR
   have e77:qN us s.bN x.id=0:=nT.1 JA;refine iw ?_;refine ⟨(⟨s.n+(jC x:Nat),kN us s.bN x.id⟩,Gt),by exact (H).sub ⟨rfl,rfl,rfl,aL⟩,?_⟩;(try dsimp only)
   first
   | exact ⟨by simp_all [nE,dh,gF,kQ],fun _ _ h=>h,rfl,fun h7=>by first|omega|(exfalso;simp_all)⟩
   | exact ⟨by simp_all [nE,dh,gF,kQ],vY,rfl,fun h7=>by first|omega|(exfalso;simp_all)⟩
  intro TN a H
  try have p67:=dF TN
  refine kP H (SR fun _ DU=>Rc rfl (aF DU rfl (Cd rfl ?_ ?_))) <;> clear H DU
  ·intro En a H
   try have V9:=dT En
   refine kP H (SR fun _ Fj=>dU Tm aT 1 rfl rfl ?_);clear H;intro a H;refine s_call xK H wn rfl (xW _ _ H.ro x.id 1 1073741824) rfl ?_;clear H;rintro v83 _ a w ⟨rfl,rfl⟩ - H;refine kH H (Rn rfl (Kz Fj (Cd rfl ?_ ?_))) <;> clear H Fj
   ·intro h84 a H
    try have p84:=dT h84
    refine eY (fun _ J8=>?_)
    have e84:¬ (1≤x.id∧x.id≤1073741824):=by have h0:=h84;simp at h0;omega
    have hF1:(fD (bE us st li rv) body note t x s).1=18:=by rw [hE];simp [gF,nE,V9,dh,e84]
    have hF2:(fD (bE us st li rv) body note t x s).1=0→(⟨s.n+(jC x:Nat),s.bN⟩:CS)=(fD (bE us st li rv) body note t x s).2:=fun h=>absurd (hF1.symm.trans h) (by decide);exact kP H (SC (gY J8 rfl (LR results134 rfl fun H=>H.hp.kZ (L':=gy b ms ml mr mb mu (s.n+(jC x:Nat)) :: (mb,eZ (fI (s.bN))) :: L) (by repeat (first|exact kF _|apply List.Sublist.cons)) ⟨⟨s.n+(jC x:Nat),s.bN⟩,aB vi hF1.symm,rfl,hF2⟩)))
   intro h84 a H
   try have p84:=dF h84
   refine iw ?_;refine ⟨(⟨s.n+(jC x:Nat),s.bN⟩,Gt),by exact (H).sub ⟨rfl,rfl,rfl,aL⟩,?_⟩;(try dsimp only)
   first
   | exact ⟨by simp_all [nE,dh,gF,kQ],fun _ _ h=>h,rfl,fun h7=>by first|omega|(exfalso;simp_all)⟩
   | exact ⟨by simp_all [nE,dh,gF,kQ],vY,rfl,fun h7=>by first|omega|(exfalso;simp_all)⟩
  intro En a H
  try have V9:=dF En
  refine iw ?_;refine ⟨(⟨s.n+(jC x:Nat),s.bN⟩,Gt),by exact (H).sub ⟨rfl,rfl,rfl,aL⟩,?_⟩;(try dsimp only)
  first
  | exact ⟨by simp_all [nE,dh,gF,kQ],fun _ _ h=>h,rfl,fun h7=>by first|omega|(exfalso;simp_all)⟩
  | exact ⟨by simp_all [nE,dh,gF,kQ],vY,rfl,fun h7=>by first|omega|(exfalso;simp_all)⟩
 clear H;rintro ⟨s1,g⟩ a w hI H;dsimp only at hI H;obtain ⟨hP,xU,avv,ht7⟩:=hI;rw [hP,Ih rfl] at hE;dsimp only at hE;replace hck:=hck.mono xU;replace hh:=hh.mono xU;replace hf:=hf.mono xU;replace hr:=hr.mono xU;dsimp only [lca,bK] at H;refine kP H (SQ fun _ J9=>SR fun _ Ka=>Rm rfl (dU vP aT 1 rfl rfl (Rf Bt rfl ?_)));clear H;intro a H;refine aR dB (cs:=[_,_,_,_,_]) H wn rfl rfl (H.hp.bT 1 rfl rfl) rfl ?_;clear H;intro a H;refine gK Iy (Li:=[_,_]) (L:=gy b ms ml mr mb mu s1.n :: (mb,eZ (fI s1.bN)) :: L) H wn rfl (I5 _ _ _ st li rv b ms ml mr mb mu _ hck (Hp.owns (Li:=[_,_]) H.hp) x.kind x.head _ _ _ hh (by omega)) rfl ?_;clear H;rintro v90 _ _ a w ⟨rfl,rfl,rfl⟩ - H;dsimp only [lca,bK] at H;refine kH H (aF Ka rfl (SR fun _ Nq=>Rm rfl (Rc rfl (Kz Nq (Cd rfl ?_ ?_))))) <;> clear H Ka Nq
 ·intro TS a H
  try have JB:=dT TS
  have hF1:(fD (bE us st li rv) body note t x s).1=gN (bE us st li rv) x.kind x.head:=by rw [hE,NH (r:=(gN (bE us st li rv) x.kind x.head,s1)) JB]
  have hF2:(fD (bE us st li rv) body note t x s).1=0→s1=(fD (bE us st li rv) body note t x s).2:=fun h=>absurd (hF1.symm.trans h) JB;exact kP H (SR fun _ Rj=>Rm rfl (aF Rj rfl (LR results134 rfl fun H=>H.hp.kZ (L':=gy b ms ml mr mb mu (s1.n) :: (mb,eZ (fI (s1.bN))) :: L) (by repeat (first|exact kF _|apply List.Sublist.cons)) ⟨s1,aB vi hF1.symm,rfl,hF2⟩)))
 intro TS a H
 try have JB:=dF TS
 rw [Ih (r:=(gN (bE us st li rv) x.kind x.head,s1)) (nT.1 JB)] at hE;dsimp only at hE;refine kP H (Kc J9 (SQ fun _ K35=>SR fun _ XK=>dU vP aT 1 rfl rfl (Kz XK (SB (SR fun _ XL=>Rc rfl (aF XL rfl (Cd rfl ?_ ?_))))))) <;> clear H J9 XK XL
 ·intro TT a H
  try have Mv:=dT TT
  rw [ak Mv] at hE;refine kP H (SR fun _ K38=>Rm rfl (dU IK lS 1 rfl rfl (dU Te aT 0 rfl rfl ?_)));clear H;intro a H;refine jl MJ [_,_,_] H wn rfl rfl rfl rfl ?_;clear H;intro a H;refine gK KJ (Li:=[_,_]) (L:=gy b ms ml mr mb mu s1.n :: (mb,eZ (fI s1.bN)) :: L) H wn rfl (ih _ _ _ st li rv b ms ml mr mb mu s1 x.flow _ false true t hck (Hp.owns (Li:=[_,_]) H.hp) hf (by omega) ht0 Ah (by omega) (by omega)) rfl ?_;clear H;rintro atS _ _ a w ⟨rfl,s3,rfl,rfl,h3⟩ - H;dsimp only [lca,bK] at H
  have hF1:(fD (bE us st li rv) body note t x s).1=(jE (bE us st li rv) false true t x.flow s1).1:=by rw [hE]
  have hF2:(fD (bE us st li rv) body note t x s).1=0→s3=(fD (bE us st li rv) body note t x s).2:=by rw [hE];exact h3
  exact kH H (aF K38 rfl (LR results134 rfl fun H=>H.hp.kZ (L':=gy b ms ml mr mb mu (s3.n) :: (mb,eZ (fI (s3.bN))) :: L) (by repeat (first|exact kF _|apply List.Sublist.cons)) ⟨s3,aB vi hF1.symm,rfl,hF2⟩))
 intro TT a H
 try have Mv:=dF TT
 rw [ah Mv] at hE;refine kP H (SR fun _ XM=>Rc rfl (aF XM rfl (Cd rfl ?_ ?_))) <;> clear H XM
 ·intro TI a H
  try have Jz:=dT TI
  rw [ak Jz] at hE;refine kP H (SR fun _ K40=>Rm rfl (dU FH DC 1 rfl rfl (dU ZP Cg 0 rfl rfl (dU Te aT 0 rfl rfl (Rd rfl ?_)))));clear H;intro a H;refine jl MJ [_,_,_] H wn rfl rfl rfl rfl ?_;clear H;intro a H;refine gK aiV (Li:=[_,_]) (L:=gy b ms ml mr mb mu s1.n :: (mb,eZ (fI s1.bN)) :: L) H wn rfl (rows_ok ih hm _ _ _ st li rv b ms ml mr mb mu s1 x.rows _ note (t+1) hck (Hp.owns (Li:=[_,_]) H.hp) hr (by omega) (by omega) (by have:=ht7 Jz;omega) (by omega) (by omega)) rfl ?_;clear H;rintro avK _ _ a w ⟨s3,rfl,rfl,h3⟩ - H;dsimp only [lca,bK] at H
  have hF1:(fD (bE us st li rv) body note t x s).1=(mM x.rows.length (fun s=>iN (bE us st li rv) note (t+1) x.rows s) s1).1:=by rw [hE]
  have hF2:(fD (bE us st li rv) body note t x s).1=0→s3=(fD (bE us st li rv) body note t x s).2:=by rw [hE];exact h3
  exact kH H (aF K40 rfl (LR results134 rfl fun H=>H.hp.kZ (L':=gy b ms ml mr mb mu (s3.n) :: (mb,eZ (fI (s3.bN))) :: L) (by repeat (first|exact kF _|apply List.Sublist.cons)) ⟨s3,aB vi hF1.symm,rfl,hF2⟩))
 intro TI a H
 try have Jz:=dF TI
 rw [ah Jz] at hE
 have hF1:(fD (bE us st li rv) body note t x s).1=0:=by rw [hE]
 have hF2:(fD (bE us st li rv) body note t x s).1=0→s1=(fD (bE us st li rv) body note t x s).2:=fun h=>by rw [hE]
 exact kP H (Kc K35 (SR fun _ K41=>aF K41 rfl (LR results134 rfl fun H=>H.hp.kZ (L':=gy b ms ml mr mb mu (s1.n) :: (mb,eZ (fI (s1.bN))) :: L) (by repeat (first|exact kF _|apply List.Sublist.cons)) ⟨s1,aB vi hF1.symm,rfl,hF2⟩)))
end
section
theorem aif:∀ args w,(callFunc 134 args).run prog w=.ok (.enter 134 args) w:=enters func134 rfl (by kernel_rfl)
theorem aie:∀ args w,(callFunc 133 args).run prog w=.ok (.enter 133 args) w:=enters func133 rfl (by kernel_rfl)
variable {us:List Int}
def XJ (fv:aj) (Gi:GH) (n:Nat) (E:Nat→Int) {σ:Type} (B:σ→OL) (S:Nat→σ):Prop:=∀ i,i < n→∀ (G1:GH) (w1:World),(∀ b o,Gi b=some o→G1 b=some o)→gG G1 (B (S i)) w1 →
 rO prog fv [vi i] w1 (fP w1 G1 (B (S i)) fun u G' L'=>∃ s,u=vi (E i)∧L'=B s∧(E i=0→s=S (i+1)))
theorem afJ (G:GH) (w0:World) {σ:Type} (B:σ→OL) (S:Nat→σ) (n:Nat) (E:Nat→Int) (fv:aj) (hO:gG G (B (S 0)) w0) (hn:n≤4611686018427387904) (hf:XJ fv G n E B S) :
  Calls prog 123 #[vi n,fv] w0 (fP w0 G (B (S 0)) fun u G' L'=>∃ s,u=vi (kr E n)∧L'=B s∧(kr E n=0→s=S n)):=by
 refine jr (N:=18) (T:=[(0,_),(1,_)]) func123 rfl ntmps123 rfl rfl hO ?_;intro a H;refine kP H (SR fun _ K1=>aF K1 rfl (SQ fun _ K2=>SR fun _ K3=>Rm rfl (Rm rfl (Kz K3 (SB ?_)))));clear H K1 K3;intro a H;skip;refine eH (ι:=Nat × GH) (Tc:=[(1,_),(7,_)]) (Lc:=[]) (fun gh=>[(8,vi gh.1)]) (fun gh=>[]++B (S gh.1)) (fun gh=>gh.2) (fun gh=>gh.1≤n∧dY (((List.range n).map E).drop gh.1)=kr E n∧(∀ b o,G b=some o→gh.2 b=some o)) (fun gh=>n - gh.1) ((0,G)) (by exact (H).sub ⟨rfl,rfl,rfl,aL⟩) ?_ ?_
 ·exact ⟨iH _,rfl,fun _ _ h=>h⟩
 clear H;rintro ⟨k,g⟩ a w hI H;dsimp only at hI H;obtain ⟨hk,he,hgm⟩:=hI;dsimp only [lca,bK] at H;refine kP H (SR fun _ K4=>Rc rfl (Kz K4 (SQ fun _ K5=>Cd rfl ?_ ?_))) <;> clear H K4
 ·intro h9 a H
  try have p9:=dT h9
  have hk2:k < n:=by omega
  refine kP H (Kc K5 (SQ fun _ K6=>SB (SR fun _ K7=>Rm rfl (aF K7 rfl (SR fun _ K8=>Rm rfl (Rm rfl ?_))))));clear H K5 K7;intro a H;refine Dq (Li:=[]) (L:=B (S k)) H wn rfl rfl (hf k hk2 _ _ hgm (Hp.owns (Li:=[]) H.hp)) rfl ?_;clear H;rintro v13 DR L13 a w ⟨s3,rfl,rfl,h3⟩ yT H;refine kH H (aF K8 rfl (SR fun _ K9=>Rm rfl (Rc rfl (Kz K9 (Cd rfl ?_ ?_))))) <;> clear H K8 K9
  ·intro lX a H
   try have sD:=dT lX
   have hE:kr E n=E k:=by rw [Fw hk2,ak sD] at he;exact he.symm
   exact kP H (SR fun _ eU=>Rm rfl (aF eU rfl (LR results123 rfl fun H=>H.hp.dM ⟨s3,by rw [hE],rfl,fun h=>absurd (hE.symm.trans h) sD⟩)))
  intro lX a H
  try have sD:=dF lX
  have hS:=h3 (nT.1 sD);subst hS;refine kP H (Kc K6 (SC (Rd rfl (Rm rfl ?_))));clear H K6;intro a H;refine aC ?_;refine dx ((k+1,DR)) (by exact (H).sub ⟨rfl,rfl,rfl,aL⟩) ?_
  (try dsimp only);exact ⟨by omega,by rw [Fw hk2,ah sD] at he;exact he,fun b o h=>yT b o (hgm b o h)⟩
 intro h9 a H
 try have p9:=dF h9
 refine jI ?_;refine K2 _ _ ?_;clear K2;exact kP H (SR fun _ fQ=>aF fQ rfl (LR results123 rfl fun H=>H.hp.dM ⟨S n,aB vi (by rw [lG (by simp;omega)] at he;exact he),by rw [show k=n by omega],fun _=>rfl⟩))
abbrev NT (b ms ml mr mb mu:Nat) (L:OL) (s:CS):OL:=gy b ms ml mr mb mu s.n :: (mb,eZ (fI s.bN)) :: L
theorem aoQ {m:Nat} (ih:HZ us m) (hm:m≤4294967296) {G:GH} {L:OL} {st:List bU} {li:List eD} {rv:List bL} {b ms ml mr mb mu:Nat} {s:CS} {l:List ay} {v:aj} {body note:Bool} {t:Int} {x3 x4 x5:Nat}
  (hck:wI us G st li rv ms ml mr mu) (h3:aH G x3 0=some (aM b 0)) (h4:aH G x4 0=some v) (h5:∀ (j:Nat) (u:aj),[.bool body,.bool note,vi t][j]?=some u→aH G x5 (0+j)=some u)
  (hv:au G (.sl 11 (l.map ay.dat)) v) (hz:cu l≤m) (ht0:0≤t) (Ah:t≤4) (hs0:0≤s.n) (hs1:s.n+(cu l:Nat)≤1099511627776) :
  XJ (.func (.func 133) #[] #[(aM x3 0),(aM x4 0),(aM x5 0)]) G l.length (Cy (fD (bE us st li rv) body note t) l s) (NT b ms ml mr mb mu L) (rJ (fD (bE us st li rv) body note t) l s):=by
 intro k hk G1 w0 LH hO;refine jo (caps:=[(aM x3 0),(aM x4 0),(aM x5 0)]) aie ?_;replace h3:=aG LH h3;replace h4:=aG LH h4;replace h5:=fun j u hj=>aG LH (h5 j u hj);replace hck:=hck.mono LH;replace hv:=hv.mono LH;obtain ⟨A,c,rfl,hc1,hc2,hg⟩:=hv.slice;rw [bO] at *;obtain ⟨o,xo,pA,pn,pc,dA,dn,dc,yA,yn,yc,fA,fn,fc,rA,rn,rc,rfl,hrow,hhd,hfl,hrw⟩:=FJ hk hg;obtain ⟨hn0,hn1⟩:=aeF (bE us st li rv) body note t l s k (by omega)
 have hdz:cu (l.drop k)=1+bZ l[k].dat+cu (l.drop (k+1)):=by
  simp only [cu];rw [qR hk,fG,eG]
 have hzm:=Xj (lH hk)
 have hE:Cy (fD (bE us st li rv) body note t) l s k=(fD (bE us st li rv) body note t l[k] (rJ (fD (bE us st li rv) body note t) l s k)).1:=by unfold Cy;rw [dZ hk]
 have hS:rJ (fD (bE us st li rv) body note t) l s (k+1)=(fD (bE us st li rv) body note t l[k] (rJ (fD (bE us st li rv) body note t) l s k)).2:=by rw [rJ,dZ hk]
 rw [hE,hS]
 generalize rJ (fD (bE us st li rv) body note t) l s k=s1 at *
 refine jr (N:=13) (T:=[(0,_),(1,_),(2,_),(3,_)]) func133 rfl ntmps133 rfl rfl hO ?_;intro a H;refine kP H (SR fun _ K1=>aF K1 rfl (SQ fun _ K2=>?_));clear H K1;intro a H;refine dI hmx [[],[],[],[1,2],[1,2,3],[],(ra 0 6),(ra 0 7)] [6,7] (by kernel_rfl) [_,_,_,_,.agg #[vi l[k].kind,vi l[k].code,vi l[k].id,.string l[k].text,.slice pA pn pc,vi l[k].head.marks.ins,vi l[k].head.marks.move,.slice dA dn dc,.slice yA yn yc,.slice fA fn fc,.slice rA rn rc],.agg #[.bool body,.bool note,vi t]] H (aD (X0 rfl fun hG=>Rg QG rfl (aG hG h3)) (X0 rfl fun hG=>Rg lS rfl (aG hG h4)) (Z0 rfl (Rm rfl)) (Z2 1 7 2 8 rfl (Ri lT gB rfl rfl)) (aD ?_ ?_ (bS rfl) (bS rfl) cO)) ?_
 ·refine eu 3 9 rfl rfl fun _ a w G1 hG HT H fin=>?_;refine aR gB (cs:=[_,_,_,_,_,_,_,_,_,_,_]) H wn rfl rfl (fun j v hj=>H.hp.aH (aG hG (hrow j v hj))) rfl ?_;clear H;intro a H;exact fin H iJ rfl
 ·refine Co rfl fun _ a w G1 hG HT H fin=>?_;refine aR aer (cs:=[.bool body,.bool note,vi t]) H wn rfl rfl (fun j v hj=>H.hp.aH (aG hG (h5 j v hj))) rfl ?_;clear H;intro a H;exact fin H iJ rfl
 clear H;intro a w G iY H hv;have H:=H.aN (hv 0 6 rfl rfl) rfl;have H:=H.aN (hv 4 10 rfl rfl) rfl;have H:=H.aN (hv 5 11 rfl rfl) rfl;clear hv;refine gK aif (Li:=[]) (L:=NT b ms ml mr mb mu L s1) H wn rfl (aoR ih hm _ _ _ st li rv b ms ml mr mb mu s1 l[k] _ _ _ _ _ body note t (hck.mono iY) (Hp.owns (Li:=[]) H.hp) (hhd.mono iY) (hfl.mono iY) (hrw.mono iY) (by omega) ht0 Ah (by omega) (by omega)) rfl ?_;clear H;rintro v12 _ _ a w ⟨s3,rfl,rfl,h12⟩ - H;dsimp only [List.nil_append] at H;refine kH H (Ra rfl ?_);clear H;intro a H;refine aC ⟨rfl,?_⟩;refine K2 _ _ ?_;clear K2;refine lr H results133 rfl ?_;exact H.hp.dM ⟨s3,rfl,rfl,h12⟩
theorem aoS {m:Nat} (ih:HZ us m) (hm:m≤4294967296):HZ us (m+1):=by
 intro G L w0 st li rv b ms ml mr mb mu s l v body note t hck hO hv hz ht0 Ah hs0 hs1;obtain ⟨hA1,hA2⟩:=abV (bE us st li rv) body note t l s;refine Calls.afM (R:=fun u G' L'=>Ng b ms ml mr mb mu L (jE (bE us st li rv) body note t l s) u L') ?_ fun _ _ _ h=>h;obtain ⟨A,c,rfl,hc1,hc2,-⟩:=hv.slice;rw [bO] at *;have hll:=Hu l;refine jr (N:=11) (T:=[(0,_),(1,_),(2,_)]) func72 rfl ntmps72 rfl rfl hO ?_;intro a H;refine fK (fun _ K1=>?_);refine dW (cs:=[_]) H wn rfl rfl rfl ?_;clear H;intro b3 a w hb3 H;refine dW (cs:=[_]) H wn rfl rfl rfl ?_;clear H;intro b4 a w hb4 H;refine dW (cs:=[_,_,_]) H wn rfl rfl rfl ?_;clear H;intro b5 a w hb5 H;refine kH H (aF K1 rfl (SQ fun _ K2=>?_));clear H K1;intro a H;obtain ⟨Ga5,O8,Bz,H⟩:=H.eB;obtain ⟨Ga4,Ji,xR,H⟩:=H.eB;obtain ⟨Ga,Ez,uf,H⟩:=H.eB;replace Bz:=Ez _ _ (Ji _ _ Bz);replace xR:=Ez _ _ xR;have hma:∀ b o,G b=some o→Ga b=some o:=fun b o h=>Ez _ _ (Ji _ _ (O8 _ _ h))
 have g3:aH Ga b3 0=some (aM b 0):=by unfold aH;rw [uf];rfl
 have g4:aH Ga b4 0=some (.slice A l.length c):=by unfold aH;rw [xR];rfl
 have g5:∀ (j:Nat) (u:aj),[.bool body,.bool note,vi t][j]?=some u→aH Ga b5 (0+j)=some u:=by
  intro j u hj;unfold aH;rw [Bz];simpa using hj
 have hcb:=aoQ (mb:=mb) (L:=L) (s:=s) ih hm (hck.mono hma) g3 g4 g5 (hv.mono hma) (by omega) ht0 Ah hs0 hs1;refine kP H (SC (Rg lS rfl (by assumption) ?_));clear H;intro a H;refine kH H (Rl lT rfl ?_);clear H;intro a H;refine qy H wn rfl rfl ?_;clear H;intro a H;refine gK Iu (Li:=[]) (L:=NT b ms ml mr mb mu L s) H wn rfl (afJ _ _ (NT b ms ml mr mb mu L) (rJ (fD (bE us st li rv) body note t) l s) l.length (Cy (fD (bE us st li rv) body note t) l s) _ (Hp.owns (Li:=[]) H.hp) (by omega) hcb) rfl ?_;clear H;rintro v10 _ _ a w ⟨s3,rfl,rfl,h10⟩ - H;dsimp only [List.nil_append] at H;exact kH H (gY K2 rfl (LR results72 rfl fun H=>H.hp.dM ⟨s3,by rw [hA1],rfl,fun h=>by rw [hA1] at h;exact (h10 h).trans (hA2 (hA1.trans h)).symm⟩))
theorem PD:∀ m:Nat,m≤4294967297→HZ us m
 | 0,_=>fun _ _ _ _ _ _ _ _ _ _ _ _ _ _ _ _ _ _ _ _ _ h=>absurd h (by omega)
 | m+1,hm=>aoS (PD m (by omega)) (by omega)
end
instance akP:dR prog 102 1 1:=⟨by kernel_rfl⟩
instance akQ:dR prog 102 2 2:=⟨by kernel_rfl⟩
theorem aia:∀ args w,(callFunc 126 args).run prog w=.ok (.enter 126 args) w:=enters func126 rfl (by kernel_rfl)
theorem ahZ:∀ args w,(callFunc 124 args).run prog w=.ok (.enter 124 args) w:=enters func124 rfl (by kernel_rfl)
theorem arI {G:GH} {bl:Nat} {l:List bL} {A:Option Addr} {n c:Nat} (hb:aH G bl 0=some (.slice A n c)) (hv:au G (.sl 3 (l.map bL.dat)) (.slice A n c)):uH (.func (.func 126) #[] #[(aM bl 0)]) G l.length fun k=>(l[k]?.map bL.id).getD 0:=by
 intro k hk G1 w0 hm hG;refine jo (caps:=[(aM bl 0)]) aia ?_;replace hb:=aG hm hb
 obtain rfl:n=l.length:=by have:=hv.len;simpa using this
 obtain ⟨b,o,rfl,hrow⟩:=Wy (hv.mono hm) hk;have hq:=hrow 0 _ rfl;refine eN [(0,_),(1,_)] func126 rfl ntmps126 rfl rfl hG ?_;intro a H;refine kP H (SR fun _ K1=>aF K1 rfl (SR fun _ K2=>Rg vw rfl (by assumption) ?_));clear H K1;intro a H;refine kH H (Rm rfl (Ri nQ mP rfl rfl (Rf Oi rfl (Rg aT rfl (by assumption) ?_))));clear H;intro a H;exact kH H (aF K2 rfl (LR results126 rfl fun H=>H.rt (by dsimp only;rw [dZ hk];rfl)))
def Qf (l:List bL) (i:Nat) (x:bL):Int:=dY [qm (fun k=>(l[k]?.map bL.id).getD 0) i,dh (!wM x.author) 39,dh (!decide (0≤x.time∧x.time≤1099511627776)) 40]
def BQ (l:List bL) (i:Nat):Int:=match l[i]? with|some x=>Qf l i x|none=>0
theorem aqW {G:GH} {bl:Nat} {l:List bL} {A:Option Addr} {n c:Nat} (hb:aH G bl 0=some (.slice A n c)) (hv:au G (.sl 3 (l.map bL.dat)) (.slice A n c)) (hl:l.length≤4294967296) (ht:∀ x∈l,x.author.size < 4611686018427387904):uH (.func (.func 124) #[] #[(aM bl 0)]) G l.length (BQ l):=by
 intro k hk G1 w0 hm hG;refine jo (caps:=[(aM bl 0)]) ahZ ?_;replace hb:=aG hm hb;replace hv:=hv.mono hm;have hcb:=arI hb hv
 obtain rfl:n=l.length:=by have:=hv.len;simpa using this
 obtain ⟨b,o,rfl,hrow⟩:=Wy hv hk;have hte:=ht _ (lH hk)
 have he:BQ l k=Qf l k l[k]:=by unfold BQ;rw [dZ hk]
 obtain ⟨x,hx⟩:∃ x,x=l[k]:=⟨_,rfl⟩;rw [← hx] at hrow hte he;refine eN [(0,_),(1,_)] func124 rfl ntmps124 rfl rfl hG ?_;intro a H;refine kP H (SR fun _ K1=>aF K1 rfl (SQ fun _ K2=>?_));clear H K1;intro a H;have H:=H.sub (T':=[(0,_),(1,_)]) ⟨rfl,rfl,aL⟩;refine dI hmx [[],[],[0,1],[],[],[3,4],[3,4,5],(ra 3 4),(ra 0 8),(ra 0 9),(ra 0 10),[],[],[11,12],[11,12,13],(ra 11 4),(ra 0 16),(ra 0 17),(ra 0 18),(ra 0 19),(ra 0 20),(ra 0 21)] [19,20,21] (by kernel_rfl) [_,.func (.func 126) #[] #[(aM bl 0)],vi (qm (fun k=>(l[k]?.map bL.id).getD 0) k),_,_,_,_,_,.bool (wM x.author),_,vi (dh (!wM x.author) 39),_,_,_,_,_,.bool (decide (0≤x.time∧x.time≤1099511627776)),_,vi (dh (!decide (0≤x.time∧x.time≤1099511627776)) 40)] H (aD (Z0 rfl (Rm rfl)) ?_ ?_ (X0 rfl fun hG=>Rg vw rfl (aG hG hb)) (aD (Z0 rfl (Rm rfl)) (Z2 3 7 4 8 rfl (Ri nQ mP rfl rfl)) (Z1 5 9 rfl (Rf akP rfl)) (X1 6 10 rfl fun hG=>Rg kR rfl (aG hG (hrow 1 _ rfl))) (aD ?_ (Z1 8 12 rfl (Rn rfl)) ?_ (X0 rfl fun hG=>Rg vw rfl (aG hG hb)) (aD (Z0 rfl (Rm rfl)) (Z2 11 15 12 16 rfl (Ri nQ mP rfl rfl)) (Z1 13 17 rfl (Rf akQ rfl)) (X1 14 18 rfl fun hG=>Rg aT rfl (aG hG (hrow 2 _ rfl))) (aD ?_ (Z1 16 20 rfl (Rn rfl)) ?_ (bS rfl) (bM (bS rfl) (bM (bS rfl) cO))))))) ?_
 ·refine Co rfl fun _ a w G1 hG HT H fin=>?_;refine qy H wn rfl rfl ?_;clear H;intro a H;exact fin H iJ rfl
 ·refine dL 0 4 1 5 rfl rfl fun _ a w G1 hG HT H fin=>?_;refine s_call Sn H wn rfl (Vs _ _ H.ro k _ _ (by omega) (fun i hi=>(hcb.mono hG) i (by omega))) rfl ?_;clear H;rintro v6 G6 a w rfl gM H;exact fin H gM (rfl)
 ·refine eu 7 11 rfl rfl fun _ a w G1 hG HT H fin=>?_;refine s_call Zc H wn rfl (X8 _ _ H.ro x.author hte) rfl ?_;clear H;rintro v12 Cm a w ⟨rfl,-⟩ nW H;exact fin H nW (rfl)
 ·refine eu 9 13 rfl rfl fun _ a w G1 hG HT H fin=>?_;refine s_call jQ H wn rfl (jU _ _ H.ro _ 39) rfl ?_;clear H;rintro v14 AJ a w ⟨rfl,-⟩ xP H;exact fin H xP (rfl)
 ·refine eu 15 19 rfl rfl fun _ a w G1 hG HT H fin=>?_;refine s_call xK H wn rfl (xW _ _ H.ro x.time 0 1099511627776) rfl ?_;clear H;rintro v20 J2 a w ⟨rfl,-⟩ alF H;exact fin H alF (rfl)
 ·refine eu 17 21 rfl rfl fun _ a w G1 hG HT H fin=>?_;refine s_call jQ H wn rfl (jU _ _ H.ro _ 40) rfl ?_;clear H;rintro v22 Xy a w ⟨rfl,-⟩ TY H;exact fin H TY (rfl)
 clear H;intro a w G iY H hv;have H:=H.aN (hv 2 6 rfl rfl) rfl;have H:=H.aN (hv 10 14 rfl rfl) rfl;have H:=H.aN (hv 18 22 rfl rfl) rfl;clear hv;refine gQ qz iD [_,_,_] [_,_,_] H wn rfl rfl rfl rfl rfl (by intro i q h;match i,h with|0,h=>exact h|1,h=>exact h|2,h=>exact h|n+3,h=>simp at h) rfl rfl ?_;clear H;intro b23 a w auP H;obtain ⟨Q0,Ev,amq,H⟩:=H.eB;refine s_call rT H wn rfl (rU _ _ H.ro _ _ (Gy [qm (fun k=>(l[k]?.map bL.id).getD 0) k,dh (!wM x.author) 39,dh (!decide (0≤x.time∧x.time≤1099511627776)) 40] amq (show 3≤maxLen by decide))) rfl ?_;clear H;rintro v24 _ a w ⟨rfl,rfl⟩ - H;refine kH H (Ra rfl ?_);clear H;intro a H;refine aC ⟨rfl,?_⟩;refine K2 _ _ ?_;clear K2;refine lr H results124 rfl ?_;exact H.rt (by rw [he,Qf])
def Cv (l:List bL):Int:=dY [dh (decide (256 < (l.length:Int))) 9,kr (BQ l) (min l.length 256)]
theorem agE (G:GH) (w0:World) (hG:Hold G w0) (l:List bL) (v:aj) (hv:au G (.sl 3 (l.map bL.dat)) v) (hl:l.length≤4294967296) (ht:∀ x∈l,x.author.size < 4611686018427387904) :
  Calls prog 68 #[v] w0 (bB w0 G fun u G'=>u=vi (Cv l)):=by
 obtain ⟨A,c,rfl,hc1,hc2,-⟩:=hv.slice;rw [bO] at *;refine eN [(0,_)] func68 rfl ntmps68 rfl rfl hG ?_;intro a H;refine fK (fun _ K1=>?_);refine dW (cs:=[_]) H wn rfl rfl rfl ?_;clear H;intro b1 a w hb1 H;refine kH H (aF K1 rfl (SQ fun _ K2=>?_));clear H K1;intro a H;have H:=H.sub (T':=[(1,_)]) ⟨rfl,aL⟩;obtain ⟨Ga,hma,hb1',H⟩:=H.eB
 have hbl:aH Ga b1 0=some (.slice A l.length c):=by unfold aH;rw [hb1'];rfl
 have hcb:=aqW hbl (hv.mono hma) hl ht;refine dI hmx [[],[0],[0,1],[0,1,2],[],[4],[4,5],[],(ra 0 8),(ra 0 9),(ra 0 10),(ra 0 11)] [9,10,11] (by kernel_rfl) [_,_,_,vi (dh (decide (256 < (l.length:Int))) 9),_,_,vi ((min l.length 256:Nat):Int),.func (.func 124) #[] #[(aM b1 0)],vi (kr (BQ l) (min l.length 256))] H (aD (X0 rfl fun hG=>Rg vw rfl (aG hG hbl)) (Z1 0 3 rfl (Rl nQ rfl)) (Z1 1 4 rfl (Rc rfl)) ?_ (aD (X0 rfl fun hG=>Rg vw rfl (aG hG hbl)) (Z1 4 7 rfl (Rl nQ rfl)) ?_ ?_ (aD ?_ (bS rfl) (bS rfl) (bS rfl) cO))) ?_
 ·refine eu 2 5 rfl rfl fun _ a w G1 hG HT H fin=>?_;refine s_call jQ H wn rfl (jU _ _ H.ro _ 9) rfl ?_;clear H;rintro v6 G6 a w ⟨rfl,-⟩ gM H;exact fin H gM (rfl)
 ·refine eu 5 8 rfl rfl fun _ a w G1 hG HT H fin=>?_;refine Qt H wn rfl rfl rfl ?_;clear H;intro a H;exact fin H iJ (aB vi (by omega))
 ·refine Co rfl fun _ a w G1 hG HT H fin=>?_;refine qy H wn rfl rfl ?_;clear H;intro a H;exact fin H iJ rfl
 ·refine dL 6 9 7 10 rfl rfl fun _ a w G1 hG HT H fin=>?_;refine s_call Iu H wn rfl (Km _ _ H.ro (min l.length 256) (BQ l) _ (by omega) ((hcb.mono hG).le (Nat.min_le_left _ _))) rfl ?_;clear H;rintro v11 tC a w rfl mF H;exact fin H mF (rfl)
 clear H;intro a w G iY H hv;have H:=H.aN (hv 3 6 rfl rfl) rfl;have H:=H.aN (hv 8 11 rfl rfl) rfl;clear hv;refine gQ qz iD [_,_] [_,_] H wn rfl rfl rfl rfl rfl (by intro i q h;match i,h with|0,h=>exact h|1,h=>exact h|n+2,h=>simp at h) rfl rfl ?_;clear H;intro b12 a w FR H;obtain ⟨Cm,CW,FT,H⟩:=H.eB;refine s_call rT H wn rfl (rU _ _ H.ro _ _ (zo FT)) rfl ?_;clear H;rintro v13 _ a w ⟨rfl,rfl⟩ - H;refine kH H (Ra rfl ?_);clear H;intro a H;refine aC ⟨rfl,?_⟩;refine K2 _ _ ?_;clear K2;refine lr H results68 rfl ?_;exact H.rt rfl
theorem kG:∀ {l:List Int},dY l=0→∀ x∈l,x=0
 | [],_,_,h=>by cases h
 | e :: r,h,x,hx=>by
  unfold dY at h
  by_cases he:e=0
  ·rw [ah (fun h'=>h' he)] at h
   rcases iX.1 hx with rfl|hx
   ·exact he
   exact kG h x hx
  rw [ak he] at h;exact absurd h he
theorem Bf {E:Nat→Int} {n:Nat} (h:kr E n=0) (i:Nat) (hi:i < n):E i=0:=kG h _ (by simp;exact ⟨i,hi,rfl⟩)
theorem Mi {id:Nat→Int} {i:Nat} (h:qm id i=0):1≤id i∧id i≤1073741824∧(0 < i→id (i - 1) < id i):=by
 unfold qm at h
 by_cases h1:1≤id i∧id i≤1073741824
 ·rw [ah (fun h'=>h' h1)] at h
  by_cases h2:0 < i∧id i=id (i - 1)
  ·rw [ak h2] at h;cases h
  rw [ah h2] at h
  by_cases h3:0 < i∧id i < id (i - 1)
  ·rw [ak h3] at h;cases h
  exact ⟨h1.1,h1.2,fun h0=>by omega⟩
 rw [ak h1] at h;cases h
theorem abR {l:List Int} (h:∀ i (h:i+1 < l.length),l[i] < l[i+1]):Ck l:=by
 have hlt:∀ (j i:Nat) (hj:j < l.length) (hi:i < j),l[i] < l[j]:=by
  intro j
  induction j with
  | zero=>intro i _ hi;omega
  | succ j ih =>
   intro i hj hi;have h1:=h j hj
   by_cases e:i=j
   ·subst e;exact h1
   have:=ih i (by omega) (by omega);omega
 intro k hk hm;obtain ⟨i,hi,he⟩:=List.getElem_of_mem hm;rw [List.length_take] at hi;have:=hlt k i hk (by omega);rw [List.getElem_take] at he
 omega
theorem aqX {l:List bL} (h:Cv l=0):Ck (l.map bL.id):=by
 have h1:=kG h _ (eX);have h2:=kG h _ (fJ _ eX)
 have hl:l.length≤256:=by
  unfold dh at h1
  by_cases hd:256 < (l.length:Int)
  ·rw [ak (aI hd)] at h1;cases h1
  omega
 refine abR fun i hi=>?_;rw [bO] at hi;have h3:=Bf h2 (i+1) (by omega)
 unfold BQ at h3
 rw [dZ hi] at h3;have h4:=(Mi (kG h3 _ eX)).2.2 (by omega);rw [Nat.add_sub_cancel,dZ hi,dZ (show i < l.length by omega)] at h4
 simpa using h4
theorem apl {l:List eD} (h:Kv l=0):Ck (l.map eD.id):=by
 have h1:=kG h _ (eX);have h2:=kG h _ (fJ _ eX)
 have hl:l.length≤64:=by
  unfold dh at h1
  by_cases hd:64 < (l.length:Int)
  ·rw [ak (aI hd)] at h1;cases h1
  omega
 refine abR fun i hi=>?_;rw [bO] at hi;have h3:=Bf h2 (i+1) (by omega)
 unfold GJ at h3
 have h4:=(Mi (kG h3 _ eX)).2.2 (by omega);rw [Nat.add_sub_cancel,dZ hi,dZ (show i < l.length by omega)] at h4
 simpa using h4
theorem atu {l:List bU} (h:gZ l=0):Ck (l.map bU.id):=by
 unfold gZ at h
 by_cases h1:128 < l.length
 ·rw [ak h1] at h;cases h
 rw [ah h1] at h
 by_cases h2:uM (Ao l) 0 l.length≠0
 ·rw [ak h2] at h;exact absurd h h2
 intro k hk;rw [bO] at hk;have:=acX (nT.1 h2) k hk;rw [← List.map_take,List.getElem_map];exact this
theorem ajY:∀ args w,(callFunc 69 args).run prog w=.ok (.enter 69 args) w:=enters func69 rfl (by kernel_rfl)
instance uz:Ty prog 36 4 96 [.slice none 0 0,.slice none 0 0,.slice none 0 0,.slice none 0 0] true:=⟨by kernel_rfl,by kernel_rfl⟩
theorem ajW:∀ args w,(callFunc 67 args).run prog w=.ok (.enter 67 args) w:=enters func67 rfl (by kernel_rfl)
theorem ajX:∀ args w,(callFunc 68 args).run prog w=.ok (.enter 68 args) w:=enters func68 rfl (by kernel_rfl)
instance Bq:dR prog 38 1 1:=⟨by kernel_rfl⟩
theorem Tx (e:Int):dY [e]=e:=by
 by_cases h:e=0 <;> simp [dY,h]
structure fT where
 flow:List ay
 fin:dP
 revs:List bL
 gU:Ba
structure jN (G:GH) (D:iE) (d:fT):Prop where
 fl:au G (.sl 11 (d.flow.map ay.dat)) (aQ D.f)
 hd:iA G d.fin (aQ D.p) (aQ D.d) (aQ D.y)
 ins:D.ins=d.fin.marks.ins
 mv:D.move=d.fin.marks.move
 rv:au G (.sl 3 (d.revs.map bL.dat)) (aQ D.r)
 st:zH G d.gU (aQ D.s1) (aQ D.s2) (aQ D.s3) (aQ D.s4)
theorem zH.mono {G G':GH} (hm:∀ b o,G b=some o→G' b=some o) {s:Ba} {a b c d:aj} (h:zH G s a b c d):zH G' s a b c d:=⟨h.st.mono hm,h.li.mono hm,h.cm.mono hm,h.va.mono hm⟩
theorem jN.mono {G G':GH} (hm:∀ b o,G b=some o→G' b=some o) {D:iE} {d:fT} (h:jN G D d):jN G' D d:=⟨h.fl.mono hm,h.hd.mono hm,h.ins,h.mv,h.rv.mono hm,h.st.mono hm⟩
structure yF (d:fT):Prop where
 fl:cu d.flow≤1073741824
 hd:mh d.fin≤4294967296
 rn:d.revs.length≤4294967296
 rt:∀ x∈d.revs,x.author.size < 4611686018427387904
 sn:d.gU.styles.length≤4294967296
 st:RD d.gU
abbrev fT.ku (d:fT):bC:=bE [] d.gU.styles d.gU.lists d.revs
def sj (m:yK):Bool:=decide ((m.ins≠0∨m.move≠0)∨0 < (m.bH.length:Int))
def iy (d:fT):Int:=dY [dY [Kw d.gU,Cv d.revs],dY [gN d.ku 3 d.fin,dh (sj d.fin.marks) 21],(jE d.ku true false 0 d.flow ⟨0,[]⟩).1,dh (decide (16384 < (jE d.ku true false 0 d.flow ⟨0,[]⟩).2.n)) 9]
theorem RX (G:GH) (w0:World) (hG:Hold G w0) (D:iE) (d:fT) (hR:jN G D d) (hz:yF d) :
  Calls prog 21 #[D.val] w0 (bB w0 G fun u G'=>u=vi (iy d)):=by
 obtain ⟨df,dp,dd,dy,dr,d1,d2,d3,d4,ins,mv⟩:=D;obtain ⟨hfl,hhd,hin,hmv,pJ,hst⟩:=hR;dsimp only at hfl hhd hin hmv pJ hst;subst hin;subst hmv;obtain ⟨zf,zh,zr,zt,zs,zg⟩:=hz;have hdl:=hhd.bH.len;rw [bO] at hdl
 have hdn:d.fin.marks.bH.length≤4294967296:=by
  have h1:=E9 d.fin;have h2:=qQ (d.fin.marks.bH.map fO.dat);rw [bO] at h2;omega
 refine eN [(0,_)] func21 rfl ntmps21 rfl rfl hG ?_;intro a H;refine fK (fun _ K1=>?_);refine dW (cs:=[_,_,_,_,_,_,_,_,_,_,_]) H wn rfl rfl rfl ?_;clear H;intro b1 a w hb1 H;refine kH H (aF K1 rfl (SQ fun _ K2=>SQ fun _ K3=>?_));clear H K1;intro a H;refine dI hmx [[],[0],[0,1],[],[3],(ra 0 5),(ra 0 6),(ra 0 7),(ra 0 8)] [6,7,8] (by kernel_rfl) [_,.agg #[aQ d1,aQ d2,aQ d3,aQ d4],vi (Kw d.gU),_,aQ dr,vi (Cv d.revs)] H (aD (Z0 rfl (Rf IJ rfl)) ?_ ?_ (Z0 rfl (Rf zN rfl)) (aD (Z1 3 11 rfl (Ro vw 0 rfl)) ?_ (bS rfl) (bS rfl) (bM (bS rfl) cO))) ?_
 ·refine eu 0 8 rfl rfl fun _ a w G1 hG HT H fin=>?_;refine aR uz (cs:=[_,_,_,_]) H wn rfl rfl (H.hp.bT 0 rfl rfl) rfl ?_;clear H;intro a H;exact fin H iJ rfl
 ·refine eu 1 9 rfl rfl fun _ a w G1 hG HT H fin=>?_;refine s_call ajW H wn rfl (agF _ _ H.ro d.gU _ _ _ _ (hst.mono hG) zg) rfl ?_;clear H;rintro v10 zD a w rfl ru H;exact fin H ru (rfl)
 ·refine eu 4 12 rfl rfl fun _ a w G1 hG HT H fin=>?_;refine s_call ajX H wn rfl (agE _ _ H.ro d.revs _ (pJ.mono hG) zr zt) rfl ?_;clear H;rintro v13 DR a w rfl KT H;exact fin H KT (rfl)
 clear H;intro a w G iY H hv;have H:=H.aN (hv 2 10 rfl rfl) rfl;have H:=H.aN (hv 5 13 rfl rfl) rfl;clear hv;refine gQ qz iD [_,_] [_,_] H wn rfl rfl rfl rfl rfl (by intro i q h;match i,h with|0,h=>exact h|1,h=>exact h|n+2,h=>simp at h) rfl rfl ?_;clear H;intro b14 a w aax H;obtain ⟨AJ,xS,Ux,H⟩:=H.eB;have hg1:=fun b o h=>xS b o (iY b o h);replace hfl:=hfl.mono hg1;replace hhd:=hhd.mono hg1;replace pJ:=pJ.mono hg1;replace hst:=hst.mono hg1;refine s_call rT H wn rfl (rU _ _ H.ro _ _ (zo Ux)) rfl ?_;clear H;rintro v15 _ a w ⟨rfl,rfl⟩ - H;refine kH H (Ra rfl ?_);clear H;intro a H;refine aC ⟨rfl,?_⟩;refine K3 _ _ ?_;clear K3;refine kP H (SR fun _ K4=>Rm rfl (Rc rfl (Kz K4 (Cd rfl ?_ ?_)))) <;> clear H K4
 ·intro eT a H
  try have jZ:=dT eT
  have hE:iy d=dY [Kw d.gU,Cv d.revs]:=by rw [iy,dY,ak jZ]
  exact kP H (SR fun _ K5=>Rm rfl (aF K5 rfl (LR results21 rfl fun H=>H.rt (by rw [hE]))))
 intro eT a H
 try have jZ:=dF eT
 have e1:=nT.1 jZ;have s1:=kG e1 _ eX;have s2:=kG e1 _ (fJ _ eX);have t1:=kG s1 _ eX;have t2:=kG s1 _ (fJ _ eX);refine iw ?_;refine K2 _ _ ?_;clear K2;refine fK (fun _ K6=>?_);refine aR gV (cs:=[_,_,_,_,_,_,_,_,_,_,_]) H wn rfl rfl (H.hp.bT 0 rfl rfl) rfl ?_;clear H;intro a H;refine gK ajY (Li:=[_]) (L:=[]) H wn rfl (apL _ _ (Hp.owns (Li:=[_]) H.hp) ⟨df,dp,dd,dy,dr,d1,d2,d3,d4,d.fin.marks.ins,d.fin.marks.move⟩ d.gU.styles d.gU.lists d.revs hst.st hst.li pJ (atu t1) (apl t2) (aqX s2) zs zg.ln zr) rfl ?_;clear H;rintro v20 J2 _ a w ⟨b,ms,ml,mr,mb,mu,rfl,rfl,hck⟩ rX H;dsimp only [lca,bK] at H;have H:=H.dX (Pl:=[_,_,_,_]) (dN:=[_,_,_,_]) [3,0,1,2] (by decide) rfl;obtain ⟨Gu,hmu,hu,H⟩:=H.eB;replace hck:=hck.with (us:=[]) hmu hu;replace hfl:=(hfl.mono rX).mono hmu;replace hhd:=(hhd.mono rX).mono hmu;refine kH H (aF K6 rfl (SR fun _ K7=>Rf Bq rfl (Rf Bp rfl ?_)));clear H K6;intro a H;refine aR Dy (cs:=[_,_,_,_]) H wn rfl rfl (H.hp.bT 0 rfl rfl) rfl ?_;clear H;intro a H;refine dJ Dy H wn rfl ?_;clear H;intro b5 a w hb5 H;refine aY Dy 0 (vs:=[_,_,_,_]) _ H wn rfl rfl rfl rfl rfl rfl rfl rfl ?_;clear H;intro w H;dsimp only [List.set,setRow] at H;refine K7 _ _ ?_;clear K7;refine eY (fun _ K8=>?_);refine eY (fun _ K9=>?_)
 by_cases c0:d.fin.marks.ins≠0
 ·skip;have c1:d.fin.marks.ins≠0∨d.fin.marks.move≠0:=Or.inl c0;refine dI hmx [[],[],[1],[0,1,2],[],[4],[4,5],(ra 0 7),(ra 0 8),(ra 0 9),(ra 0 10),(ra 0 11),(ra 0 12),(ra 0 13),(ra 0 14),(ra 0 15),(ra 0 16),(ra 0 17),(ra 0 18),(ra 0 19),(ra 0 20),(ra 0 21)] [19,20,21] (by kernel_rfl) [_,_,rz d.fin (aQ dp) (aQ dd) (aQ dy),vi (gN d.ku 3 d.fin),_,vi d.fin.marks.ins,_,_,undef,undef,undef,.bool (decide (d.fin.marks.ins≠0∨d.fin.marks.move≠0)),_,undef,undef,undef,undef,.bool (sj d.fin.marks),vi (dh (sj d.fin.marks) 21)] H (aD (Z0 rfl (Rm rfl)) (Z0 rfl (Rf Bq rfl)) ?_ ?_ (aD (Z0 rfl (Rf Cz rfl)) (Z1 4 28 rfl (Ro aT 0 rfl)) (Z1 5 29 rfl (Rc rfl)) (Z1 6 30 rfl (Rm rfl)) (aD (aW 7 (aI c0) rfl rfl) (aW 7 (aI c0) rfl rfl) (aW 7 (aI c0) rfl rfl) ?_ (aD (Z1 11 35 rfl (Rm rfl)) (aW 12 (aI c1) rfl rfl) (aW 12 (aI c1) rfl rfl) (aW 12 (aI c1) rfl rfl) (aD (aW 12 (aI c1) rfl rfl) ?_ ?_ (bS rfl) (bM (bS rfl) (bM (bS rfl) cO))))))) ?_
  ·refine eu 1 25 rfl rfl fun _ a w G1 hG HT H fin=>?_;refine aR dB (cs:=[_,_,_,_,_]) H wn rfl rfl (H.hp.bT 1 rfl rfl) rfl ?_;clear H;intro a H;exact fin H iJ rfl
  ·refine dL 0 24 2 26 rfl rfl fun _ a w G1 hG HT H fin=>?_;refine gK Iy (Li:=[_,_]) (L:=gy b ms ml mr mb mu 0 :: (mb,eZ []) :: []) H wn rfl (I5 _ _ _ d.gU.styles d.gU.lists d.revs b ms ml mr mb mu _ (hck.mono hG) (Hp.owns (Li:=[_,_]) H.hp) 3 d.fin _ _ _ (hhd.mono hG) zh) rfl ?_;clear H;rintro v27 _ _ a w ⟨rfl,rfl,rfl⟩ FN H;dsimp only [lca,bK] at H;exact fin H FN (rfl)
  ·refine dL 7 31 10 34 rfl rfl fun _ a w G1 hG HT H fin=>?_;refine kH H (Pt (aI c0) rfl ?_);clear H;intro a H;exact fin H iJ (by show _=_;first|exact dG (aI c1).symm|exact dG (by simp [c0]))
  ·refine dL 12 36 16 40 rfl rfl fun _ a w G1 hG HT H fin=>?_;refine kH H (Pt (aI c1) rfl ?_);clear H;intro a H;exact fin H iJ (by show _=_;first|exact dG (iO (Or.inl c1)).symm|exact dG (by simp [sj,c1]))
  ·refine eu 17 41 rfl rfl fun _ a w G1 hG HT H fin=>?_;refine s_call jQ H wn rfl (jU _ _ H.ro _ 21) rfl ?_;clear H;rintro v42 Nl a w ⟨rfl,-⟩ FQ H;exact fin H FQ (rfl)
  clear H;intro a w G gM H hv;have H:=H.aN (hv 3 27 rfl rfl) rfl;have H:=H.aN (hv 18 42 rfl rfl) rfl;clear hv;refine gQ qz iD [_,_] [_,_] H wn rfl rfl rfl rfl rfl (by intro i q h;match i,h with|0,h=>exact h|1,h=>exact h|n+2,h=>simp at h) rfl rfl ?_;clear H;intro Yc a w aaA H;obtain ⟨J6,CY,Lg,H⟩:=H.eB;have Et:=fun b o h=>CY b o (gM b o h);replace hfl:=hfl.mono Et;replace hck:=hck.mono Et;refine s_call rT H wn rfl (rU _ _ H.ro _ _ (zo Lg)) rfl ?_;clear H;rintro v44 _ a w ⟨rfl,rfl⟩ - H;refine kH H (Ra rfl ?_);clear H;intro a H;refine aC ⟨rfl,?_⟩;refine K9 _ _ ?_;clear K9;refine kP H (SR fun _ eU=>Rm rfl (Rc rfl (Kz eU (Cd rfl ?_ ?_)))) <;> clear H eU
  ·intro h46 a H
   try have p46:=dT h46
   have hE:iy d=dY [gN d.ku 3 d.fin,dh (sj d.fin.marks) 21]:=by rw [iy,dY,ah (by simpa using e1),dY,ak p46]
   exact kP H (SR fun _ fQ=>Rm rfl (aF fQ rfl (LR results21 rfl fun H=>H.rt (by rw [hE]))))
  intro h46 a H
  try have p46:=dF h46
  have e2:=nT.1 p46;refine kP H (Kc K8 (SQ fun _ iF=>SR fun _ jd=>Rm rfl (dU vO lS 1 rfl rfl ?_)));clear H K8;intro a H;refine jl MJ [_,_,_] H wn rfl rfl rfl rfl ?_;clear H;intro a H;refine gK KJ (Li:=[_,_]) (L:=gy b ms ml mr mb mu 0 :: (mb,eZ []) :: []) H wn rfl (PD 4294967297 (by omega) _ _ _ d.gU.styles d.gU.lists d.revs b ms ml mr mb mu ⟨0,[]⟩ d.flow _ true false 0 hck (Hp.owns (Li:=[_,_]) H.hp) hfl (by omega) (by omega) (by omega) (by decide) (by dsimp only;omega)) rfl ?_;clear H;rintro v52 _ _ a w ⟨rfl,s3,rfl,rfl,h3⟩ - H;dsimp only [lca,bK] at H;refine kH H (aF jd rfl (SR fun _ iW=>Rm rfl (Rc rfl (Kz iW (Cd rfl ?_ ?_))))) <;> clear H jd iW
  ·intro ng a H
   try have p54:=dT ng
   have hE:iy d=(jE d.ku true false 0 d.flow ⟨0,[]⟩).1:=by rw [iy,dY,ah (by simpa using e1),dY,ah (by simpa using e2),dY,ak p54]
   exact kP H (SR fun _ mq=>Rm rfl (aF mq rfl (LR results21 rfl fun H=>H.rt (by rw [hE]))))
  intro ng a H
  try have p54:=dF ng
  have e3:=nT.1 p54;have hs3:=h3 e3;subst hs3;refine kP H (Kc iF (SR fun _ oJ=>Rm rfl (Rk rfl (dU FC aT 2 rfl rfl (Rc rfl ?_)))));clear H iF;intro a H;refine s_call jQ H wn rfl (jU _ _ H.ro _ 9) rfl ?_;clear H;rintro v61 _ a w ⟨rfl,rfl⟩ - H
  have hE:iy d=dh (decide (16384 < (jE d.ku true false 0 d.flow ⟨0,[]⟩).2.n)) 9:=by rw [iy,dY,ah (by simpa using e1),dY,ah (by simpa using e2),dY,ah (by simpa using e3)];exact Tx _
  exact kH H (aF oJ rfl (LR results21 rfl fun H=>H.rt (by rw [hE])))
 skip
 by_cases c1:d.fin.marks.ins≠0∨d.fin.marks.move≠0
 ·skip;refine dI hmx [[],[],[1],[0,1,2],[],[4],[4,5],(ra 0 7),(ra 0 8),(ra 0 9),(ra 0 10),(ra 0 11),(ra 0 12),(ra 0 13),(ra 0 14),(ra 0 15),(ra 0 16),(ra 0 17),(ra 0 18),(ra 0 19),(ra 0 20),(ra 0 21)] [19,20,21] (by kernel_rfl) [_,_,rz d.fin (aQ dp) (aQ dd) (aQ dy),vi (gN d.ku 3 d.fin),_,vi d.fin.marks.ins,_,_,_,vi d.fin.marks.move,_,.bool (decide (d.fin.marks.ins≠0∨d.fin.marks.move≠0)),_,undef,undef,undef,undef,.bool (sj d.fin.marks),vi (dh (sj d.fin.marks) 21)] H (aD (Z0 rfl (Rm rfl)) (Z0 rfl (Rf Bq rfl)) ?_ ?_ (aD (Z0 rfl (Rf Cz rfl)) (Z1 4 28 rfl (Ro aT 0 rfl)) (Z1 5 29 rfl (Rc rfl)) (Z1 6 30 rfl (Rm rfl)) (aD (Z1 7 31 rfl (YF ZR (aX c0) rfl)) (Z2 8 32 7 31 rfl (YO aT 0 (aX c0) rfl)) (Z2 9 33 7 31 rfl (YC (aX c0) rfl)) ?_ (aD (Z1 11 35 rfl (Rm rfl)) (aW 12 (aI c1) rfl rfl) (aW 12 (aI c1) rfl rfl) (aW 12 (aI c1) rfl rfl) (aD (aW 12 (aI c1) rfl rfl) ?_ ?_ (bS rfl) (bM (bS rfl) (bM (bS rfl) cO))))))) ?_
  ·refine eu 1 25 rfl rfl fun _ a w G1 hG HT H fin=>?_;refine aR dB (cs:=[_,_,_,_,_]) H wn rfl rfl (H.hp.bT 1 rfl rfl) rfl ?_;clear H;intro a H;exact fin H iJ rfl
  ·refine dL 0 24 2 26 rfl rfl fun _ a w G1 hG HT H fin=>?_;refine gK Iy (Li:=[_,_]) (L:=gy b ms ml mr mb mu 0 :: (mb,eZ []) :: []) H wn rfl (I5 _ _ _ d.gU.styles d.gU.lists d.revs b ms ml mr mb mu _ (hck.mono hG) (Hp.owns (Li:=[_,_]) H.hp) 3 d.fin _ _ _ (hhd.mono hG) zh) rfl ?_;clear H;rintro v27 _ _ a w ⟨rfl,rfl,rfl⟩ FN H;dsimp only [lca,bK] at H;exact fin H FN (rfl)
  ·refine dL 7 31 10 34 rfl rfl fun _ a w G1 hG HT H fin=>?_;refine kH H (Pf (aX c0) rfl ?_);clear H;intro a H;exact fin H iJ (by show _=_;first|exact dG (aI c1).symm|exact dG (by simp [c0]))
  ·refine dL 12 36 16 40 rfl rfl fun _ a w G1 hG HT H fin=>?_;refine kH H (Pt (aI c1) rfl ?_);clear H;intro a H;exact fin H iJ (by show _=_;first|exact dG (iO (Or.inl c1)).symm|exact dG (by simp [sj,c1]))
  ·refine eu 17 41 rfl rfl fun _ a w G1 hG HT H fin=>?_;refine s_call jQ H wn rfl (jU _ _ H.ro _ 21) rfl ?_;clear H;rintro v42 Nl a w ⟨rfl,-⟩ FQ H;exact fin H FQ (rfl)
  clear H;intro a w G gM H hv;have H:=H.aN (hv 3 27 rfl rfl) rfl;have H:=H.aN (hv 18 42 rfl rfl) rfl;clear hv;refine gQ qz iD [_,_] [_,_] H wn rfl rfl rfl rfl rfl (by intro i q h;match i,h with|0,h=>exact h|1,h=>exact h|n+2,h=>simp at h) rfl rfl ?_;clear H;intro Yc a w aaA H;obtain ⟨J6,CY,Lg,H⟩:=H.eB;have Et:=fun b o h=>CY b o (gM b o h);replace hfl:=hfl.mono Et;replace hck:=hck.mono Et;refine s_call rT H wn rfl (rU _ _ H.ro _ _ (zo Lg)) rfl ?_;clear H;rintro v44 _ a w ⟨rfl,rfl⟩ - H;refine kH H (Ra rfl ?_);clear H;intro a H;refine aC ⟨rfl,?_⟩;refine K9 _ _ ?_;clear K9;refine kP H (SR fun _ qD=>Rm rfl (Rc rfl (Kz qD (Cd rfl ?_ ?_)))) <;> clear H qD
  ·intro h46 a H
   try have p46:=dT h46
   have hE:iy d=dY [gN d.ku 3 d.fin,dh (sj d.fin.marks) 21]:=by rw [iy,dY,ah (by simpa using e1),dY,ak p46]
   exact kP H (SR fun _ pR=>Rm rfl (aF pR rfl (LR results21 rfl fun H=>H.rt (by rw [hE]))))
  intro h46 a H
  try have p46:=dF h46
  have e2:=nT.1 p46;refine kP H (Kc K8 (SQ fun _ pz=>SR fun _ pU=>Rm rfl (dU vO lS 1 rfl rfl ?_)));clear H K8;intro a H;refine jl MJ [_,_,_] H wn rfl rfl rfl rfl ?_;clear H;intro a H;refine gK KJ (Li:=[_,_]) (L:=gy b ms ml mr mb mu 0 :: (mb,eZ []) :: []) H wn rfl (PD 4294967297 (by omega) _ _ _ d.gU.styles d.gU.lists d.revs b ms ml mr mb mu ⟨0,[]⟩ d.flow _ true false 0 hck (Hp.owns (Li:=[_,_]) H.hp) hfl (by omega) (by omega) (by omega) (by decide) (by dsimp only;omega)) rfl ?_;clear H;rintro v52 _ _ a w ⟨rfl,s3,rfl,rfl,h3⟩ - H;dsimp only [lca,bK] at H;refine kH H (aF pU rfl (SR fun _ pV=>Rm rfl (Rc rfl (Kz pV (Cd rfl ?_ ?_))))) <;> clear H pU pV
  ·intro ng a H
   try have p54:=dT ng
   have hE:iy d=(jE d.ku true false 0 d.flow ⟨0,[]⟩).1:=by rw [iy,dY,ah (by simpa using e1),dY,ah (by simpa using e2),dY,ak p54]
   exact kP H (SR fun _ xE=>Rm rfl (aF xE rfl (LR results21 rfl fun H=>H.rt (by rw [hE]))))
  intro ng a H
  try have p54:=dF ng
  have e3:=nT.1 p54;have hs3:=h3 e3;subst hs3;refine kP H (Kc pz (SR fun _ AL=>Rm rfl (Rk rfl (dU FC aT 2 rfl rfl (Rc rfl ?_)))));clear H pz;intro a H;refine s_call jQ H wn rfl (jU _ _ H.ro _ 9) rfl ?_;clear H;rintro v61 _ a w ⟨rfl,rfl⟩ - H
  have hE:iy d=dh (decide (16384 < (jE d.ku true false 0 d.flow ⟨0,[]⟩).2.n)) 9:=by rw [iy,dY,ah (by simpa using e1),dY,ah (by simpa using e2),dY,ah (by simpa using e3)];exact Tx _
  exact kH H (aF AL rfl (LR results21 rfl fun H=>H.rt (by rw [hE])))
 skip;refine dI hmx [[],[],[1],[0,1,2],[],[4],[4,5],(ra 0 7),(ra 0 8),(ra 0 9),(ra 0 10),(ra 0 11),(ra 0 12),(ra 0 13),(ra 0 14),(ra 0 15),(ra 0 16),(ra 0 17),(ra 0 18),(ra 0 19),(ra 0 20),(ra 0 21)] [19,20,21] (by kernel_rfl) [_,_,rz d.fin (aQ dp) (aQ dd) (aQ dy),vi (gN d.ku 3 d.fin),_,vi d.fin.marks.ins,_,_,_,vi d.fin.marks.move,_,.bool (decide (d.fin.marks.ins≠0∨d.fin.marks.move≠0)),_,_,aQ dd,vi d.fin.marks.bH.length,_,.bool (sj d.fin.marks),vi (dh (sj d.fin.marks) 21)] H (aD (Z0 rfl (Rm rfl)) (Z0 rfl (Rf Bq rfl)) ?_ ?_ (aD (Z0 rfl (Rf Cz rfl)) (Z1 4 28 rfl (Ro aT 0 rfl)) (Z1 5 29 rfl (Rc rfl)) (Z1 6 30 rfl (Rm rfl)) (aD (Z1 7 31 rfl (YF ZR (aX c0) rfl)) (Z2 8 32 7 31 rfl (YO aT 0 (aX c0) rfl)) (Z2 9 33 7 31 rfl (YC (aX c0) rfl)) ?_ (aD (Z1 11 35 rfl (Rm rfl)) (Z1 12 36 rfl (YF FD (aX c1) rfl)) (Z2 13 37 12 36 rfl (YO Ce 0 (aX c1) rfl)) ?_ (aD (Z2 15 39 12 36 rfl (YC (aX c1) rfl)) ?_ ?_ (bS rfl) (bM (bS rfl) (bM (bS rfl) cO))))))) ?_
 ·refine eu 1 25 rfl rfl fun _ a w G1 hG HT H fin=>?_;refine aR dB (cs:=[_,_,_,_,_]) H wn rfl rfl (H.hp.bT 1 rfl rfl) rfl ?_;clear H;intro a H;exact fin H iJ rfl
 ·refine dL 0 24 2 26 rfl rfl fun _ a w G1 hG HT H fin=>?_;refine gK Iy (Li:=[_,_]) (L:=gy b ms ml mr mb mu 0 :: (mb,eZ []) :: []) H wn rfl (I5 _ _ _ d.gU.styles d.gU.lists d.revs b ms ml mr mb mu _ (hck.mono hG) (Hp.owns (Li:=[_,_]) H.hp) 3 d.fin _ _ _ (hhd.mono hG) zh) rfl ?_;clear H;rintro v27 _ _ a w ⟨rfl,rfl,rfl⟩ FN H;dsimp only [lca,bK] at H;exact fin H FN (rfl)
 ·refine dL 7 31 10 34 rfl rfl fun _ a w G1 hG HT H fin=>?_;refine kH H (Pf (aX c0) rfl ?_);clear H;intro a H;exact fin H iJ (by show _=_;first|exact dG (aI c1).symm|exact dG (by simp [c0]))
 ·refine dL 14 38 12 36 rfl rfl fun _ a w G1 hG HT H fin=>?_;refine kH H (YL uD (aX c1) rfl ?_);clear H;intro a H;exact fin H iJ (by show _=_;first|rfl|exact aB (fun n:Nat=>vi n) hdl)
 ·refine dL 12 36 16 40 rfl rfl fun _ a w G1 hG HT H fin=>?_;refine kH H (Pf (aX c1) rfl ?_);clear H;intro a H;exact fin H iJ (by show _=_;first|exact dG (iO (Or.inl c1)).symm|exact dG (by simp [sj,c1]))
 ·refine eu 17 41 rfl rfl fun _ a w G1 hG HT H fin=>?_;refine s_call jQ H wn rfl (jU _ _ H.ro _ 21) rfl ?_;clear H;rintro v42 Nl a w ⟨rfl,-⟩ FQ H;exact fin H FQ (rfl)
 clear H;intro a w G gM H hv;have H:=H.aN (hv 3 27 rfl rfl) rfl;have H:=H.aN (hv 18 42 rfl rfl) rfl;clear hv;refine gQ qz iD [_,_] [_,_] H wn rfl rfl rfl rfl rfl (by intro i q h;match i,h with|0,h=>exact h|1,h=>exact h|n+2,h=>simp at h) rfl rfl ?_;clear H;intro Yc a w aaA H;obtain ⟨J6,CY,Lg,H⟩:=H.eB;have Et:=fun b o h=>CY b o (gM b o h);replace hfl:=hfl.mono Et;replace hck:=hck.mono Et;refine s_call rT H wn rfl (rU _ _ H.ro _ _ (zo Lg)) rfl ?_;clear H;rintro v44 _ a w ⟨rfl,rfl⟩ - H;refine kH H (Ra rfl ?_);clear H;intro a H;refine aC ⟨rfl,?_⟩;refine K9 _ _ ?_;clear K9;refine kP H (SR fun _ yJ=>Rm rfl (Rc rfl (Kz yJ (Cd rfl ?_ ?_)))) <;> clear H yJ
 ·intro h46 a H
  try have p46:=dT h46
  have hE:iy d=dY [gN d.ku 3 d.fin,dh (sj d.fin.marks) 21]:=by rw [iy,dY,ah (by simpa using e1),dY,ak p46]
  exact kP H (SR fun _ AO=>Rm rfl (aF AO rfl (LR results21 rfl fun H=>H.rt (by rw [hE]))))
 intro h46 a H
 try have p46:=dF h46
 have e2:=nT.1 p46;refine kP H (Kc K8 (SQ fun _ AQ=>SR fun _ AU=>Rm rfl (dU vO lS 1 rfl rfl ?_)));clear H K8;intro a H;refine jl MJ [_,_,_] H wn rfl rfl rfl rfl ?_;clear H;intro a H;refine gK KJ (Li:=[_,_]) (L:=gy b ms ml mr mb mu 0 :: (mb,eZ []) :: []) H wn rfl (PD 4294967297 (by omega) _ _ _ d.gU.styles d.gU.lists d.revs b ms ml mr mb mu ⟨0,[]⟩ d.flow _ true false 0 hck (Hp.owns (Li:=[_,_]) H.hp) hfl (by omega) (by omega) (by omega) (by decide) (by dsimp only;omega)) rfl ?_;clear H;rintro v52 _ _ a w ⟨rfl,s3,rfl,rfl,h3⟩ - H;dsimp only [lca,bK] at H;refine kH H (aF AU rfl (SR fun _ DU=>Rm rfl (Rc rfl (Kz DU (Cd rfl ?_ ?_))))) <;> clear H AU DU
 ·intro ng a H
  try have p54:=dT ng
  have hE:iy d=(jE d.ku true false 0 d.flow ⟨0,[]⟩).1:=by rw [iy,dY,ah (by simpa using e1),dY,ah (by simpa using e2),dY,ak p54]
  exact kP H (SR fun _ Fj=>Rm rfl (aF Fj rfl (LR results21 rfl fun H=>H.rt (by rw [hE]))))
 intro ng a H
 try have p54:=dF ng
 have e3:=nT.1 p54;have hs3:=h3 e3;subst hs3;refine kP H (Kc AQ (SR fun _ J8=>Rm rfl (Rk rfl (dU FC aT 2 rfl rfl (Rc rfl ?_)))));clear H AQ;intro a H;refine s_call jQ H wn rfl (jU _ _ H.ro _ 9) rfl ?_;clear H;rintro v61 _ a w ⟨rfl,rfl⟩ - H
 have hE:iy d=dh (decide (16384 < (jE d.ku true false 0 d.flow ⟨0,[]⟩).2.n)) 9:=by rw [iy,dY,ah (by simpa using e1),dY,ah (by simpa using e2),dY,ah (by simpa using e3)];exact Tx _
 exact kH H (aF J8 rfl (LR results21 rfl fun H=>H.rt (by rw [hE])))
def P7 (body note:Bool) (t k i:Int):Prop:=(k=3→body=true)∧(k=6→note=false)∧(k=7→t < 4)∧(k=8→1≤i∧i≤1073741824)
mutual
def kY (C:bC) (body note:Bool) (t:Int):ay→Prop
 | .mk k c i tx h f r=>kI (.mk k c i tx h f r)=0∧P7 body note t k i∧gN C k h=0∧(k=6→iC C false true t f)∧(k=7→(r.length≠0∧r.length≤256)∧jY C note (t+1) r)
def oU (C:bC) (note:Bool) (t:Int):aU→Prop
 | .mk h cs=>Dn C h cs.length=0∧kK C note t cs
def oQ (C:bC) (note:Bool) (t:Int):aZ→Prop
 | .mk _ h f=>gN C 10 h=0∧iC C false note t f
def iC (C:bC) (body note:Bool) (t:Int):List ay→Prop
 | []=>True
 | x :: l=>kY C body note t x∧iC C body note t l
def jY (C:bC) (note:Bool) (t:Int):List aU→Prop
 | []=>True
 | x :: l=>oU C note t x∧jY C note t l
def kK (C:bC) (note:Bool) (t:Int):List aZ→Prop
 | []=>True
 | x :: l=>oQ C note t x∧kK C note t l
end
theorem Dl {C:bC} {body note:Bool} {t:Int}:∀ {l:List ay},iC C body note t l↔∀ x∈l,kY C body note t x
 | []=>by simp [iC]
 | x :: l=>by rw [iC,Dl (l:=l)];simp
theorem P5 {C:bC} {note:Bool} {t:Int}:∀ {l:List aU},jY C note t l↔∀ x∈l,oU C note t x
 | []=>by simp [jY]
 | x :: l=>by rw [jY,P5 (l:=l)];simp
theorem PY {C:bC} {note:Bool} {t:Int}:∀ {l:List aZ},kK C note t l↔∀ x∈l,oQ C note t x
 | []=>by simp [kK]
 | x :: l=>by rw [kK,PY (l:=l)];simp
mutual
/-- The units that a check counts. -/
def uI:ay→Nat
 | .mk k _ _ tx _ f r=>(if k=1 then tT tx else 1)+(if k=6 then jM f else if k=7 then om r else 0)
def uR:aU→Nat
 | .mk _ cs=>pq cs
def uC:aZ→Nat
 | .mk _ _ f=>jM f
def jM:List ay→Nat
 | []=>0
 | x :: l=>uI x+jM l
def om:List aU→Nat
 | []=>0
 | x :: l=>uR x+om l
def pq:List aZ→Nat
 | []=>0
 | x :: l=>uC x+pq l
end
def kg (us bN ids:List Int):Prop:=(∀ i∈ids,(1≤i∧i≤1073741824)∧i∉us∧i∉bN)∧ids.Nodup
theorem kg.nil (us bN:List Int):kg us bN []:=⟨fun _ h=>(by cases h),List.nodup_nil⟩
theorem kg.app {us bN a b:List Int}:kg us bN (a++b)↔kg us bN a∧kg us (bN++a) b:=by
 unfold kg
 rw [List.nodup_append]
 constructor
 ·rintro ⟨h,h1,h2,h3⟩;exact ⟨⟨fun i hi=>h i (List.mem_append_left _ hi),h1⟩,fun i hi=>⟨(h i (List.mem_append_right _ hi)).1,(h i (List.mem_append_right _ hi)).2.1,fun hm=>(mJ.1 hm).elim (h i (List.mem_append_right _ hi)).2.2 fun ha=>h3 i ha i hi rfl⟩,h2⟩
 rintro ⟨⟨h,h1⟩,h2,h3⟩;exact ⟨fun i hi=>(mJ.1 hi).elim (h i) fun hb=>⟨(h2 i hb).1,(h2 i hb).2.1,fun hm=>(h2 i hb).2.2 (List.mem_append_left _ hm)⟩,h1,h3,fun i hi j hj e=>(h2 j hj).2.2 (List.mem_append_right _ (e ▸ hi))⟩
theorem kg.sub {us bN a b:List Int} (h:kg us bN a) (hs:b.Sublist a):kg us bN b:=⟨fun i hi=>h.1 i (hs.subset hi),hs.nodup h.2⟩
theorem D7 {r:CR} {f:CS→CR} {s':CS}:gF r f=(0,s')↔∃ m,r=(0,m)∧f m=(0,s'):=by
 constructor
 ·intro h;obtain ⟨h1,h2⟩:=mV h;exact ⟨r.2,Prod.ext h1 rfl,h2⟩
 rintro ⟨m,rfl,h⟩;rw [Ih rfl];exact h
theorem xL {e:Int} {s m:CS}:((e,s):CR)=(0,m)↔e=0∧m=s:=by rw [iG,@eq_comm _ s m]
theorem Vq {C:bC} {s m:CS} {x:Int}:kQ C s x=(0,m)↔kg C.us s.bN [x]∧m=⟨s.n,s.bN++[x]⟩:=by
 unfold kQ
 rw [xL]
 have he:qN C.us s.bN x=0↔kg C.us s.bN [x]:=by
  unfold qN kg
  by_cases h0:¬ (1≤x∧x≤1073741824)∨x∈C.us
  ·rw [ak h0];refine ⟨fun h=>(by cases h),fun h=>?_⟩;have:=h.1 x (List.mem_singleton_self _);exact absurd h0 (by rintro (h1|h1);exact h1 this.1;exact this.2.1 h1)
  rw [ah h0]
  by_cases h1:x∈s.bN
  ·rw [ak h1];exact ⟨fun h=>(by cases h),fun h=>absurd h1 (h.1 x (List.mem_singleton_self _)).2.2⟩
  rw [ah h1];refine ⟨fun _=>⟨fun i hi=>?_,by simp⟩,fun _=>rfl⟩;rw [tL.1 hi];exact ⟨nT.1 fun h=>h0 (.inl h),fun h=>h0 (.inr h),h1⟩
 rw [he]
 constructor
 ·rintro ⟨h,rfl⟩;exact ⟨h,by rw [kN,ak (he.2 h)]⟩
 rintro ⟨h,rfl⟩;exact ⟨h,by rw [kN,ak (he.2 h)]⟩
theorem tu {b:Bool} {e:Int} (he:e≠0):dh b e=0↔b=false:=by cases b <;> simp [dh,he]
theorem aqz {C:bC} {body note:Bool} {t k i:Int} {s m:CS}:nE C body note t k i s=(0,m)↔P7 body note t k i∧kg C.us s.bN (if k=6∨k=7 then [i] else [])∧m=⟨s.n,s.bN++(if k=6∨k=7 then [i] else [])⟩:=by
 unfold nE P7
 by_cases h3:k=3
 ·subst h3;rw [ak rfl,xL,tu (by decide)];cases body <;> simp [kg.nil]
 rw [ah h3]
 by_cases h6:k=6
 ·subst h6;rw [ak rfl,D7]
  simp only [xL,tu (show (19:Int)≠0 by decide),Vq]
  constructor
  ·rintro ⟨_,⟨h1,rfl⟩,h2,h4⟩;exact ⟨⟨fun h=>absurd h (by decide),fun _=>h1,fun h=>absurd h (by decide),fun h=>absurd h (by decide)⟩,by simpa using h2,by simpa using h4⟩
  rintro ⟨⟨-,h1,-,-⟩,h2,h4⟩;exact ⟨s,⟨h1 trivial,rfl⟩,by simpa using h2,by simpa using h4⟩
 rw [ah h6]
 by_cases h7:k=7
 ·subst h7;rw [ak rfl,D7]
  simp only [xL,tu (show (17:Int)≠0 by decide),Vq,mU,Int.not_le]
  constructor
  ·rintro ⟨_,⟨h1,rfl⟩,h2,h4⟩;exact ⟨⟨fun h=>absurd h (by decide),fun h=>absurd h (by decide),fun _=>h1,fun h=>absurd h (by decide)⟩,by simpa using h2,by simpa using h4⟩
  rintro ⟨⟨-,-,h1,-⟩,h2,h4⟩;exact ⟨s,⟨h1 trivial,rfl⟩,by simpa using h2,by simpa using h4⟩
 rw [ah h7,ah (show ¬ (k=6∨k=7) by omega),fZ]
 by_cases h8:k=8
 ·rw [ak h8,xL,tu (by decide)]
  simp [h3,h6,h7,h8,kg.nil]
 rw [ah h8,xL];simp [h3,h6,h7,h8,kg.nil]
theorem arn {n:Nat} {f:CS→CR} {s s':CS}:mM n f s=(0,s')↔(n≠0∧n≤256)∧f s=(0,s'):=by
 unfold mM
 split
 ·rename_i h;simp [h]
 rename_i h
 split
 ·rename_i h2;simp [show ¬ n≤256 by omega]
 rename_i h2;simp [h,show n≤256 by omega]
mutual
theorem agK (C:bC) (body note:Bool) (t:Int):∀ (x:ay) (s s':CS),fD C body note t x s=(0,s')↔kY C body note t x∧kg C.us s.bN (qM x)∧s'=⟨s.n+(uI x:Nat),s.bN++qM x⟩
 | .mk k c i tx h f r,s,s'=>by
  have hf:=Ky C false true t f;have hr:=Yr C note (t+1) r;rw [fD,kY,qM,uI]
  simp only [D7,xL,aqz]
  by_cases h6:k=6
  ·subst h6
   simp only [if_true,hf,kg.app,true_or,ah (show ¬ (6:Int)=7 by decide),ah (show ¬ (6:Int)=1 by decide),fZ]
   constructor
   ·rintro ⟨_,⟨h1,rfl⟩,_,⟨h2,h3,rfl⟩,_,⟨h4,rfl⟩,h5,h7,rfl⟩;exact ⟨⟨h1,h2,h4,fun _=>h5,fun h=>absurd h (by decide)⟩,⟨h3,h7⟩,by rw [jm];congr 1;push_cast;omega⟩
   rintro ⟨⟨h1,h2,h4,h5,-⟩,⟨h3,h7⟩,rfl⟩;exact ⟨s,⟨h1,rfl⟩,_,⟨h2,h3,rfl⟩,_,⟨h4,rfl⟩,h5 trivial,h7,by rw [jm];congr 1;push_cast;omega⟩
  by_cases h7:k=7
  ·subst h7
   simp only [if_true,arn,hr,kg.app,or_true,ah (show ¬ (7:Int)=6 by decide),ah (show ¬ (7:Int)=1 by decide),oL]
   constructor
   ·rintro ⟨_,⟨h1,rfl⟩,_,⟨h2,h3,rfl⟩,_,⟨h4,rfl⟩,h0,h5,h8,rfl⟩;exact ⟨⟨h1,h2,h4,fun h=>absurd h (by decide),fun _=>⟨h0,h5⟩⟩,⟨h3,h8⟩,by rw [jm];congr 1;push_cast;omega⟩
   rintro ⟨⟨h1,h2,h4,-,h5⟩,⟨h3,h8⟩,rfl⟩;exact ⟨s,⟨h1,rfl⟩,_,⟨h2,h3,rfl⟩,_,⟨h4,rfl⟩,(h5 trivial).1,(h5 trivial).2,h8,by rw [jm];congr 1;push_cast;omega⟩
  simp only [ah h6,ah h7,ah (show ¬ (k=6∨k=7) by omega),fZ,xL]
  constructor
  ·rintro ⟨_,⟨h1,rfl⟩,_,⟨h2,h3,rfl⟩,_,⟨h4,rfl⟩,-,rfl⟩;exact ⟨⟨h1,h2,h4,fun h=>absurd h h6,fun h=>absurd h h7⟩,kg.nil _ _,by simp⟩
  rintro ⟨⟨h1,h2,h4,-,-⟩,h3,rfl⟩;exact ⟨s,⟨h1,rfl⟩,_,⟨h2,kg.nil _ _,rfl⟩,_,⟨h4,rfl⟩,aL,by simp⟩
theorem agL (C:bC) (note:Bool) (t:Int):∀ (x:aU) (s s':CS),ze C note t x s=(0,s')↔oU C note t x∧kg C.us s.bN (uW x)∧s'=⟨s.n+(uR x:Nat),s.bN++uW x⟩
 | .mk h cs,s,s'=>by
  have hc:=Yq C note t cs;rw [ze,oU,uW,uR]
  simp only [D7,xL,hc]
  constructor
  ·rintro ⟨_,⟨h1,rfl⟩,h2,h3⟩;exact ⟨⟨h1,h2⟩,h3⟩
  rintro ⟨⟨h1,h2⟩,h3⟩;exact ⟨s,⟨h1,rfl⟩,h2,h3⟩
theorem agJ (C:bC) (note:Bool) (t:Int):∀ (x:aZ) (s s':CS),cellC C note t x s=(0,s')↔oQ C note t x∧kg C.us s.bN (vZ x)∧s'=⟨s.n+(uC x:Nat),s.bN++vZ x⟩
 | .mk i h f,s,s'=>by
  have hf:=Ky C false note t f;rw [cellC,oQ,vZ,uC,show i :: iZ f=[i]++iZ f from rfl]
  simp only [D7,xL,hf,Vq,kg.app]
  constructor
  ·rintro ⟨_,⟨h1,rfl⟩,_,⟨h2,rfl⟩,h3,h4,rfl⟩;exact ⟨⟨h2,h3⟩,⟨h1,h4⟩,by rw [jm]⟩
  rintro ⟨⟨h2,h3⟩,⟨h1,h4⟩,rfl⟩;exact ⟨_,⟨h1,rfl⟩,_,⟨h2,rfl⟩,h3,h4,by rw [jm]⟩
theorem Ky (C:bC) (body note:Bool) (t:Int):∀ (l:List ay) (s s':CS),jE C body note t l s=(0,s')↔iC C body note t l∧kg C.us s.bN (iZ l)∧s'=⟨s.n+(jM l:Nat),s.bN++iZ l⟩
 | [],s,s'=>by rw [jE,iC,iZ,jM,xL];simp [kg.nil]
 | x :: r,s,s'=>by
  have h1:=agK C body note t x;have h2:=Ky C body note t r;rw [jE,iC,iZ,jM]
  simp only [D7,h1,h2,kg.app]
  constructor
  ·rintro ⟨_,⟨q1,q2,rfl⟩,q3,q4,rfl⟩;exact ⟨⟨q1,q3⟩,⟨q2,q4⟩,by rw [jm];congr 1;push_cast;omega⟩
  rintro ⟨⟨q1,q3⟩,⟨q2,q4⟩,rfl⟩;exact ⟨_,⟨q1,q2,rfl⟩,q3,q4,by rw [jm];congr 1;push_cast;omega⟩
theorem Yr (C:bC) (note:Bool) (t:Int):∀ (l:List aU) (s s':CS),iN C note t l s=(0,s')↔jY C note t l∧kg C.us s.bN (nu l)∧s'=⟨s.n+(om l:Nat),s.bN++nu l⟩
 | [],s,s'=>by rw [iN,jY,nu,om,xL];simp [kg.nil]
 | x :: r,s,s'=>by
  have h1:=agL C note t x;have h2:=Yr C note t r;rw [iN,jY,nu,om]
  simp only [D7,h1,h2,kg.app]
  constructor
  ·rintro ⟨_,⟨q1,q2,rfl⟩,q3,q4,rfl⟩;exact ⟨⟨q1,q3⟩,⟨q2,q4⟩,by rw [jm];congr 1;push_cast;omega⟩
  rintro ⟨⟨q1,q3⟩,⟨q2,q4⟩,rfl⟩;exact ⟨_,⟨q1,q2,rfl⟩,q3,q4,by rw [jm];congr 1;push_cast;omega⟩
theorem Yq (C:bC) (note:Bool) (t:Int):∀ (l:List aZ) (s s':CS),qG C note t l s=(0,s')↔kK C note t l∧kg C.us s.bN (nY l)∧s'=⟨s.n+(pq l:Nat),s.bN++nY l⟩
 | [],s,s'=>by rw [qG,kK,nY,pq,xL];simp [kg.nil]
 | x :: r,s,s'=>by
  have h1:=agJ C note t x;have h2:=Yq C note t r;rw [qG,kK,nY,pq]
  simp only [D7,h1,h2,kg.app]
  constructor
  ·rintro ⟨_,⟨q1,q2,rfl⟩,q3,q4,rfl⟩;exact ⟨⟨q1,q3⟩,⟨q2,q4⟩,by rw [jm];congr 1;push_cast;omega⟩
  rintro ⟨⟨q1,q3⟩,⟨q2,q4⟩,rfl⟩;exact ⟨_,⟨q1,q2,rfl⟩,q3,q4,by rw [jm];congr 1;push_cast;omega⟩
end
theorem alh {a b c d:Int}:dY [a,b,c,d]=0↔a=0∧b=0∧c=0∧d=0:=by
 constructor
 ·intro h;have z:=kG h;exact ⟨z _ (by simp),z _ (by simp),z _ (by simp),z _ (by simp)⟩
 rintro ⟨rfl,rfl,rfl,rfl⟩;rfl
theorem Ox {a b:Int}:dY [a,b]=0↔a=0∧b=0:=by
 constructor
 ·intro h;have z:=kG h;exact ⟨z _ (by simp),z _ (by simp)⟩
 rintro ⟨rfl,rfl⟩;rfl
theorem Bl (d:fT):iy d=0↔(Kw d.gU=0∧Cv d.revs=0)∧(gN d.ku 3 d.fin=0∧sj d.fin.marks=false)∧iC d.ku true false 0 d.flow∧kg [] [] (iZ d.flow)∧jM d.flow≤16384:=by
 unfold iy
 rw [alh,Ox,Ox,tu (by decide),tu (by decide),mU]
 constructor
 ·rintro ⟨h1,h2,h3,h4⟩;obtain ⟨q1,q2,q3⟩:=(Ky d.ku true false 0 d.flow ⟨0,[]⟩ _).1 (Sb h3);rw [q3] at h4;dsimp only at h4;exact ⟨h1,h2,q1,q2,by omega⟩
 rintro ⟨h1,h2,q1,q2,q3⟩;have h:=(Ky d.ku true false 0 d.flow ⟨0,[]⟩ _).2 ⟨q1,q2,rfl⟩;rw [h];exact ⟨h1,h2,rfl,by dsimp only;omega⟩
def rE (z y:ay):ay:=.mk z.kind z.code z.id (z.text++y.text) z.head z.flow z.rows
def vM (y:ay):Prop:=(y.kind=7∧y.rows.length=0)∨(y.kind=1∧y.text.size=0)
def um (z y:ay):Prop:=y.kind=1∧z.kind=1∧z.head=y.head
instance (y:ay):Decidable (vM y):=inferInstanceAs (Decidable (_∨_))
instance (z y:ay):Decidable (um z y):=inferInstanceAs (Decidable (_∧_∧_))
def addN (out:List ay) (y:ay):List ay :=
 if vM y then out else match out.getLast? with
  | none=>out++[y]
  | some z=>if um z y then out.dropLast++[rE z y] else out++[y]
theorem RG {out:List ay} {y:ay} (h:vM y):addN out y=out:=ak h
theorem DZ {out:List ay} {y:ay} (h:¬ vM y) (hj:∀ o z,out=o++[z]→¬ um z y):addN out y=out++[y]:=by
 unfold addN
 rw [ah h]
 split
 ·rfl
 rename_i z hz
 obtain ⟨o,rfl⟩:=List.getLast?_eq_some_iff.1 hz;rw [ah (hj o z rfl)]
theorem ND {o:List ay} {z y:ay} (h:¬ vM y) (hj:um z y):addN (o++[z]) y=o++[rE z y]:=by
 unfold addN
 rw [ah h,List.getLast?_concat];dsimp only;rw [ak hj,List.dropLast_concat]
theorem X5 (out:List ay) (y:ay):addN out y=out∨addN out y=out++[y]∨∃ o z,out=o++[z]∧z.kind=1∧y.kind=1∧addN out y=o++[rE z y]:=by
 by_cases h:vM y
 ·exact .inl (RG h)
 by_cases hj:∃ o z,out=o++[z]∧um z y
 ·obtain ⟨o,z,rfl,hj⟩:=hj;exact .inr (.inr ⟨o,z,rfl,hj.2.1,hj.1,ND h hj⟩)
 exact .inr (.inl (DZ h fun o z e hz=>hj ⟨o,z,e,hz⟩))
mutual
/-- What becomes of an item in a normal form, of rows, of cells. -/
def nI:ay→ay
 | .mk k c i t h f r=>.mk k c i t h ((rG f).foldl addN []) (wB r)
def rG:List ay→List ay
 | []=>[]
 | x :: l=>nI x :: rG l
def nR:aU→aU
 | .mk h c=>.mk h (wz c)
def wB:List aU→List aU
 | []=>[]
 | x :: l=>nR x :: wB l
def nC:aZ→aZ
 | .mk i h f=>.mk i h ((rG f).foldl addN [])
def wz:List aZ→List aZ
 | []=>[]
 | x :: l=>nC x :: wz l
end
theorem PS:∀ l:List ay,rG l=l.map nI
 | []=>by simp [rG]
 | x :: l=>by simp [rG,PS l]
theorem PU:∀ l:List aU,wB l=l.map nR
 | []=>by simp [wB]
 | x :: l=>by simp [wB,PU l]
theorem VT:∀ l:List aZ,wz l=l.map nC
 | []=>by simp [wz]
 | x :: l=>by simp [wz,VT l]
def uo (l:List ay) (k:Nat):List ay:=((l.take k).map nI).foldl addN []
def nZ (l:List ay):List ay:=uo l l.length
theorem acC (x:ay):nI x=.mk x.kind x.code x.id x.text x.head (nZ x.flow) (x.rows.map nR):=by
 cases x;rw [nI,PS,PU];simp [nZ,uo,ay.kind,ay.code,ay.id,ay.text,ay.head,ay.flow,ay.rows]
theorem acD (x:aU):nR x=.mk x.head (x.cells.map nC):=by cases x;rw [nR,VT];rfl
theorem apA (x:aZ):nC x=.mk x.id x.head (nZ x.flow):=by cases x;rw [nC,PS];simp [nZ,uo,aZ.id,aZ.head,aZ.flow]
theorem acU {l:List ay} {k:Nat} (h:k < l.length):uo l (k+1)=addN (uo l k) (nI l[k]):=by
 unfold uo;rw [fV h,kV,List.foldl_append];rfl
theorem atx (out:List ay) (y:ay):oh (addN out y)≤oh out+(y.text.size+1):=by
 rcases X5 out y with e|e|⟨o,z,rfl,-,-,e⟩ <;> rw [e]
 ·omega
 ·rw [Hl];simp [oh]
 rw [Hl,Hl];have:(rE z y).text.size=z.text.size+y.text.size:=ByteArray.size_append
 simp only [oh,this];omega
theorem V5 {l:List ay}:∀ {k:Nat},k≤l.length→oh (uo l k)≤oh (l.take k)
 | 0,_=>by simp [uo,oh]
 | k+1,h=>by
  have ih:=V5 (l:=l) (k:=k) (by omega);have h1:=atx (uo l k) (nI l[k])
  have h2:(nI l[k]).text=l[k].text:=by rw [acC];rfl
  rw [h2] at h1;rw [acU (by omega),fV (by omega),Hl]
  simp only [oh];omega
theorem aqc {l:List ay} {k:Nat} (h:k≤l.length):(uo l k).length≤oh l:=by
 have h1:=VG (uo l k);have h2:=V5 h;have h3:=aep l k
 omega
mutual
/-- Tables whose rows all have cells. -/
def Jw:ay→Prop
 | .mk _ _ _ _ _ f r=>uY f∧Dj r
def uY:List ay→Prop
 | []=>True
 | x :: l=>Jw x∧uY l
def EN:aU→Prop
 | .mk _ c=>c≠[]∧EM c
def Dj:List aU→Prop
 | []=>True
 | x :: l=>EN x∧Dj l
def EL:aZ→Prop
 | .mk _ _ f=>uY f
def EM:List aZ→Prop
 | []=>True
 | x :: l=>EL x∧EM l
end
theorem acI:∀ {l:List ay},uY l→∀ x∈l,Jw x
 | [],_,_,h=>by cases h
 | y :: l,h,x,hx=>by
  rw [uY] at h
  rcases iX.1 hx with rfl|hx
  ·exact h.1
  exact acI h.2 x hx
theorem VW:∀ {l:List aU},Dj l→∀ x∈l,EN x
 | [],_,_,h=>by cases h
 | y :: l,h,x,hx=>by
  rw [Dj] at h
  rcases iX.1 hx with rfl|hx
  ·exact h.1
  exact VW h.2 x hx
theorem acH:∀ {l:List aZ},EM l→∀ x∈l,EL x
 | [],_,_,h=>by cases h
 | y :: l,h,x,hx=>by
  rw [EM] at h
  rcases iX.1 hx with rfl|hx
  ·exact h.1
  exact acH h.2 x hx
theorem apE (x:ay):Jw x=(uY x.flow∧Dj x.rows):=by cases x;rw [Jw];rfl
theorem acJ (x:aU):EN x=(x.cells≠[]∧EM x.cells):=by cases x;rw [EN];rfl
theorem apD (x:aZ):EL x=uY x.flow:=by cases x;rw [EL];rfl
theorem RL {a b:ByteArray} {i:Nat} (h:i < a.size):gH (a++b) i=gH a i:=by
 rw [mD h,mD (by rw [ByteArray.size_append];omega),ByteArray.getElem_append_left h]
theorem RN (a b:ByteArray) (j:Nat):gH (a++b) (a.size+j)=gH b j:=by
 by_cases h:j < b.size
 ·rw [mD h,mD (by rw [ByteArray.size_append];omega),ByteArray.getElem_append_right (by omega)]
  congr 2
  simp
 unfold gH
 rw [dif_neg (by rw [ByteArray.size_append];omega),dif_neg h]
theorem YQ {a b:ByteArray} {t n:Nat}:∀ (f k:Nat) (low high p:Int),(qI a t n f k low high p).2.2=true→qI (a++b) t n f k low high p=qI a t n f k low high p
 | 0,_,_,_,_,_=>rfl
 | f+1,k,low,high,p,h=>by
  unfold qI at h ⊢
  by_cases h1:n≤k
  ·rw [ak h1,ak h1]
  rw [ah h1] at h;rw [ah h1,ah h1]
  by_cases h2:a.size≤t+k∨gH a (t+k) < low∨high < gH a (t+k)
  ·rw [ak h2] at h;cases h
  rw [ah h2] at h
  have h3:t+k < a.size:=by omega
  rw [RL h3,ah h2,ah (by rw [ByteArray.size_append];omega)];exact YQ f (k+1) _ _ _ h
theorem YS (a b:ByteArray) (j n:Nat):∀ (f k:Nat) (low high p:Int),qI (a++b) (a.size+j) n f k low high p=qI b j n f k low high p
 | 0,_,_,_,_=>rfl
 | f+1,k,low,high,p=>by
  unfold qI
  have e:gH (a++b) (a.size+j+k)=gH b (j+k):=by rw [Nat.add_assoc];exact RN a b (j+k)
  have e2:((a++b).size≤a.size+j+k)↔(b.size≤j+k):=by rw [ByteArray.size_append];omega
  rw [e,YS a b j n f]
  simp only [e2]
theorem YU {a b:ByteArray} {i:Nat} (hi:i < a.size) (h:(lI a i).2.2=true):lI (a++b) i=lI a i:=by
 unfold lI at h ⊢
 simp only [RL hi] at h ⊢
 split
 ·rfl
 rename_i h1
 rw [ah h1] at h
 split
 ·rfl
 rename_i h2
 rw [ah h2] at h;exact YQ _ _ _ _ _ h
theorem YV (a b:ByteArray) (j:Nat):lI (a++b) (a.size+j)=lI b j:=by
 unfold lI
 simp only [RN,YS]
theorem alj (a b:ByteArray):∀ (n j:Nat),b.size - j=n→tY b j < 0→tY (a++b) (a.size+j) < 0:=by
 intro n
 induction n using Nat.strongRecOn with
 | _ n ih =>
  intro j hn h;rw [tY]
  by_cases hj:j < b.size
  ·rw [tY,dif_pos hj] at h;rw [dif_pos (by rw [ByteArray.size_append];omega)]
   by_cases hd:(lI b j).2.2=true
   ·rw [dif_pos hd] at h;have hs:=(Oa b j hj).2 hd;rw [dif_pos (by rw [YV];exact hd),YV,Nat.add_assoc];exact ih _ (by omega) (j+(lI b j).2.1) rfl h
   rw [dif_neg hd] at h;omega
  rw [dif_neg (by rw [ByteArray.size_append];omega)];decide
theorem ali (a b:ByteArray) (hb:tY b 0 < 0):∀ (n i:Nat),a.size - i=n→i≤a.size→tY a i < 0→tY (a++b) i < 0:=by
 intro n
 induction n using Nat.strongRecOn with
 | _ n ih =>
  intro i hn hi h
  by_cases hj:i < a.size
  ·rw [tY,dif_pos hj] at h;rw [tY,dif_pos (by rw [ByteArray.size_append];omega)]
   by_cases hd:(lI a i).2.2=true
   ·rw [dif_pos hd] at h;have hs:=(Oa a i hj).2 hd;rw [dif_pos (by rw [YU hj hd];exact hd),YU hj hd];exact ih _ (by omega) (i+(lI a i).2.1) rfl hs.2 h
   rw [dif_neg hd] at h;omega
  obtain rfl:i=a.size:=by omega
  exact alj a b b.size 0 rfl hb
theorem aeM {a b:ByteArray} (ha:rM a=true) (hb:rM b=true):rM (a++b)=true:=by
 unfold rM at *
 exact iO (ali a b (nS hb) a.size 0 rfl (iH _) (nS ha))
theorem Yz (a b:ByteArray):∀ (n j:Nat),b.size - j=n→qH (a++b) (a.size+j)=qH b j
 | 0,j,h=>by
  rw [qH.eq_def (a++b),qH.eq_def b,ah (show ¬ a.size+j < (a++b).size by rw [ByteArray.size_append];omega),ah (show ¬ j < b.size by omega)]
 | n+1,j,h=>by
  have ih:=Yz a b n (j+1) (by omega);rw [qH.eq_def (a++b),qH.eq_def b,ak (show a.size+j < (a++b).size by rw [ByteArray.size_append];omega),ak (show j < b.size by omega),RN,Nat.add_assoc,ih]
theorem Yy (a b:ByteArray):∀ (n i:Nat),a.size - i=n→i≤a.size→qH (a++b) i=qH a i+qH b 0
 | 0,i,h,hi=>by
  obtain rfl:i=a.size:=by omega
  rw [qH.eq_def a a.size,ah (Nat.lt_irrefl _),gD];exact Yz a b b.size 0 rfl
 | n+1,i,h,hi=>by
  have ih:=Yy a b n (i+1) (by omega) (by omega);rw [qH.eq_def (a++b),qH.eq_def a i,ak (show i < (a++b).size by rw [ByteArray.size_append];omega),ak (show i < a.size by omega),RL (show i < a.size by omega),ih,Nat.add_assoc]
theorem ahk {a b:ByteArray} (ha:rM a=true) (hb:rM b=true):tT (a++b)=tT a+tT b:=by
 unfold tT
 rw [ak ha,ak hb,ak (aeM ha hb)];exact Yy a b a.size 0 rfl (iH _)
def DY (s:CS) (z:Nat) (r:CR):Prop:=r.2.bN.length≤s.bN.length+z
theorem DY.and {s:CS} {z y q:Nat} {r:CR} {f:CS→CR} (h:DY s z r) (hq:z+y≤q) (hf:∀ s,DY s y (f s)):DY s q (gF r f):=by
 unfold DY at *
 unfold gF
 split
 ·omega
 have:=hf r.2
 omega
theorem DY.zero (s:CS) (e:Int) (q:Nat):DY s q (e,s):=by unfold DY;dsimp only;omega
structure Nc where
 code:Int
 id:Int
 name:ByteArray
 flow:Int
 at_:Int
def Nc.dat (x:Nc):List Dat:=[li x.code,li x.id,.lf (.string x.name),li x.flow,li x.at_]
abbrev Nc.cells (x:Nc):List aj:=[vi x.code,vi x.id,.string x.name,vi x.flow,vi x.at_]
def Xr (P:Program) (fv:aj) (Gi:GH) (xs:List AP) (J:Nat→GH→OL→Prop):Prop :=
 ∀ k args G L w,yE xs k args G→(∀ b o,Gi b=some o→G b=some o)→J k G L→gG G L w→rO P fv args w (fP w G L fun _ G' L'=>J (k+1) G' L')
instance Ho:Ty prog 137 1 8 [.nilFunc] false:=⟨by kernel_rfl,by kernel_rfl⟩
instance Hq:Ty prog 41 1 24 [.slice none 0 0] false:=⟨by kernel_rfl,by kernel_rfl⟩
def MU (A:List qB):Int:=A.foldl (fun n f=>n+EI f.items) 0
theorem SY:∀ args w,(callFunc 88 args).run prog w=.ok (.enter 88 args) w:=enters func88 rfl (by kernel_rfl)
mutual
/-- The heads of items, rows and cells, in document order. -/
def zT:ay→List dP
 | .mk k _ _ _ h f r=>h :: ((if k=6 then jS f else [])++(if k=7 then oN r else []))
def jS:List ay→List dP
 | []=>[]
 | x :: r=>zT x++jS r
def Er:aU→List dP
 | .mk h c=>h :: qh c
def oN:List aU→List dP
 | []=>[]
 | x :: r=>Er x++oN r
def Eo:aZ→List dP
 | .mk _ h f=>h :: jS f
def qh:List aZ→List dP
 | []=>[]
 | x :: r=>Eo x++qh r
end
theorem alS (x:ay):zT x=x.head :: ((if x.kind=6 then jS x.flow else [])++(if x.kind=7 then oN x.rows else [])):=by cases x;rw [zT];rfl
theorem amj (x:aU):Er x=x.head :: qh x.cells:=by cases x;rw [Er];rfl
theorem alC (x:aZ):Eo x=x.head :: jS x.flow:=by cases x;rw [Eo];rfl
def FV (h:dP):AP:=fun args G=>∃ p d y:Option Addr × Nat × Nat,args=[.agg #[aQ p,vi h.marks.ins,vi h.marks.move,aQ d,aQ y]]∧iA G h (aQ p) (aQ d) (aQ y)
theorem UL {G:GH} {h:dP} {pA dA yA:Option Addr} {pn pc dn dc yn yc:Nat} (hr:iA G h (.slice pA pn pc) (.slice dA dn dc) (.slice yA yn yc)):FV h [.agg #[.slice pA pn pc,vi h.marks.ins,vi h.marks.move,.slice dA dn dc,.slice yA yn yc]] G:=⟨(pA,pn,pc),(dA,dn,dc),(yA,yn,yc),rfl,hr⟩
def Rb (n:Nat):Prop:=∀ (fv:aj) (Gi:GH) (xs:List AP) (J:Nat→GH→OL→Prop) (G:GH) (L:OL) (w0:World) (j:Nat) (l:List ay) (v:aj),
 (∀ b o,Gi b=some o→G b=some o)→Xr prog fv Gi xs J→H7 J→J j G L→gG G L w0→au G (.sl 11 (l.map ay.dat)) v→cu l < n→(∀ i a,(jS l)[i]?=some a→xs[j+i]?=some (FV a)) →
 Calls prog 88 #[v,fv] w0 (fP w0 G L fun _ G' L'=>J (j+(jS l).length) G' L')
theorem amU {n:Nat} (ih:Rb n) (hn:n≤4294967296):Rb (n+1):=by
 intro fv Gi xs J G L w0 j0 l v hGi hcb Bw hJ0 hO hv hz hx0;obtain ⟨A,c,rfl,hc1,hc2,hg⟩:=hv.slice;rw [bO] at *;have hll:=Hu l;refine jr (N:=59) (T:=[(0,_),(1,_)]) func88 rfl ntmps88 rfl rfl hO ?_;intro a H;refine kP H (SR fun _ K1=>Rm rfl (Rl lT rfl (Rm rfl (Kz K1 (SB ?_)))));clear H K1;intro a H;skip;refine eH (ι:=Nat × Nat × OL × GH) (Tc:=[(1,_),(10,_),(11,_)]) (Lc:=[]) (fun gh=>[(12,vi gh.1)]) (fun gh=>[]++gh.2.2.1) (fun gh=>gh.2.2.2) (fun gh=>gh.1≤l.length∧(∀ b o,G b=some o→gh.2.2.2 b=some o)∧Now xs FV J (j0+(jS l).length) gh.2.1 (jS (l.drop gh.1)) gh.2.2.2 gh.2.2.1) (fun gh=>l.length - gh.1) ((0,j0,L,G)) (by exact (H).sub ⟨rfl,rfl,rfl,rfl,aL⟩) ?_ ?_
 ·exact ⟨by omega,fun _ _ h=>h,⟨hJ0,hx0,rfl⟩⟩
 clear H;rintro ⟨k,j,Lt,g1⟩ a w hI H;dsimp only at hI H;obtain ⟨hk,hgm,jh⟩:=hI;dsimp only [lca,bK] at H;refine kP H (SR fun _ K2=>Rc rfl (Kz K2 (SQ fun _ K3=>Cd rfl ?_ ?_))) <;> clear H K2
 ·intro jD a H
  try have qp:=dT jD
  have hk2:k < l.length:=by omega
  obtain ⟨b,o,pA,pn,pc,dA,dn,dc,yA,yn,yc,fA,fn,fc,rA,rn,rc,rfl,hrow,hhd,hfl,hrw⟩:=FJ hk2 hg;replace hrow:=fun j u hj=>aG hgm (hrow j u hj);replace hhd:=hhd.mono hgm;replace hfl:=hfl.mono hgm;replace hrw:=hrw.mono hgm;have hrn:=hrw.len;rw [bO] at hrn;subst hrn;have hsz1:=JX hk2;rw [qR hk2] at jh
  simp only [jS,alS,jm,oq] at jh
  obtain ⟨x,hx⟩:∃ x,x=l[k]:=⟨_,rfl⟩;rw [← hx] at jh hrow hhd hfl hrw hsz1;have hrl:=JY x.rows;refine kP H (Kc K3 (SQ fun _ K4=>SB (SR fun _ K5=>Ri lT gB rfl rfl ?_)));clear H K3;intro a H;refine aR gB (cs:=[_,_,_,_,_,_,_,_,_,_,_]) H wn rfl rfl (fun j v hj=>H.hp.aH (hrow j v hj)) rfl ?_;clear H;intro a H;refine dJ gB H wn rfl ?_;clear H;intro b5 a w hb5 H;refine aY gB 0 (vs:=[_,_,_,_,_,_,_,_,_,_,_]) _ H wn rfl rfl rfl rfl rfl rfl rfl rfl ?_;clear H;intro w H;dsimp only [List.set,setRow] at H;refine K5 _ _ ?_;clear K5;refine kP H (SR fun _ K6=>Rm rfl (Rf Bt rfl ?_));clear H;intro a H;refine aR dB (cs:=[_,_,_,_,_]) H wn rfl rfl (H.hp.bT 0 rfl rfl) rfl ?_;clear H;intro a H;refine Dq (Li:=[_]) (L:=Lt) H wn rfl rfl (hcb _ _ _ _ _ ⟨_,jh.head,UL hhd⟩ (fun b o h=>hgm b o (hGi b o h)) jh.now (Hp.owns (Li:=[_]) H.hp)) rfl ?_;clear H;intro v19 HV Rx a w alT rW H;have C8:=jh.step alT;refine K6 _ _ ?_;clear K6;refine kP H (SR fun _ K7=>dU vP aT 0 rfl rfl (Kz K7 (SB (SR fun _ K8=>Rc rfl (aF K8 rfl (Cd rfl ?_ ?_)))))) <;> clear H K7 K8
  ·intro h22 a H
   try have jk:=dT h22
   rw [ak jk,ah (by omega),oL] at C8;refine kP H (SC (dU IK lS 0 rfl rfl (Rm rfl ?_)));clear H;intro a H;refine gK SY (Li:=[_]) (L:=Rx) H wn rfl (ih fv Gi xs J _ _ _ (j+1) x.flow _ (fun b o h=>rW b o (hgm b o (hGi b o h))) hcb Bw C8.now (Hp.owns (Li:=[_]) H.hp) (hfl.mono rW) (by omega) C8.part) rfl ?_;clear H;intro v27 Q5 afx a w alU aaP H;refine kH H (Kn K4 (SC (Rd rfl (Rm rfl ?_))));clear H K4;intro a H;refine aC ?_;refine dx ((k+1,j+1+(jS x.flow).length,afx,Q5)) (by exact (H.dX (Pl:=[_]) (dN:=[]) [] (by decide) rfl).sub ⟨rfl,rfl,rfl,rfl,aL⟩) ?_
   (try dsimp only);exact ⟨by omega,fun b o h=>aaP b o (rW b o (hgm b o h)),C8.jump alU⟩
  intro h22 a H
  try have jk:=dF h22
  rw [ah jk,oL] at C8;refine kP H (SR fun _ K9=>Rc rfl (aF K9 rfl (Cd rfl ?_ ?_))) <;> clear H K9
  ·intro nV a H
   try have p28:=dT nV
   rw [ak p28] at C8;refine kP H (SR fun _ eU=>dU FH DC 0 rfl rfl (Rl tq rfl (Rm rfl (Kz eU (SB ?_)))));clear H eU;intro a H;skip;refine eH (ι:=Nat × Nat × OL × GH) (Tc:=[(1,_),(10,_),(11,_),(12,_),(31,_),(32,_)]) (Lc:=[(_,_)]) (fun gh=>[(33,vi gh.1)]) (fun gh=>[]++gh.2.2.1) (fun gh=>gh.2.2.2) (fun gh=>gh.1≤x.rows.length∧(∀ b o,HV b=some o→gh.2.2.2 b=some o)∧Now xs FV J (j0+(jS l).length) gh.2.1 (oN (x.rows.drop gh.1)++jS (l.drop (k+1))) gh.2.2.2 gh.2.2.1) (fun gh=>x.rows.length - gh.1) ((0,j+1,Rx,HV)) (by exact (H).sub ⟨rfl,rfl,rfl,rfl,rfl,rfl,rfl,aL⟩) ?_ ?_
   ·exact ⟨by omega,fun _ _ h=>h,C8⟩
   clear H;rintro ⟨rk,j3,Lt3,g3⟩ a w hI H;dsimp only at hI H;obtain ⟨hrk,hg3,EB⟩:=hI;dsimp only [lca,bK] at H;refine kP H (SR fun _ fQ=>Rc rfl (Kz fQ (SQ fun _ iF=>Cd rfl ?_ ?_))) <;> clear H fQ
   ·intro mZ a H
    try have p34:=dT mZ
    have hk3:rk < x.rows.length:=by omega
    obtain ⟨b2,o2,qA,qn,qc,eA,en,ec,zA,zn,zc,cA,cn,cc,rfl,hrow,Df,hcl⟩:=Mx hk3 ((hrw.mono rW).mono hg3).at_;have hcn:=hcl.len;rw [bO] at hcn;subst hcn;have hsz2:=Na hk3;have hcs:=JW x.rows[rk].cells;rw [qR hk3] at EB
    simp only [oN,amj,jm,oq] at EB
    obtain ⟨y,hy⟩:∃ y,y=x.rows[rk]:=⟨_,rfl⟩;rw [← hy] at EB hrow Df hcl hsz2 hcs;refine kP H (Kc iF (SQ fun _ jd=>SB (SR fun _ iW=>Ri tq jA rfl rfl ?_)));clear H iF;intro a H;refine aR jA (cs:=[_,_,_,_,_,_]) H wn rfl rfl (fun j v hj=>H.hp.aH (hrow j v hj)) rfl ?_;clear H;intro a H;refine dJ jA H wn rfl ?_;clear H;intro b7 a w wT H;refine aY jA 0 (vs:=[_,_,_,_,_,_]) _ H wn rfl rfl rfl rfl rfl rfl rfl rfl ?_;clear H;intro w H;dsimp only [List.set,setRow] at H;refine iW _ _ ?_;clear iW;refine kP H (SR fun _ mq=>Rm rfl (Rf Ot rfl ?_));clear H;intro a H;refine aR dB (cs:=[_,_,_,_,_]) H wn rfl rfl (H.hp.bT 0 rfl rfl) rfl ?_;clear H;intro a H;refine Dq (Li:=[_,_]) (L:=Lt3) H wn rfl rfl (hcb _ _ _ _ _ ⟨_,EB.head,UL Df⟩ (fun b o h=>hg3 b o (rW b o (hgm b o (hGi b o h)))) EB.now (Hp.owns (Li:=[_,_]) H.hp)) rfl ?_;clear H;intro v40 Q7 afy a w alV F4 H;have anD:=EB.step alV;refine mq _ _ ?_;clear mq;refine kP H (SR fun _ oJ=>dU Ej DF 0 rfl rfl (Rl vB rfl (Rm rfl (Kz oJ (SB ?_)))));clear H oJ;intro a H;skip;refine eH (ι:=Nat × Nat × OL × GH) (Tc:=[(1,_),(10,_),(11,_),(12,_),(31,_),(32,_),(33,_),(42,_),(43,_)]) (Lc:=[(_,_),(_,_)]) (fun gh=>[(44,vi gh.1)]) (fun gh=>[]++gh.2.2.1) (fun gh=>gh.2.2.2) (fun gh=>gh.1≤y.cells.length∧(∀ b o,Q7 b=some o→gh.2.2.2 b=some o)∧Now xs FV J (j0+(jS l).length) gh.2.1 (qh (y.cells.drop gh.1)++(oN (x.rows.drop (rk+1))++jS (l.drop (k+1)))) gh.2.2.2 gh.2.2.1) (fun gh=>y.cells.length - gh.1) ((0,j3+1,afy,Q7)) (by exact (H).sub ⟨rfl,rfl,rfl,rfl,rfl,rfl,rfl,rfl,rfl,rfl,aL⟩) ?_ ?_
    ·exact ⟨by omega,fun _ _ h=>h,anD⟩
    clear H;rintro ⟨ck,j4,Lt4,g4⟩ a w hI H;dsimp only at hI H;obtain ⟨hck,hg4,Gj⟩:=hI;dsimp only [lca,bK] at H;refine kP H (SR fun _ qD=>Rc rfl (Kz qD (SQ fun _ pR=>Cd rfl ?_ ?_))) <;> clear H qD
    ·intro h45 a H
     try have p45:=dT h45
     have hk4:ck < y.cells.length:=by omega
     obtain ⟨b3,o3,sA,sn,sc,tA,tn,tc,uA,un,uc,gA,gn,gc,rfl,hrow,hch,hcf⟩:=Kt hk4 ((hcl.mono F4).mono hg4).at_;have avx:=M9 hk4;rw [qR hk4] at Gj
     simp only [qh,alC,jm,oq] at Gj
     refine kP H (Kc pR (SQ fun _ pz=>SB (SR fun _ pU=>Ri vB jL rfl rfl ?_)));clear H pR;intro a H;refine aR jL (cs:=[_,_,_,_,_,_,_]) H wn rfl rfl (fun j v hj=>H.hp.aH (hrow j v hj)) rfl ?_;clear H;intro a H;refine dJ jL H wn rfl ?_;clear H;intro b9 a w uT H;refine aY jL 0 (vs:=[_,_,_,_,_,_,_]) _ H wn rfl rfl rfl rfl rfl rfl rfl rfl ?_;clear H;intro w H;dsimp only [List.set,setRow] at H;refine pU _ _ ?_;clear pU;refine kP H (SR fun _ pV=>Rm rfl (Rf Ou rfl ?_));clear H;intro a H;refine aR dB (cs:=[_,_,_,_,_]) H wn rfl rfl (H.hp.bT 0 rfl rfl) rfl ?_;clear H;intro a H;refine Dq (Li:=[_,_,_]) (L:=Lt4) H wn rfl rfl (hcb _ _ _ _ _ ⟨_,Gj.head,UL hch⟩ (fun b o h=>hg4 b o (F4 b o (hg3 b o (rW b o (hgm b o (hGi b o h)))))) Gj.now (Hp.owns (Li:=[_,_,_]) H.hp)) rfl ?_;clear H;intro v51 XE afz a w alW Jf H;have U0:=Gj.step alW;refine pV _ _ ?_;clear pV;refine kP H (SC (dU Ov lS 0 rfl rfl (Rm rfl ?_)));clear H;intro a H;refine gK SY (Li:=[_,_,_]) (L:=afz) H wn rfl (ih fv Gi xs J _ _ _ (j4+1) y.cells[ck].flow _ (fun b o h=>Jf b o (hg4 b o (F4 b o (hg3 b o (rW b o (hgm b o (hGi b o h))))))) hcb Bw U0.now (Hp.owns (Li:=[_,_,_]) H.hp) (hcf.mono Jf) (by omega) U0.part) rfl ?_;clear H;intro v55 J7 afA a w alX vY H;refine kH H (Kn pz (SC (Rd rfl (Rm rfl ?_))));clear H pz;intro a H;refine aC ?_;refine dx ((ck+1,j4+1+(jS y.cells[ck].flow).length,afA,J7)) (by exact (H.dX (Pl:=[_,_,_]) (dN:=[_,_]) [1,2] (by decide) rfl).sub ⟨rfl,rfl,rfl,rfl,rfl,rfl,rfl,rfl,rfl,rfl,aL⟩) ?_
     (try dsimp only);exact ⟨by omega,fun b o h=>vY b o (Jf b o (hg4 b o h)),U0.jump alX⟩
    intro h45 a H
    try have p45:=dF h45
    refine jI ?_;refine jd _ _ ?_;clear jd;refine kP H (SC (Rd rfl (Rm rfl ?_)));clear H;intro a H;refine aC ?_;refine dx ((rk+1,j4,Lt4,g4)) (by exact (H.dX (Pl:=[_,_]) (dN:=[_]) [1] (by decide) rfl).sub ⟨rfl,rfl,rfl,rfl,rfl,rfl,rfl,aL⟩) ?_
    (try dsimp only);exact ⟨by omega,fun b o h=>hg4 b o (F4 b o (hg3 b o h)),by rw [lG (by omega),qh,oL] at Gj;exact Gj⟩
   intro mZ a H
   try have p34:=dF mZ
   refine jI ?_;refine K4 _ _ ?_;clear K4;refine kP H (SC (Rd rfl (Rm rfl ?_)));clear H;intro a H;refine aC ?_;refine dx ((k+1,j3,Lt3,g3)) (by exact (H.dX (Pl:=[_]) (dN:=[]) [] (by decide) rfl).sub ⟨rfl,rfl,rfl,rfl,aL⟩) ?_
   (try dsimp only);exact ⟨by omega,fun b o h=>hg3 b o (rW b o (hgm b o h)),by rw [lG (by omega),oN,oL] at EB;exact EB⟩
  intro nV a H
  try have p28:=dF nV
  rw [ah p28,oL] at C8;refine kP H (Kc K4 (SC (Rd rfl (Rm rfl ?_))));clear H K4;intro a H;refine aC ?_;refine dx ((k+1,j+1,Rx,HV)) (by exact (H.dX (Pl:=[_]) (dN:=[]) [] (by decide) rfl).sub ⟨rfl,rfl,rfl,rfl,aL⟩) ?_
  (try dsimp only);exact ⟨by omega,fun b o h=>rW b o (hgm b o h),C8⟩
 intro jD a H
 try have qp:=dF jD
 refine jI ?_;refine (leave0 H results88 ?_).2
 exact H.hp.kZ (L':=Lt) (by repeat (first|exact kF _|apply List.Sublist.cons)) (by
   rw [lG (by omega),jS] at jh;have:=jh.len
   simp only [List.length_nil,xH] at this
   rw [← this];exact jh.now)
theorem aaE:∀ n:Nat,n≤4294967297→Rb n
 | 0,_=>fun _ _ _ _ _ _ _ _ _ _ _ _ _ _ _ _ h=>absurd h (by omega)
 | n+1,hn=>amU (aaE n (by omega)) (by omega)
theorem X4 {Q:ay→Prop} (hj:∀ z y,Q z→Q y→um z y→Q (rE z y)) {out:List ay} {y:ay} (hy:Q y) (ho:∀ z∈out,Q z):∀ z∈addN out y,Q z:=by
 by_cases hd:vM y
 ·rw [RG hd];exact ho
 by_cases h:∃ o z,out=o++[z]∧um z y
 ·obtain ⟨o,z,rfl,hz⟩:=h;rw [ND hd hz];intro x hx
  rcases mJ.1 hx with h|h
  ·exact ho x (List.mem_append_left _ h)
  rw [tL.1 h];exact hj z y (ho z (by simp)) hy hz
 rw [DZ hd fun o z e hz=>h ⟨o,z,e,hz⟩];intro x hx
 rcases mJ.1 hx with h|h
 ·exact ho x h
 rw [tL.1 h];exact hy
theorem Z9 {Q:ay→Prop} (hj:∀ z y,Q z→Q y→um z y→Q (rE z y)):∀ (A out:List ay),(∀ y∈A,Q y)→(∀ z∈out,Q z)→∀ z∈A.foldl addN out,Q z
 | [],_,_,ho=>ho
 | y :: A,out,hA,ho=>Z9 hj A (addN out y) (fun x hx=>hA x (fJ _ hx)) (X4 hj (hA y eX) ho)
theorem fold_add {γ:Type} {F:List ay→γ} {op:γ→γ→γ} {Q:ay→Prop} (hF:∀ a b,F (a++b)=op (F a) (F b)) (hj:∀ z y,Q z→Q y→um z y→Q (rE z y)) (hd:∀ y,Q y→¬ vM y)
  (hg:∀ o z y,Q z→Q y→um z y→F (o++[rE z y])=op (F (o++[z])) (F [y])):∀ (A out:List ay),(∀ y∈A,Q y)→(∀ z∈out,Q z)→F (A.foldl addN out)=F (out++A)
 | [],out,_,_=>by rw [fZ];rfl
 | y :: A,out,hA,ho=>by
  have hy:=hA y eX;rw [List.foldl_cons,fold_add hF hj hd hg A (addN out y) (fun x hx=>hA x (fJ _ hx)) (X4 hj hy ho),show out++y :: A=(out++[y])++A by simp,hF,hF (out++[y])]
  congr 1
  by_cases h:∃ o z,out=o++[z]∧um z y
  ·obtain ⟨o,z,rfl,hz⟩:=h;rw [ND (hd y hy) hz,hg o z y (ho z (by simp)) hy hz,← hF]
  rw [DZ (hd y hy) fun o z e hz=>h ⟨o,z,e,hz⟩]
theorem TD {x:ay} (h:kI x=0) (hk:x.kind=1):x.code=0∧x.id=0∧rM x.text=true∧qW x.text=false∧x.flow=[]∧x.rows=[]:=by
 have h0:=FK h
 unfold kI at h
 have hc:wO x=false:=by simp [wO,hk]
 have hn:xu x=false:=by simp [xu,hk]
 split at h
 ·cases h
 split at h
 ·cases h
 rename_i h2
 split at h
 ·cases h
 split at h
 ·cases h
 rename_i h4
 rw [hk] at h4
 simp only [uO,hc,hn,Bool.not_false,D6,Bool.or_eq_true,not_or,Bool.not_eq_true,mU,nT] at h2
 refine ⟨h2.1.1.1.1,h2.1.1.1.2,h0.1,?_,h0.2.2.2 (by omega),h0.2.2.1 (by omega)⟩
 cases he:qW x.text
 ·rfl
 rw [he] at h4;simp at h4
theorem Y9 (s:ByteArray):qW s=decide (s.size=0):=by
 unfold qW
 rw [ByteArray.toList_eq,ByteArray.toList_eq,nL,lF,beq_iff_eq]
 constructor
 ·intro h;have:=aB List.length h
  simpa using this
 intro h;exact List.eq_nil_of_length_eq_zero (by rw [uJ];exact h)
theorem alo {z y:ay} (hz:kI z=0) (hy:kI y=0) (kz:z.kind=1) (ky:y.kind=1):kI (rE z y)=0:=by
 obtain ⟨a1,a2,a3,a4,a5,a6⟩:=TD hz kz;obtain ⟨b1,b2,b3,b4,b5,b6⟩:=TD hy ky;have hv:=aeM a3 b3
 have he:qW (z.text++y.text)=false:=by
  rw [Y9,mU] at a4 ⊢;rw [ByteArray.size_append];omega
 unfold kI rE codeOk uO zm zw wO xu
 simp only [ay.kind,ay.code,ay.id,ay.text,ay.flow,ay.rows] at *
 simp [kz,a1,a2,a5,a6,hv,he,zm,wO,xu,zw,ay.kind,ay.code]
theorem alp {k c i:Int} {tx:ByteArray} {h:dP} {f f':List ay} {r r':List aU} (hx:kI (.mk k c i tx h f r)=0) (hf:k≠6→f=[]→f'=[]) (hr:r'.length=r.length):kI (.mk k c i tx h f' r')=0:=by
 have h0:=(FK hx).2.2.2
 have e:uO (.mk k c i tx h f' r')=uO (.mk k c i tx h f r):=by
  have hfl:k≠6→f'.length=f.length:=fun h6=>by rw [hf h6 (h0 h6),show f=[] from h0 h6]
  rw [nL]
  simp only [uO,Bool.or_eq_true,nK,lF]
  have c1:wO (.mk k c i tx h f' r')=wO (.mk k c i tx h f r):=rfl;have c2:xu (.mk k c i tx h f' r')=xu (.mk k c i tx h f r):=rfl;have c3:zw (.mk k c i tx h f' r')=zw (.mk k c i tx h f r):=rfl;rw [c1,c2,c3]
  show (((((_∧c≠0)∨(_∧i≠0))∨(_∧(!qW tx)=true))∨(k≠6∧0 < (f'.length:Int)))∨(k≠7∧0 < (r'.length:Int)))↔(((((_∧c≠0)∨(_∧i≠0))∨(_∧(!qW tx)=true))∨(k≠6∧0 < (f.length:Int)))∨(k≠7∧0 < (r.length:Int)))
  rw [hr]
  by_cases h6:k=6
  ·simp [h6]
  rw [hfl h6]
 have e2:codeOk (.mk k c i tx h f' r')=codeOk (.mk k c i tx h f r):=rfl;have e3:zm (.mk k c i tx h f' r')=zm (.mk k c i tx h f r):=rfl
 unfold kI at hx ⊢
 rw [e,e2,e3];exact hx
theorem PZ {C:bC} {body note:Bool} {t:Int} (x:ay):kY C body note t x↔kI x=0∧P7 body note t x.kind x.id∧gN C x.kind x.head=0∧(x.kind=6→iC C false true t x.flow)∧(x.kind=7→(x.rows.length≠0∧x.rows.length≤256)∧jY C note (t+1) x.rows):=by
 cases x;rw [kY];rfl
theorem VZ {C:bC} {body note:Bool} {t:Int} (z y:ay) (hz:kY C body note t z) (hy:kY C body note t y) (hj:um z y):kY C body note t (rE z y):=by
 rw [PZ] at *;refine ⟨alo hz.1 hy.1 hj.2.1 hj.1,hz.2.1,hz.2.2.1,hz.2.2.2.1,hz.2.2.2.2⟩
theorem acP {C:bC} {body note:Bool} {t:Int} (y:ay) (hy:kY C body note t y):¬ vM y:=by
 rw [PZ] at hy;rintro (⟨h1,h2⟩|⟨h1,h2⟩)
 ·exact (hy.2.2.2.2 h1).1.1 h2
 have:=(TD hy.1 h1).2.2.2.1;rw [Y9] at this
 simp [h2] at this
theorem V4 {C:bC} {body note:Bool} {t:Int} {A:List ay} (h:iC C body note t A):iC C body note t (A.foldl addN []):=Dl.2 (Z9 VZ A [] (Dl.1 h) (fun _ h=>by cases h))
mutual
theorem apZ (C:bC) (body note:Bool) (t:Int):∀ x:ay,kY C body note t x→kY C body note t (nI x)
 | .mk k c i tx h f r,hx=>by
  have hf:=GU C false true t f;have hr:=acS C note (t+1) r;rw [kY] at hx;rw [nI,kY];exact ⟨alp hx.1 (fun _ e=>by rw [e];rfl) (by rw [PU,bO]),hx.2.1,hx.2.2.1,fun e=>V4 (hf (hx.2.2.2.1 e)),fun e=>⟨by rw [PU,bO];exact (hx.2.2.2.2 e).1,hr (hx.2.2.2.2 e).2⟩⟩
theorem aqa (C:bC) (note:Bool) (t:Int):∀ x:aU,oU C note t x→oU C note t (nR x)
 | .mk h cs,hx=>by
  have hc:=acR C note t cs;rw [oU] at hx;rw [nR,oU];exact ⟨by rw [VT,bO];exact hx.1,hc hx.2⟩
theorem apY (C:bC) (note:Bool) (t:Int):∀ x:aZ,oQ C note t x→oQ C note t (nC x)
 | .mk i h f,hx=>by
  have hf:=GU C false note t f;rw [oQ] at hx;rw [nC,oQ];exact ⟨hx.1,V4 (hf hx.2)⟩
theorem GU (C:bC) (body note:Bool) (t:Int):∀ l:List ay,iC C body note t l→iC C body note t (rG l)
 | [],_=>by rw [rG,iC];trivial
 | x :: l,h=>by
  rw [iC] at h;rw [rG,iC];exact ⟨apZ C body note t x h.1,GU C body note t l h.2⟩
theorem acS (C:bC) (note:Bool) (t:Int):∀ l:List aU,jY C note t l→jY C note t (wB l)
 | [],_=>by rw [wB,jY];trivial
 | x :: l,h=>by
  rw [jY] at h;rw [wB,jY];exact ⟨aqa C note t x h.1,acS C note t l h.2⟩
theorem acR (C:bC) (note:Bool) (t:Int):∀ l:List aZ,kK C note t l→kK C note t (wz l)
 | [],_=>by rw [wz,kK];trivial
 | x :: l,h=>by
  rw [kK] at h;rw [wz,kK];exact ⟨apY C note t x h.1,acR C note t l h.2⟩
end
theorem VX (l:List ay):nZ l=(rG l).foldl addN []:=by simp [nZ,uo,PS]
theorem acT {C:bC} {body note:Bool} {t:Int} {l:List ay} (h:iC C body note t l):iC C body note t (nZ l):=by rw [VX];exact V4 (GU C body note t l h)
theorem Mh:∀ a b:List ay,iZ (a++b)=iZ a++iZ b
 | [],b=>by rw [iZ];rfl
 | x :: a,b=>by rw [oq,iZ,iZ,Mh a b,jm]
theorem MQ:∀ a b:List ay,jM (a++b)=jM a+jM b
 | [],b=>by rw [jM,gD];rfl
 | x :: a,b=>by rw [oq,jM,jM,MQ a b,Nat.add_assoc]
theorem Vp {x:ay} (h:x.kind=1):qM x=[]:=by
 cases x;dsimp only [ay.kind] at h;subst h;simp [qM]
theorem W9 {x:ay} (h:x.kind=1):uI x=tT x.text:=by
 cases x;dsimp only [ay.kind] at h;subst h;simp [uI,ay.text]
theorem Vr {C:bC} {body note:Bool} {t:Int} {A:List ay} (h:iC C body note t A):iZ (A.foldl addN [])=iZ A :=
 (fold_add (F:=iZ) Mh (VZ (C:=C) (body:=body) (note:=note) (t:=t)) acP (fun o z y _ _ hj=>by
  rw [Mh,Mh];simp only [iZ];rw [Vp hj.2.1,Vp hj.1,Vp (x:=rE z y) hj.2.1];simp) A [] (Dl.1 h) (fun _ h=>by cases h))
theorem Xa {C:bC} {body note:Bool} {t:Int} {A:List ay} (h:iC C body note t A):jM (A.foldl addN [])=jM A :=
 (fold_add (F:=jM) MQ (VZ (C:=C) (body:=body) (note:=note) (t:=t)) acP (fun o z y hz hy hj=>by
  rw [PZ] at hz hy
  rw [MQ,MQ];simp only [jM];rw [W9 hj.2.1,W9 hj.1,W9 (x:=rE z y) hj.2.1,show (rE z y).text=z.text++y.text from rfl,ahk (FK hz.1).1 (FK hy.1).1];omega) A [] (Dl.1 h) (fun _ h=>by cases h))
mutual
theorem aoU (C:bC) (body note:Bool) (t:Int):∀ x:ay,kY C body note t x→qM (nI x)=qM x∧uI (nI x)=uI x
 | .mk k c i tx h f r,hx=>by
  have hf:=PE C false true t f;have hr:=abX C note (t+1) r;rw [kY] at hx;rw [nI,qM,qM,uI,uI]
  by_cases h6:k=6
  ·subst h6;have ho:=hx.2.2.2.1 rfl;have hn:=GU C false true t f ho
   simp only [if_true,ah (show ¬ (6:Int)=7 by decide)]
   rw [Vr hn,Xa hn,(hf ho).1,(hf ho).2];exact ⟨rfl,rfl⟩
  by_cases h7:k=7
  ·subst h7;have ho:=(hx.2.2.2.2 rfl).2
   simp only [if_true,ah (show ¬ (7:Int)=6 by decide)]
   rw [(hr ho).1,(hr ho).2];exact ⟨rfl,rfl⟩
  simp only [ah h6,ah h7]
  exact ⟨aL,aL⟩
theorem aoV (C:bC) (note:Bool) (t:Int):∀ x:aU,oU C note t x→uW (nR x)=uW x∧uR (nR x)=uR x
 | .mk h cs,hx=>by
  have hc:=abW C note t cs;rw [oU] at hx;rw [nR,uW,uW,uR,uR];exact hc hx.2
theorem aoT (C:bC) (note:Bool) (t:Int):∀ x:aZ,oQ C note t x→vZ (nC x)=vZ x∧uC (nC x)=uC x
 | .mk i h f,hx=>by
  have hf:=PE C false note t f;rw [oQ] at hx;have hn:=GU C false note t f hx.2;rw [nC,vZ,vZ,uC,uC,Vr hn,Xa hn,(hf hx.2).1,(hf hx.2).2];exact ⟨rfl,rfl⟩
theorem PE (C:bC) (body note:Bool) (t:Int):∀ l:List ay,iC C body note t l→iZ (rG l)=iZ l∧jM (rG l)=jM l
 | [],_=>by rw [rG];exact ⟨rfl,rfl⟩
 | x :: l,h=>by
  rw [iC] at h;have h1:=aoU C body note t x h.1;have h2:=PE C body note t l h.2;rw [rG,iZ,iZ,jM,jM,h1.1,h1.2,h2.1,h2.2];exact ⟨rfl,rfl⟩
theorem abX (C:bC) (note:Bool) (t:Int):∀ l:List aU,jY C note t l→nu (wB l)=nu l∧om (wB l)=om l
 | [],_=>by rw [wB];exact ⟨rfl,rfl⟩
 | x :: l,h=>by
  rw [jY] at h;have h1:=aoV C note t x h.1;have h2:=abX C note t l h.2;rw [wB,nu,nu,om,om,h1.1,h1.2,h2.1,h2.2];exact ⟨rfl,rfl⟩
theorem abW (C:bC) (note:Bool) (t:Int):∀ l:List aZ,kK C note t l→nY (wz l)=nY l∧pq (wz l)=pq l
 | [],_=>by rw [wz];exact ⟨rfl,rfl⟩
 | x :: l,h=>by
  rw [kK] at h;have h1:=aoT C note t x h.1;have h2:=abW C note t l h.2;rw [wz,nY,nY,pq,pq,h1.1,h1.2,h2.1,h2.2];exact ⟨rfl,rfl⟩
end
theorem aoC {C:bC} {body note:Bool} {t:Int} {l:List ay} (h:iC C body note t l):iZ (nZ l)=iZ l∧jM (nZ l)=jM l:=by
 have hn:=GU C body note t l h;rw [VX,Vr hn,Xa hn];exact PE C body note t l h
theorem atv (z y:ay):bZ (rE z y).dat≤bZ z.dat+bZ y.dat:=by
 rw [ay.qU,ay.qU,ay.qU]
 simp only [rE,ay.kind,ay.code,ay.id,ay.text,ay.head,ay.flow,ay.rows,bZ,mO,ByteArray.size_append]
 omega
theorem Nb (a b:List ay):cu (a++b)=cu a+cu b:=by rw [cu,kV,JK]
theorem Xm (y:ay):cu [y]=1+bZ y.dat:=by simp [cu,eG]
theorem aum (out:List ay) (y:ay):cu (addN out y)≤cu out+cu [y]:=by
 rcases X5 out y with e|e|⟨o,z,rfl,-,-,e⟩ <;> rw [e]
 ·omega
 ·rw [Nb];exact bR _
 have:=atv z y;rw [Nb,Nb,Xm,Xm,Xm];omega
theorem QS:∀ (A out:List ay),cu (A.foldl addN out)≤cu out+cu A
 | [],out=>Nat.le_add_right _ _
 | y :: A,out=>by
  have h1:=QS A (addN out y);have h2:=aum out y;have h3:=Nb [y] A;rw [List.singleton_append] at h3;rw [List.foldl_cons,h3];omega
mutual
theorem auo:∀ x:ay,bZ (nI x).dat≤bZ x.dat
 | .mk k c i tx h f r=>by
  have hf:=QT f;have hr:=afd r;have hd:=QS (rG f) [];have h0:cu []=0:=rfl
  have MN:∀ (a b:List Dat),bZ (a++b)=bZ a+bZ b:=fun a b=>by
   induction a with
   | nil=>simp [bZ]
   | cons x a ih=>simp only [oq,bZ,ih];omega
  rw [nI,ay.qU,ay.qU]
  simp only [ay.kind,ay.code,ay.id,ay.text,ay.head,ay.flow,ay.rows,bZ,mO,MN]
  unfold cu at *
  unfold gX at hr
  omega
theorem aup:∀ x:aU,bZ (nR x).dat≤bZ x.dat
 | .mk h cs=>by
  have hc:=afc cs
  have MN:∀ (a b:List Dat),bZ (a++b)=bZ a+bZ b:=fun a b=>by
   induction a with
   | nil=>simp [bZ]
   | cons x a ih=>simp only [oq,bZ,ih];omega
  rw [nR,aU.qU,aU.qU]
  simp only [aU.head,aU.cells,bZ,mO,MN]
  unfold iR at hc
  omega
theorem aun:∀ x:aZ,bZ (nC x).dat≤bZ x.dat
 | .mk i h f=>by
  have hf:=QT f;have hd:=QS (rG f) [];have h0:cu []=0:=rfl
  have MN:∀ (a b:List Dat),bZ (a++b)=bZ a+bZ b:=fun a b=>by
   induction a with
   | nil=>simp [bZ]
   | cons x a ih=>simp only [oq,bZ,ih];omega
  rw [nC,aZ.qU,aZ.qU]
  simp only [aZ.id,aZ.head,aZ.flow,bZ,mO,MN]
  unfold cu at *
  omega
theorem QT:∀ l:List ay,cu (rG l)≤cu l
 | []=>by rw [rG];exact bR _
 | x :: l=>by
  have h1:=auo x;have h2:=QT l;rw [rG]
  simp only [cu,fG,eG] at *
  omega
theorem afd:∀ l:List aU,gX (wB l)≤gX l
 | []=>by rw [wB];exact bR _
 | x :: l=>by
  have h1:=aup x;have h2:=afd l;rw [wB]
  simp only [gX,fG,eG] at *
  omega
theorem afc:∀ l:List aZ,iR (wz l)≤iR l
 | []=>by rw [wz];exact bR _
 | x :: l=>by
  have h1:=aun x;have h2:=afc l;rw [wz]
  simp only [iR,fG,eG] at *
  omega
end
theorem Xl (l:List ay):cu (nZ l)≤cu l:=by
 have h1:=QS (rG l) [];have h2:=QT l;have h0:cu []=0:=rfl;rw [VX];omega
section
mutual
def oZ (acc rej:Int→Bool):ay→List ay
 | .mk k c i tx h f r=>if lM acc rej h then [] else if k=6 then [.mk k c i tx (kM acc rej h) (fC acc rej f) r] else if k=7 then (if (iL acc rej r).length=0 then [] else [.mk k c i tx (kM acc rej h) f (iL acc rej r)]) else [.mk k c i tx (kM acc rej h) f r]
def pK (acc rej:Int→Bool):aU→List aU
 | .mk h cs=>if lM acc rej h then [] else if (gJ acc rej cs).length=0 then [] else [.mk (kM acc rej h) (gJ acc rej cs)]
def qO (acc rej:Int→Bool):aZ→List aZ
 | .mk i h f=>if lM acc rej h then [] else [.mk i (kM acc rej h) (fC acc rej f)]
def fC (acc rej:Int→Bool):List ay→List ay
 | []=>[]
 | x :: l=>oZ acc rej x++fC acc rej l
def iL (acc rej:Int→Bool):List aU→List aU
 | []=>[]
 | x :: l=>pK acc rej x++iL acc rej l
def gJ (acc rej:Int→Bool):List aZ→List aZ
 | []=>[]
 | x :: l=>qO acc rej x++gJ acc rej l
end
variable {acc rej:Int→Bool}
theorem Wq (x:ay):oZ acc rej x=if lM acc rej x.head then [] else if x.kind=6 then [.mk x.kind x.code x.id x.text (kM acc rej x.head) (fC acc rej x.flow) x.rows] else if x.kind=7 then (if (iL acc rej x.rows).length=0 then [] else [.mk x.kind x.code x.id x.text (kM acc rej x.head) x.flow (iL acc rej x.rows)]) else [.mk x.kind x.code x.id x.text (kM acc rej x.head) x.flow x.rows]:=by cases x;rw [oZ];rfl
theorem Wt (x:aU):pK acc rej x=if lM acc rej x.head then [] else if (gJ acc rej x.cells).length=0 then [] else [.mk (kM acc rej x.head) (gJ acc rej x.cells)]:=by cases x;rw [pK];rfl
theorem Wp (x:aZ):qO acc rej x=if lM acc rej x.head then [] else [.mk x.id (kM acc rej x.head) (fC acc rej x.flow)]:=by cases x;rw [qO];rfl
theorem ady:∀ a b:List ay,fC acc rej (a++b)=fC acc rej a++fC acc rej b
 | [],b=>by simp [fC]
 | x :: a,b=>by simp [fC,ady a b]
theorem adz:∀ a b:List aU,iL acc rej (a++b)=iL acc rej a++iL acc rej b
 | [],b=>by simp [iL]
 | x :: a,b=>by simp [iL,adz a b]
theorem adv:∀ a b:List aZ,gJ acc rej (a++b)=gJ acc rej a++gJ acc rej b
 | [],b=>by simp [gJ]
 | x :: a,b=>by simp [gJ,adv a b]
theorem xw {l:List ay} {k:Nat} (h:k < l.length):fC acc rej (l.take (k+1))=fC acc rej (l.take k)++oZ acc rej l[k]:=by rw [fV h,ady];simp [fC]
theorem zi {l:List aU} {k:Nat} (h:k < l.length):iL acc rej (l.take (k+1))=iL acc rej (l.take k)++pK acc rej l[k]:=by rw [fV h,adz];simp [iL]
theorem EO {l:List aZ} {k:Nat} (h:k < l.length):gJ acc rej (l.take (k+1))=gJ acc rej (l.take k)++qO acc rej l[k]:=by rw [fV h,adv];simp [gJ]
theorem ars (x:ay):(oZ acc rej x).length≤1:=by rw [Wq];(repeat' split) <;> simp
theorem arv (x:aU):(pK acc rej x).length≤1:=by rw [Wt];(repeat' split) <;> simp
theorem arp (x:aZ):(qO acc rej x).length≤1:=by rw [Wp];split <;> simp
theorem Ws:∀ l:List ay,(fC acc rej l).length≤l.length
 | []=>by simp [fC]
 | x :: l=>by rw [fC,iM];have:=ars (acc:=acc) (rej:=rej) x;have:=Ws l;simp only [kU];omega
theorem Qm:∀ l:List aU,(iL acc rej l).length≤l.length
 | []=>by simp [iL]
 | x :: l=>by rw [iL,iM];have:=arv (acc:=acc) (rej:=rej) x;have:=Qm l;simp only [kU];omega
theorem Ql:∀ l:List aZ,(gJ acc rej l).length≤l.length
 | []=>by simp [gJ]
 | x :: l=>by rw [gJ,iM];have:=arp (acc:=acc) (rej:=rej) x;have:=Ql l;simp only [kU];omega
theorem Wi:∀ l:List aS,eG (l.map aS.dat)=3*l.length
 | []=>by simp [eG]
 | p :: l=>by rw [fG,eG,Wi l];simp [aS.dat,bZ,mO];omega
theorem Sj:∀ l:List fO,eG (l.map fO.dat)=3*l.length
 | []=>by simp [eG]
 | p :: l=>by rw [fG,eG,Sj l];simp [fO.dat,bZ,mO];omega
theorem VK:∀ l:List cB,eG (l.map cB.dat)=5*l.length
 | []=>by simp [eG]
 | p :: l=>by rw [fG,eG,VK l];simp [cB.dat,bZ,mO];omega
theorem YJ (props:List aS):∀ (L:List (Int × List cB)) (s:List aS × List cB),(qV acc rej props L s).1.length≤s.1.length+L.length∧(qV acc rej props L s).2.length≤s.2.length+(L.flatMap Prod.snd).length
 | [],s=>by simp [qV]
 | (k,l) :: r,s=>by
  rw [qV];obtain ⟨h1,h2⟩:=YJ props r (zu s.1 k (pY acc rej props k l).2,s.2++(pY acc rej props k l).1);have h3:=aeR s.1 k (pY acc rej props k l).2;have h4:=TG acc rej props k l;dsimp only at h1 h2;rw [iM] at h2
  simp only [kU,List.flatMap_cons,iM]
  omega
theorem alx {f:Nat} {l:List cB} (h:l.length≤f):(qY f l).length≤l.length:=by
 obtain ⟨h1,h2⟩:=IV f l h
 have key:∀ (L:List (Int × List cB)),(∀ q∈L,q.2≠[])→L.length≤(L.flatMap Prod.snd).length:=by
  intro L
  induction L with
  | nil=>intro _;exact iH _
  | cons q L ih =>
   intro hq;have:=ih fun x hx=>hq x (fJ _ hx);have h3:=List.length_pos_iff.2 (hq q eX)
   simp only [kU,List.flatMap_cons,iM];omega
 have:=key _ h2
 rwa [h1] at this
theorem N9 (h:dP):mh (kM acc rej h)≤2*mh h:=by
 rw [E9,E9,Wi,Sj,VK,Wi,Sj,VK];obtain ⟨h1,h2⟩:=YJ (acc:=acc) (rej:=rej) h.props (qY h.marks.layers.length h.marks.layers) (h.props,[]);have h3:=alx (bR h.marks.layers.length);rw [(IV _ _ (bR _)).1] at h2;have h4:=List.length_filter_le (fun x:fO=>!rej x.rev) h.marks.bH
 simp only [kM,List.length_nil] at h1 h2 ⊢
 omega
mutual
theorem arz:∀ x:ay,cu (oZ acc rej x)≤2*(1+bZ x.dat)
 | .mk k c i tx h f r=>by
  have hf:=Qn f;have hr:=adB r;have hh:=N9 (acc:=acc) (rej:=rej) h;have e:=zy (.mk k c i tx h f r)
  simp only [ay.text,ay.head,ay.flow,ay.rows] at e
  have one:∀ y:ay,cu [y]=1+bZ y.dat:=fun y=>by simp [cu,eG]
  rw [oZ]
  split
  ·simp [cu,eG]
  split
  ·rw [one,zy];simp only [ay.text,ay.head,ay.flow,ay.rows];omega
  split
  ·split
   ·simp [cu,eG]
   rw [one,zy];simp only [ay.text,ay.head,ay.flow,ay.rows];omega
  rw [one,zy];simp only [ay.text,ay.head,ay.flow,ay.rows];omega
theorem arA:∀ x:aU,gX (pK acc rej x)≤2*(1+bZ x.dat)
 | .mk h cs=>by
  have hc:=adA cs;have hh:=N9 (acc:=acc) (rej:=rej) h;have e:=DK (.mk h cs)
  simp only [aU.head,aU.cells] at e
  rw [pK]
  split
  ·simp [gX,eG]
  split
  ·simp [gX,eG]
  simp only [gX,fG,sO,eG];rw [DK];simp only [aU.head,aU.cells];omega
theorem arx:∀ x:aZ,iR (qO acc rej x)≤2*(1+bZ x.dat)
 | .mk i h f=>by
  have hf:=Qn f;have hh:=N9 (acc:=acc) (rej:=rej) h;have e:=DJ (.mk i h f)
  simp only [aZ.head,aZ.flow] at e
  rw [qO]
  split
  ·simp [iR,eG]
  simp only [iR,fG,sO,eG];rw [DJ];simp only [aZ.head,aZ.flow];omega
theorem Qn:∀ l:List ay,cu (fC acc rej l)≤2*cu l
 | []=>by simp [fC,cu,eG]
 | x :: l=>by
  have h1:=arz x;have h2:=Qn l;rw [fC,Nb,show cu (x :: l)=1+bZ x.dat+cu l by simp [cu,eG]];omega
theorem adB:∀ l:List aU,gX (iL acc rej l)≤2*gX l
 | []=>by simp [iL,gX,eG]
 | x :: l=>by
  have h1:=arA x;have h2:=adB l;rw [iL,show ∀ a b:List aU,gX (a++b)=gX a+gX b from fun a b=>by rw [gX,kV,JK],show gX (x :: l)=1+bZ x.dat+gX l by simp [gX,eG]];omega
theorem adA:∀ l:List aZ,iR (gJ acc rej l)≤2*iR l
 | []=>by simp [gJ,iR,eG]
 | x :: l=>by
  have h1:=arx x;have h2:=adA l;rw [gJ,show ∀ a b:List aZ,iR (a++b)=iR a+iR b from fun a b=>by rw [iR,kV,JK],show iR (x :: l)=1+bZ x.dat+iR l by simp [iR,eG]];omega
end
end
theorem abN {G:GH} {α:Type} {f:α→Int} {A:List α} {B:Option Addr} {n c k:Nat} (hv:au G (.sl 1 (A.map fun q=>[li (f q)])) (.slice B n c)) (hk:k < A.length):∃ b o,B=some ⟨b,o,none⟩∧aH G b (o+k)=some (vi (f A[k])):=by
 obtain ⟨b,o,cs,h1,h2,h3,h4⟩:=hv.at_ k [li (f A[k])] (by simp [hk])
 simp only [aV] at h4
 obtain ⟨_,_,rfl,⟨rfl,-⟩,rfl⟩:=h4;exact ⟨b,o,h1,by simpa using h3 0 _ rfl⟩
theorem ahQ:∀ args w,(callFunc 114 args).run prog w=.ok (.enter 114 args) w:=enters func114 rfl (by kernel_rfl)
theorem ahR:∀ args w,(callFunc 115 args).run prog w=.ok (.enter 115 args) w:=enters func115 rfl (by kernel_rfl)
theorem Vk {p:Nat→Bool} (hp:∀ h,p h=true→p (h+1)=true):∀ (f i j:Nat),i≤j→j - i≤f→(∀ h,i≤h→h < mH p f i j→p h=false)∧(mH p f i j < j→p (mH p f i j)=true)
 | 0,i,j,h1,h2=>⟨fun h a b=>by simp only [mH] at b;omega,fun h=>by simp only [mH] at h;omega⟩
 | f+1,i,j,h1,h2=>by
  have up:∀ a b,a≤b→p a=true→p b=true:=fun a b hab=>by
   induction hab with
   | refl=>exact fun h=>h
   | step _ ih=>exact fun h=>hp _ (ih h)
  rw [mH]
  by_cases h:i < j
  ·rw [ak h]
   cases hm:p ((i+j) / 2)
   ·rw [ah (by simp)];obtain ⟨r1,r2⟩:=Vk hp f ((i+j) / 2+1) j (by omega) (by omega);refine ⟨fun q a b=>?_,r2⟩
    by_cases hq:(i+j) / 2+1≤q
    ·exact r1 q hq b
    cases hpq:p q
    ·rfl
    rw [up q _ (by omega) hpq] at hm;cases hm
   rw [ak rfl];obtain ⟨r1,r2⟩:=Vk hp f i ((i+j) / 2) (by omega) (by omega);refine ⟨r1,fun _=>?_⟩
   by_cases hq:mH p f i ((i+j) / 2) < (i+j) / 2
   ·exact r2 hq
   have:=Pw (p:=p) f i ((i+j) / 2) (by omega);rw [show mH p f i ((i+j) / 2)=(i+j) / 2 by omega];exact hm
  rw [ah h];exact ⟨fun q a b=>by omega,fun q=>absurd q h⟩
theorem Yg {l:List Int} (hs:l.Pairwise (·≤·)) (t:Int):(∀ h (hh:h < l.length),h < iB l t→l[h] < t)∧∀ hh:iB l t < l.length,t≤l[iB l t]:=by
 -- the test,as if the list went on with its last number
 let p:Nat→Bool:=fun h=>decide (¬ l.getD h 0 < t)
 let p':Nat→Bool:=fun h=>decide (l.length≤h∨¬ l.getD h 0 < t)
 have hpp:∀ (f i j:Nat),j≤l.length→i≤j→mH p f i j=mH p' f i j:=by
  intro f
  induction f with
  | zero=>intro i j _ _;rfl
  | succ f ih =>
   intro i j hj hij;rw [mH,mH]
   by_cases h:i < j
   ·rw [ak h,ak h]
    have e:p ((i+j) / 2)=p' ((i+j) / 2):=by
     show decide _=decide _
     exact decide_eq_decide.2 ⟨.inr,fun h=>h.resolve_left (by omega)⟩
    rw [e,ih _ _ (by omega) (by omega),ih _ _ hj (by omega)]
   rw [ah h,ah h]
 have hmono:∀ h,p' h=true→p' (h+1)=true:=fun h e=>by
  have e:=nS e;refine iO ?_
  by_cases h1:l.length≤h+1
  ·exact .inl h1
  refine .inr ?_;have e2:=e.resolve_left (by omega);have h3:=List.pairwise_iff_getElem.1 hs h (h+1) (by omega) (by omega) (Nat.lt_succ_self _);rw [List.getD_eq_getElem?_getD,dZ (show h < l.length by omega)] at e2;rw [List.getD_eq_getElem?_getD,dZ (show h+1 < l.length by omega)]
  simp only [Option.getD_some] at e2 ⊢
  omega
 obtain ⟨r1,r2⟩:=Vk hmono l.length 0 l.length (iH _) (by omega);have hn:iB l t=mH p' l.length 0 l.length:=hpp _ _ _ (bR _) (iH _);rw [← hn] at r1 r2;refine ⟨fun h hh h1=>?_,fun hh=>?_⟩
 ·have h2:=of_decide_eq_false (r1 h (iH _) h1);rw [List.getD_eq_getElem?_getD,dZ hh] at h2
  simp only [Option.getD_some] at h2
  omega
 have h2:=(nS (r2 hh)).resolve_left (by omega);rw [List.getD_eq_getElem?_getD,dZ hh] at h2
 simp only [Option.getD_some] at h2
 omega
theorem Uv {l:List Int} (hs:l.Pairwise (·≤·)) (t:Int):ni l t=decide (t∈l):=by
 rw [nL,lF]
 constructor
 ·intro h;exact kT (nS h)
 intro h;obtain ⟨k,hk,rfl⟩:=List.getElem_of_mem h;obtain ⟨r1,r2⟩:=Yg hs l[k]
 have hkn:iB l l[k]≤k:=by
  by_cases h:iB l l[k]≤k
  ·exact h
  have:=r1 k hk (by omega);omega
 have h2:=r2 (by omega)
 have h3:l[iB l l[k]]≤l[k]:=by
  rcases Nat.lt_or_eq_of_le hkn with h|h
  ·exact List.pairwise_iff_getElem.1 hs _ _ (by omega) hk h
  exact Int.le_of_eq (getElem_congr_idx h)
 exact iO (by rw [dZ (by omega:iB l l[k] < l.length)];exact aB some (by omega))
theorem ape (G:GH) (w0:World) (hG:Hold G w0) (x y:Int):Calls prog 114 #[vi x,vi y] w0 (bB w0 G fun u G'=>u=.bool (decide (x < y))∧G=G'):=by
 refine eN [(0,_),(1,_)] func114 rfl ntmps114 rfl rfl hG ?_;intro a H;refine kP H (SR fun _ K1=>aF K1 rfl (SR fun _ K2=>Rm rfl ?_));clear H K1;intro a H;refine s_call Sw H wn rfl (Vu _ _ H.ro x) rfl ?_;clear H;rintro v6 G6 a w ⟨rfl,rfl⟩ F6 H;refine kH H (Rm rfl (Sp 7 rfl ?_ ?_)) <;> clear H
 ·intro h7 a H
  cases h7
 intro h7 a H
 refine kH H (fB h7 rfl (Pf h7 rfl (Rm rfl ?_)));clear H;intro a H;(iterate 2 refine JI H (wg H rfl rfl rfl) rfl rfl ?_;clear H;intro a H);refine ER H (wg H rfl rfl rfl) rfl rfl rfl rfl ?_;clear H;intro a H;exact kH H (Pf rfl rfl (aF K2 rfl (LR results114 rfl fun H=>H.rt ⟨rfl,rfl⟩)))
theorem aoP (G:GH) (w0:World) (hG:Hold G w0) (x:Int):Calls prog 115 #[vi x] w0 (bB w0 G fun u G'=>u=.bool false∧G=G'):=by
 refine eN [(0,_)] func115 rfl ntmps115 rfl rfl hG ?_;intro a H;exact kP H (SR fun _ K1=>aF K1 rfl (SR fun _ K2=>Rm rfl (Rm rfl (Rc rfl (aF K2 rfl (LR results115 rfl fun H=>H.rt ⟨by simp,rfl⟩))))))
theorem Yf (G:GH) (w0:World) (hG:Hold G w0) (l:List Int) (t:Int) (v:aj) (hv:au G (.sl 1 (l.map fun k=>[li k])) v) (hl:l.length≤4294967296) :
  Calls prog 62 #[v,vi t] w0 (bB w0 G fun u G'=>u=.tuple #[vi (iB l t),.bool (ni l t)]∧G=G'):=by
 obtain ⟨A,c,rfl,hc1,hc2,-⟩:=hv.slice;rw [bO] at *;obtain ⟨p,hp⟩:∃ p:Nat→Bool,p=fun h=>decide (¬ l.getD h 0 < t):=⟨_,rfl⟩
 have hbs:iB l t=mH p l.length 0 l.length:=by rw [hp,iB]
 refine eN [(0,_),(1,_)] func62 rfl ntmps62 rfl rfl hG ?_;intro a H;refine kP H (SR fun _ K1=>Ra rfl (aF K1 rfl (SR fun _ K2=>Rm rfl (Rl sJ rfl (aF K2 rfl (SR fun _ K3=>Rm rfl (Ra rfl (aF K3 rfl (SQ fun _ K4=>SB ?_)))))))));clear H K1 K2 K3;intro a H;skip;refine eH (ι:=Nat × Nat × Nat) (Tc:=[(0,_),(1,_),(6,_)]) (Lc:=[]) (fun gh=>[(7,vi gh.1),(8,vi gh.2.1)]) (fun gh=>[]) (fun gh=>G) (fun gh=>gh.1≤gh.2.1∧gh.2.1≤l.length∧gh.2.1 - gh.1≤gh.2.2∧mH p gh.2.2 gh.1 gh.2.1=iB l t) (fun gh=>gh.2.1 - gh.1) ((0,l.length,l.length)) (by exact (H).sub ⟨rfl,rfl,rfl,rfl,rfl,aL⟩) ?_ ?_
 ·exact ⟨iH _,bR _,Nat.sub_le _ _,hbs.symm⟩
 clear H;rintro ⟨i,j,f⟩ a w hI H;dsimp only at hI H;obtain ⟨hij,hj,hf1,heq⟩:=hI;dsimp only [lca,bK] at H;refine kP H (SQ fun _ K5=>SR fun _ K6=>Rm rfl (Rm rfl (Rc rfl (Kz K6 (Cd rfl ?_ ?_))))) <;> clear H K6
 ·intro lX a H
  try have sD:=dT lX
  have hlt:i < j:=by omega
  rw [Vl hf1 hlt] at heq;obtain ⟨m,hm⟩:∃ m,m=(i+j) / 2:=⟨_,rfl⟩;rw [← hm] at heq
  have hml:m < l.length:=by omega
  obtain ⟨b,o,rfl,hrow⟩:=abN (f:=fun q=>q) hv hml
  replace hrow:aH G b (o+m*1)=some (vi l[m]):=by rw [Nat.mul_one];exact hrow
  have hpm:p m=decide (¬ l[m] < t):=by rw [hp];simp [List.getD,hml]
  rw [hpm] at heq;refine kP H (Kc K5 (SB (SR fun _ K7=>Rm rfl (Rm rfl (Rd rfl ?_)))));clear H K5;intro a H;rw [show ((i:Int)+(j:Int))=((i+j:Nat):Int) by push_cast;rfl] at H;refine BU ((i+j:Nat):Int) Hr lq H wn rfl (Vm (by omega) (by omega)) rfl ?_;clear H;intro a H;refine Qw _ H wn rfl rfl rfl (by decide) rfl ?_;clear H;intro a H;rw [Vj,← hm] at H;refine BU (m:Int) lq Hr H wn rfl (Gx (by omega) (by omega)) rfl ?_;clear H;intro a H;refine kH H (aF K7 rfl (SR fun _ K8=>Rm rfl (Rm rfl (Ri sJ aT rfl rfl (Rg aT rfl (by assumption) ?_)))));clear H K7;intro a H;refine kH H (Rm rfl ?_);clear H;intro a H;refine s_call ahQ H wn rfl (ape _ _ H.ro l[m] t) rfl ?_;clear H;rintro v27 Q5 a w ⟨rfl,rfl⟩ aaP H;refine K8 _ _ ?_;clear K8;refine mW H rfl ?_ ?_
  ·intro h27
   try have p27:=dT h27
   rw [ah (by simpa using p27)] at heq;refine kP H (SC (Rm rfl (Rd rfl (Ra rfl ?_))));clear H;intro a H;refine aC ?_;refine dx ((m+1,j,f - 1)) (by exact (H).sub ⟨rfl,rfl,rfl,rfl,rfl,aL⟩) ?_
   (try dsimp only);exact ⟨by omega,hj,by omega,heq⟩
  intro h27
  try have p27:=dF h27
  rw [ak (by simpa using p27)] at heq;refine kP H (SC (Rm rfl (Ra rfl ?_)));clear H;intro a H;refine aC ?_;refine dx ((i,m,f - 1)) (by exact (H).sub ⟨rfl,rfl,rfl,rfl,rfl,aL⟩) ?_
  (try dsimp only);exact ⟨by omega,by omega,by omega,heq⟩
 intro lX a H
 try have sD:=dF lX
 refine jI ?_;refine K4 _ _ ?_;clear K4;refine eY (fun _ K9=>?_);rw [Vi (by omega)] at heq;refine kP H (SC (Rm rfl (Rm rfl (Rm rfl (Rc rfl (Rm rfl (Sp 35 rfl ?_ ?_))))))) <;> clear H
 ·intro lY a H
  try have p35:=dT lY
  have hil:i < l.length:=by omega
  obtain ⟨b,o,rfl,hrow⟩:=abN (f:=fun q=>q) hv hil
  replace hrow:aH G b (o+i*1)=some (vi l[i]):=by rw [Nat.mul_one];exact hrow
  refine kH H (YM lY rfl (YM lY rfl (YI sJ aT lY rfl rfl (YR aT lY rfl (by assumption) ?_))));clear H;intro a H;refine kH H (YM lY rfl (YC lY rfl (YM lY rfl (Sp 42 rfl ?_ ?_)))) <;> clear H
  ·intro kW a H
   try have p42:=dT kW
   refine kH H (fB kW rfl (fB kW rfl (Ku rfl (Ku rfl (Ks kW rfl (PT lY kW rfl (Pt lY rfl (Ra rfl (gY K9 rfl ?_)))))))));clear H K9;intro a H;refine cK ?_;refine (fE H results62 (.cons (bq H rfl) (.cons (bq H rfl) .nil)) ?_).1
   first
    | exact H.rt ⟨by rw [La heq.symm (by omega),← heq];simp_all [NV],rfl⟩
    | exact H.rt ⟨by rw [Le heq.symm (by omega),← heq],rfl⟩
  intro kW a H
  try have p42:=dF kW
  refine kH H (YM kW rfl (YM kW rfl (YI sJ aT kW rfl rfl (YR aT kW rfl (by assumption) ?_))));clear H;intro a H;refine s_call ahR H (wg H rfl rfl kW) rfl (aoP _ _ H.ro l[i]) rfl ?_;clear H;rintro v47 XD a w ⟨rfl,rfl⟩ avp H;refine kH H (YM kW rfl (Sp 48 rfl ?_ ?_)) <;> clear H
  ·intro h48 a H
   cases h48
  intro h48 a H
  try have p48:=dF h48
  refine kH H (fU h48 rfl (PF kW h48 rfl (PF lY kW rfl (Pt lY rfl (Ra rfl (gY K9 rfl ?_))))));clear H K9;intro a H;refine cK ?_;refine (fE H results62 (.cons (bq H rfl) (.cons (bq H rfl) .nil)) ?_).1
  first
   | exact H.rt ⟨by rw [La heq.symm (by omega),← heq];simp_all [NV],rfl⟩
   | exact H.rt ⟨by rw [Le heq.symm (by omega),← heq],rfl⟩
 intro lY a H
 try have p35:=dF lY
 refine kH H (fB lY rfl (fU lY rfl (fU lY rfl (Ku rfl (Ku rfl (Ku rfl (Ku rfl (Ku rfl (Ku rfl (Ku rfl (Ku rfl (Ku rfl (Ks lY rfl (Pf lY rfl (Ra rfl (gY K9 rfl ?_))))))))))))))));clear H K9;intro a H;refine cK ?_;refine (fE H results62 (.cons (bq H rfl) (.cons (bq H rfl) .nil)) ?_).1
 first
  | exact H.rt ⟨by rw [La heq.symm (by omega),← heq];simp_all [NV],rfl⟩
  | exact H.rt ⟨by rw [Le heq.symm (by omega),← heq],rfl⟩
end Go.Proofs.YtdiflmikikiedaaGreat
