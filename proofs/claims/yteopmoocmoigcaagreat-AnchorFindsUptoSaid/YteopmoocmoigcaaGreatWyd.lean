/-
  What the claim stands on, part 4: Nck Cid Mt Ehd Hdr Hea Frm Itc Vis Okd Ubf Av16 Mz Vn15 Sp16 Cl Avi16 Gco Lst16 En Spn16.
-/
import Derived.Test.YteopmoocmoigcaaGreatWyc
namespace Go.Proofs.YteopmoocmoigcaaGreat
open Go.Proofs.Tryz
section
open Go.RowKit
theorem Ah:prog.underlying 145=some (.map 3 4):=by kernel_rfl
theorem ET:Ty prog 176 3 32 [.int .i64 0,.string ⟨#[]⟩,.int .i64 0] true:=⟨by kernel_rfl,by kernel_rfl⟩
theorem amn:qJ prog 147 [(0,1),(1,1),(2,1),(3,1),(4,1),(5,1)] [.map none,.map none,.map none,.map none,.map none,.int .i64 0]:=⟨by kernel_rfl,by kernel_rfl⟩
theorem Ls:cB prog 38 3 7:=⟨by kernel_rfl⟩
theorem IE:cB prog 147 0 0:=⟨by kernel_rfl⟩
theorem JY:Ty prog 114 1 8 [.map none] false:=⟨by kernel_rfl,by kernel_rfl⟩
theorem V5:cB prog 147 1 1:=⟨by kernel_rfl⟩
theorem Ae:Ty prog 145 1 8 [.map none] false:=⟨by kernel_rfl,by kernel_rfl⟩
theorem Pg:cB prog 38 2 6:=⟨by kernel_rfl⟩
theorem Db:Ty prog 30 1 24 [.slice none 0 0] false:=⟨by kernel_rfl,by kernel_rfl⟩
theorem Dg:prog.underlying 30=some (.slice 176):=by kernel_rfl
theorem IG:cB prog 147 2 2:=⟨by kernel_rfl⟩
theorem V7:cB prog 176 0 0:=⟨by kernel_rfl⟩
structure fI where
 id:Int
 author:ByteArray
 time:Int
def fI.dat (x:fI):List Dat:=[li x.id,.lf (.string x.author),li x.time]
abbrev fI.cells (x:fI):List aj:=[vi x.id,.string x.author,vi x.time]
theorem ali {G:GH} {x:fI} {cs:List aj} (h:aY G x.dat cs):cs=x.cells:=by
 simp only [fI.dat,aY,ay] at h
 obtain ⟨_,_,rfl,⟨rfl,_⟩,_,_,rfl,⟨rfl,_⟩,_,_,rfl,⟨rfl,_⟩,rfl⟩:=h
 rfl
theorem R3 {G:GH} {l:List fI} {A:Option Addr} {n c k:Nat} (hv:ay G (.sl 3 (l.map fI.dat)) (.slice A n c)) (hk:k < l.length):∃ b o,A=some ⟨b,o,none⟩∧(∀ j u,l[k].cells[j]?=some u→aJ G b (o+k*3+j)=some u):=by
 obtain ⟨A',c',he,_,_,hg⟩:=hv.slice
 injection he with e1 e2 e3
 subst e1;obtain ⟨b,o,cs,h1,h2,h3,h4⟩:=hg k l[k].dat (by simp [hk]);have:=ali h4;subst this;exact ⟨b,o,h1,h3⟩
abbrev fP (b ms ml mr mb mu:Nat) (n:Int):Nat × Obj:=(b,.cells #[.map (some ms),.map (some ml),.map (some mr),.map (some mb),.map (some mu),vi n] 147 (0,0))
def zU (l:List bU):List (Int × aj):=l.map fun s=>(s.id,vi s.kind)
def fT (l:List Int):List (Int × aj):=l.map fun k=>(k,.bool true)
structure uH (G:GH) (st:List bU) (li:List gq) (rv:List fI) (ms ml mr mu:Nat):Prop where
 sty:G ms=some (fJ (zU st))
 yU:G ml=some (fJ (fT (li.map gq.id)))
 rev:G mr=some (fJ (fT (rv.map fI.id)))
 use:G mu=some (fJ [])
theorem uH.mono {G G':GH} {st:List bU} {li:List gq} {rv:List fI} {ms ml mr mu:Nat} (h:uH G st li rv ms ml mr mu) (hm:∀ b o,G b=some o→G' b=some o):uH G' st li rv ms ml mr mu:=⟨hm _ _ h.sty,hm _ _ h.yU,hm _ _ h.rev,hm _ _ h.use⟩
def Ao (l:List Int):Prop:=∀ (k:Nat) (h:k < l.length),l[k]∉l.take k
theorem ajz {l:List bU} {k:Nat} (h:k < l.length):zU (l.take (k+1))=zU (l.take k)++[(l[k].id,vi l[k].kind)]:=by rw [zU,jg h,kL];rfl
theorem Yy {l:List Int} {k:Nat} (h:k < l.length):fT (l.take (k+1))=fT (l.take k)++[(l[k],.bool true)]:=by rw [fT,jg h,kL];rfl
theorem ajy {l:List bU} {k:Nat} (f:Ao (l.map bU.id)) (h:k < l.length):rT l[k].id (zU (l.take k))=none:=by
 refine Mv ?_;have:=f k (by simpa using h)
 simpa [zU,List.map_take,List.map_map,Function.comp_def] using this
theorem Yx {l:List Int} {k:Nat} (f:Ao l) (h:k < l.length):rT l[k] (fT (l.take k))=none:=by
 refine Mv ?_;have:=f k h
 simpa [fT,List.map_map,Function.comp_def] using this
theorem akc (G:GH) (w0:World) (hO:gZ G [] w0) (D:nA) (st:List bU) (li:List gq) (rv:List fI) (hst:ay G (.sl 6 (st.map bU.dat)) (fD D.s1)) (I8:ay G (.sl 2 (li.map gq.dat)) (fD D.s2)) (yN:ay G (.sl 3 (rv.map fI.dat)) (fD D.r))
  (f1:Ao (st.map bU.id)) (f2:Ao (li.map gq.id)) (f3:Ao (rv.map fI.id)) (z1:st.length≤4294967296) (z2:li.length≤4294967296) (z3:rv.length≤4294967296) :
  Calls prog 57 #[D.val] w0 (gI w0 G [] fun u G' L'=>∃ b ms ml mr mb mu,u=(aI b 0)∧L'=[fP b ms ml mr mb mu 0,(mb,fJ [])]∧uH G' st li rv ms ml mr mu):=by
 obtain ⟨df,dp,dd,dy,⟨rA,rn,rc⟩,⟨sA,sn,sc⟩,⟨lA,ln,lc⟩,d3,d4,ins,mv⟩:=D;dsimp only at hst I8 yN
 obtain rfl:sn=st.length:=by have:=hst.len;simpa using this
 obtain rfl:ln=li.length:=by have:=I8.len;simpa using this
 obtain rfl:rn=rv.length:=by have:=yN.len;simpa using this
 have hml:maxLen=9223372036854775807:=rfl;refine jZ (N:=64) (T:=[(0,_)]) func57 rfl ntmps57 rfl rfl hO ?_;intro a H;refine dH (fun _ K1=>?_);refine fC (cs:=[_,_,_,_,_,_,_,_,_,_,_]) H wn rfl rfl rfl ?_;clear H;intro b1 a w hb1 H;refine kH H (ak K1 rfl (SQ fun _ K2=>?_));clear H K1;intro a H;obtain ⟨Ga,hma,hb1',H⟩:=H.eu
 have hc7:aJ Ga b1 7=some (.slice sA st.length sc):=by unfold aJ;rw [hb1'];rfl
 have hc8:aJ Ga b1 8=some (.slice lA li.length lc):=by unfold aJ;rw [hb1'];rfl
 have hc6:aJ Ga b1 6=some (.slice rA rv.length rc):=by unfold aJ;rw [hb1'];rfl
 replace hst:=hst.mono hma;replace I8:=I8.mono hma;replace yN:=yN.mono hma;refine oH ?_;refine EN H wn rfl ?_;clear H;intro b10 a w Qi H;refine EN H wn rfl ?_;clear H;intro b11 a w LP H;refine EN H wn rfl ?_;clear H;intro b12 a w Bg H;refine EN H wn rfl ?_;clear H;intro b13 a w LQ H;refine EN H wn rfl ?_;clear H;intro b14 a w LU H;refine jR amn [_,_,_,_,_,_] H wn rfl rfl rfl rfl ?_;clear H;intro a H;refine fC (cs:=[_,_,_,_,_,_]) H wn rfl rfl rfl ?_;clear H;intro b16 a w anv H;refine kH H (aU K2 rfl (SQ fun _ K3=>SR fun _ K4=>Rf Ls rfl (Rf O9 rfl (Rg tF rfl (by assumption) ?_))));clear H K2;intro a H;refine kH H (Rl nV rfl (Rm rfl (Kz K4 (SB ?_))));clear H K4;intro a H;skip;refine eU (ι:=Nat × GH) (Tc:=[(1,_),(3,_),(19,_),(20,_)]) (Lc:=[(_,_),(_,_),(_,_),(_,_),(_,_)]) (fun gh=>[(21,vi gh.1)]) (fun gh=>[(b10,fJ (zU (st.take gh.1)))]) (fun gh=>gh.2) (fun gh=>gh.1≤st.length∧(∀ b o,Ga b=some o→gh.2 b=some o)) (fun gh=>st.length - gh.1) ((0,Ga)) (by exact (H).sub ⟨rfl,rfl,rfl,rfl,rfl,aB⟩) ?_ ?_
 ·exact ⟨iB _,fun _ _ h=>h⟩
 clear H;intro gh a w hI H;obtain ⟨k,g1⟩:=gh;dsimp only at hI H;obtain ⟨hk,F7⟩:=hI;dsimp only [lca,bG] at H;refine kP H (SR fun _ K5=>Rc rfl (Kz K5 (SQ fun _ K6=>Cd rfl ?_ ?_))) <;> clear H K5
 ·intro h22 a H
  try have iC:=dT h22
  have hk2:k < st.length:=by omega
  obtain ⟨xb,xo,pA,pc,rfl,hrow,-,-⟩:=BM (hst.mono F7) hk2;have hnew:=ajy f1 hk2;refine kP H (Kc K6 (SQ fun _ K7=>SB (SR fun _ K8=>Ri nV kI rfl rfl ?_)));clear H K6;intro a H;refine bJ kI (cs:=_) H wn rfl rfl (fun j v hj=>H.hp.aJ (hrow j v hj)) rfl ?_;clear H;intro a H;refine eB kI H wn rfl ?_;clear H;intro b5 a w hb5 H;refine bM kI 0 (vs:=[_,_,_,_,_,_]) _ H wn rfl rfl rfl rfl rfl rfl rfl rfl ?_;clear H;intro w H;dsimp only [List.set,setRow] at H;refine K8 _ _ ?_;clear K8;refine dI hmx [[],[0],[0,1],[0,1,2],[],[4],[],[6],(ra 0 8)] [8] (by kernel_rfl) [_,_,_,.map (some b10),_,vi st[k].id,_,vi st[k].kind] H (aD (Z0 rfl (Rm rfl)) (Z1 0 25 rfl (Rk rfl)) (Z1 1 26 rfl (Rf IE rfl)) (Z1 2 27 rfl (Ro JY 1 rfl)) (aD (Z0 rfl (Rf uR rfl)) (Z1 4 29 rfl (Ro aH 0 rfl)) (Z0 rfl (Rf wZ rfl)) (Z1 6 31 rfl (Ro aH 0 rfl)) (aZ (bN rfl) cu))) ?_
  clear H;intro a w G zP H hv;have H:=H.aP (hv 3 28 rfl rfl) rfl;have H:=H.aP (hv 5 30 rfl rfl) rfl;have H:=H.aP (hv 7 32 rfl rfl) rfl;clear hv;refine MZ (i:=6) EY nW H wn rfl rfl rfl rfl hnew ?_;clear H;intro w H;dsimp only [List.set,List.append,lca,bG] at H;rw [← ajz hk2] at H;refine aG ⟨rfl,?_⟩;refine K7 _ _ ?_;clear K7;refine kP H (SC (Rd rfl (Rm rfl ?_)));clear H;intro a H;refine aG ?_;refine dh ((k+1,G)) (by exact (H.dP (Pl:=[_,_,_,_,_,_,_]) (dD:=[_,_,_,_,_,_]) [1,2,3,4,5,6] (by decide) rfl).sub ⟨rfl,rfl,rfl,rfl,rfl,aB⟩) ?_ ?_
  ·(try dsimp only);exact ⟨by omega,fun b o h=>zP b o (F7 b o h)⟩
  first|omega|(dsimp only;omega)
 intro h22 a H
 try have iC:=dF h22
 obtain rfl:k=st.length:=by omega
 rw [wS] at H;have anH:=aO F7 hc8;refine dW ?_;refine K3 _ _ ?_;clear K3;refine kP H (SQ fun _ K9=>SR fun _ aQ=>Rf Ls rfl (Rf Pb rfl (Rg EW rfl (by assumption) ?_)));clear H;intro a H;refine kH H (Rl EZ rfl (Rm rfl (Kz aQ (SB ?_))));clear H aQ;intro a H;skip;refine eU (ι:=Nat × GH) (Tc:=[(1,_),(3,_),(36,_),(37,_)]) (Lc:=[(_,_),(_,_),(_,_),(_,_),(_,_)]) (fun gh=>[(38,vi gh.1)]) (fun gh=>[(b11,fJ (fT ((li.map gq.id).take gh.1)))]) (fun gh=>gh.2) (fun gh=>gh.1≤li.length∧(∀ b o,g1 b=some o→gh.2 b=some o)) (fun gh=>li.length - gh.1) ((0,g1)) (by exact (H.dP (Pl:=[_,_,_,_,_,_]) (dD:=[_,_,_,_,_,_]) [0,1,2,3,5,4] (by decide) rfl).sub ⟨rfl,rfl,rfl,rfl,rfl,aB⟩) ?_ ?_
 ·exact ⟨iB _,fun _ _ h=>h⟩
 clear H;intro gh a w hI H;obtain ⟨k,g2⟩:=gh;dsimp only at hI H;obtain ⟨hk,Me⟩:=hI;dsimp only [lca,bG] at H;refine kP H (SR fun _ bH=>Rc rfl (Kz bH (SQ fun _ bL=>Cd rfl ?_ ?_))) <;> clear H bH
 ·intro lg a H
  try have p39:=dT lg
  have hk2:k < li.length:=by omega
  obtain ⟨xb,xo,B,d,rfl,hrow,-⟩:=Q5 ((I8.mono F7).mono Me) hk2
  have hk3:k < (li.map gq.id).length:=by simpa using hk2
  have hnew:=Yx f2 hk3
  have I6:(li.map gq.id)[k]=li[k].id:=by simp
  rw [I6] at hnew;refine kP H (Kc bL (SQ fun _ bR=>SB (SR fun _ bQ=>Ri EZ GZ rfl rfl ?_)));clear H bL;intro a H;refine bJ GZ (cs:=_) H wn rfl rfl (fun j v hj=>H.hp.aJ (hrow j v hj)) rfl ?_;clear H;intro a H;refine eB GZ H wn rfl ?_;clear H;intro b7 a w Em H;refine bM GZ 0 (vs:=[_,_]) _ H wn rfl rfl rfl rfl rfl rfl rfl rfl ?_;clear H;intro w H;dsimp only [List.set,setRow] at H;refine bQ _ _ ?_;clear bQ;refine dI hmx [[],[0],[0,1],[0,1,2],[],[4],(ra 0 6)] [6] (by kernel_rfl) [_,_,_,.map (some b11),_,vi li[k].id] H (aD (Z0 rfl (Rm rfl)) (Z1 0 42 rfl (Rk rfl)) (Z1 1 43 rfl (Rf V5 rfl)) (Z1 2 44 rfl (Ro Ae 1 rfl)) (aZ (Z0 rfl (Rf V9 rfl)) (aZ (Z1 4 46 rfl (Ro aH 0 rfl)) (aZ (bN rfl) cu)))) ?_
  clear H;intro a w G kW H hv;have H:=H.aP (hv 3 45 rfl rfl) rfl;have H:=H.aP (hv 5 47 rfl rfl) rfl;clear hv;refine MZ (i:=6) Ah nW H wn rfl rfl rfl rfl hnew ?_;clear H;intro w H;dsimp only [List.set,List.append,lca,bG] at H;rw [← I6,← Yy hk3] at H;refine aG ⟨rfl,?_⟩;refine bR _ _ ?_;clear bR;refine kP H (SC (Rd rfl (Rm rfl ?_)));clear H;intro a H;refine aG ?_;refine dh ((k+1,G)) (by exact (H.dP (Pl:=[_,_,_,_,_,_,_]) (dD:=[_,_,_,_,_,_]) [1,2,3,4,5,6] (by decide) rfl).sub ⟨rfl,rfl,rfl,rfl,rfl,aB⟩) ?_ ?_
  ·(try dsimp only);exact ⟨by omega,fun b o h=>kW b o (Me b o h)⟩
  first|omega|(dsimp only;omega)
 intro lg a H
 try have p39:=dF lg
 obtain rfl:k=li.length:=by omega
 rw [jF (by simp)] at H;have anG:=aO Me (aO F7 hc6);refine dW ?_;refine K9 _ _ ?_;clear K9;refine kP H (SQ fun _ dJ=>SR fun _ dO=>Rf Pg rfl (Rg Db rfl (by assumption) ?_));clear H;intro a H;refine kH H (Rl Dg rfl (Rm rfl (Kz dO (SB ?_))));clear H dO;intro a H;skip;refine eU (ι:=Nat × GH) (Tc:=[(3,_),(50,_),(51,_)]) (Lc:=[(_,_),(_,_),(_,_),(_,_),(_,_)]) (fun gh=>[(52,vi gh.1)]) (fun gh=>[(b12,fJ (fT ((rv.map fI.id).take gh.1)))]) (fun gh=>gh.2) (fun gh=>gh.1≤rv.length∧(∀ b o,g2 b=some o→gh.2 b=some o)) (fun gh=>rv.length - gh.1) ((0,g2)) (by exact (H.dP (Pl:=[_,_,_,_,_,_]) (dD:=[_,_,_,_,_,_]) [0,1,2,4,5,3] (by decide) rfl).sub ⟨rfl,rfl,rfl,rfl,aB⟩) ?_ ?_
 ·exact ⟨iB _,fun _ _ h=>h⟩
 clear H;intro gh a w hI H;obtain ⟨k,g3⟩:=gh;dsimp only at hI H;obtain ⟨hk,Xt⟩:=hI;dsimp only [lca,bG] at H;refine kP H (SR fun _ dK=>Rc rfl (Kz dK (SQ fun _ eO=>Cd rfl ?_ ?_))) <;> clear H dK
 ·intro PE a H
  try have p53:=dT PE
  have hk2:k < rv.length:=by omega
  obtain ⟨xb,xo,rfl,hrow⟩:=R3 (((yN.mono F7).mono Me).mono Xt) hk2
  have hk3:k < (rv.map fI.id).length:=by simpa using hk2
  have hnew:=Yx f3 hk3
  have I6:(rv.map fI.id)[k]=rv[k].id:=by simp
  rw [I6] at hnew;refine kP H (Kc eO (SQ fun _ gH=>SB (SR fun _ fE=>Ri Dg ET rfl rfl ?_)));clear H eO;intro a H;refine bJ ET (cs:=_) H wn rfl rfl (fun j v hj=>H.hp.aJ (hrow j v hj)) rfl ?_;clear H;intro a H;refine eB ET H wn rfl ?_;clear H;intro b9 a w yH H;refine bM ET 0 (vs:=[_,_,_]) _ H wn rfl rfl rfl rfl rfl rfl rfl rfl ?_;clear H;intro w H;dsimp only [List.set,setRow] at H;refine fE _ _ ?_;clear fE;refine dI hmx [[],[0],[0,1],[0,1,2],[],[4],(ra 0 6)] [6] (by kernel_rfl) [_,_,_,.map (some b12),_,vi rv[k].id] H (aD (Z0 rfl (Rm rfl)) (Z1 0 56 rfl (Rk rfl)) (Z1 1 57 rfl (Rf IG rfl)) (Z1 2 58 rfl (Ro Ae 1 rfl)) (aZ (Z0 rfl (Rf V7 rfl)) (aZ (Z1 4 60 rfl (Ro aH 0 rfl)) (aZ (bN rfl) cu)))) ?_
  clear H;intro a w G Eh H hv;have H:=H.aP (hv 3 59 rfl rfl) rfl;have H:=H.aP (hv 5 61 rfl rfl) rfl;clear hv;refine MZ (i:=6) Ah nW H wn rfl rfl rfl rfl hnew ?_;clear H;intro w H;dsimp only [List.set,List.append,lca,bG] at H;rw [← I6,← Yy hk3] at H;refine aG ⟨rfl,?_⟩;refine gH _ _ ?_;clear gH;refine kP H (SC (Rd rfl (Rm rfl ?_)));clear H;intro a H;refine aG ?_;refine dh ((k+1,G)) (by exact (H.dP (Pl:=[_,_,_,_,_,_,_]) (dD:=[_,_,_,_,_,_]) [1,2,3,4,5,6] (by decide) rfl).sub ⟨rfl,rfl,rfl,rfl,aB⟩) ?_ ?_
  ·(try dsimp only);exact ⟨by omega,fun b o h=>Eh b o (Xt b o h)⟩
  first|omega|(dsimp only;omega)
 intro PE a H
 try have p53:=dF PE
 obtain rfl:k=rv.length:=by omega
 rw [jF (by simp)] at H;refine dW ?_;refine dJ _ _ ?_;clear dJ;refine kP H (SR fun _ gL=>Rm rfl (ak gL rfl ?_));clear H gL;intro a H;refine cK ?_;have H:=H.dP (Pl:=[_,_,_,_,_,_]) (dD:=[_,_,_,_,_,_]) [3,4,5,1,0,2] (by decide) rfl;obtain ⟨Gs,hms,hs,H⟩:=H.eu;obtain ⟨Gl,Je,hl,H⟩:=H.eu;obtain ⟨Gr,hmr,hr,H⟩:=H.eu;obtain ⟨Gu,hmu,hu,H⟩:=H.eu;refine lv H results57 rfl ?_;exact H.hp.eX ⟨b16,b10,b11,b12,b13,b14,rfl,rfl,⟨hmu _ _ (hmr _ _ (Je _ _ hs)),hmu _ _ (hmr _ _ hl),hmu _ _ hr,hu⟩⟩
end
section
open Go.RowKit
theorem afM:cB prog 147 4 4:=⟨by kernel_rfl⟩
theorem V6:cB prog 147 3 3:=⟨by kernel_rfl⟩
theorem EG (x:Int):∀ l:List Int,(rT x (fT l)).getD (.bool false)=.bool (decide (x∈l))
 | []=>rfl
 | k :: r=>by
  have ih:=EG x r;rw [fT,fu,rT]
  by_cases e:k=x
  ·subst e;simp
  rw [ah e,show (r.map fun k=>(k,Value.bool true))=fT r from rfl,ih]
  simp [show x≠k from fun h=>e h.symm]
def M7 (st:List bU) (v:Int):Int:=((st.find? fun s=>decide (s.id=v)).map bU.kind).getD 0
theorem JG (x:Int):∀ l:List bU,(rT x (zU l)).getD (vi 0)=vi (M7 l x)
 | []=>rfl
 | s :: r=>by
  have ih:=JG x r;rw [zU,fu,rT]
  by_cases e:s.id=x
  ·subst e;simp [M7]
  rw [ah e,show (r.map fun s=>(s.id,vi s.kind))=zU r from rfl,ih]
  simp [M7,e]
def qB (bO:List Int) (x:Int):Int:=if ¬ (1≤x∧x≤1073741824) then 18 else if x∈bO then 7 else 0
def kg (bO:List Int) (x:Int):List Int:=if qB bO x=0 then bO++[x] else bO
theorem ajx (l:List Int) (x:Int):fT (l++[x])=fT l++[(x,.bool true)]:=by simp [fT]
theorem Oj (G:GH) (L:OL) (w0:World) (st:List bU) (li:List gq) (rv:List fI) (b ms ml mr mb mu:Nat) (n:Int) (bO:List Int) (x:Int) (hck:uH G st li rv ms ml mr mu) (hO:gZ G (fP b ms ml mr mb mu n :: (mb,fJ (fT bO)) :: L) w0) :
  Calls prog 128 #[(aI b 0),vi x] w0 (gI w0 G (fP b ms ml mr mb mu n :: (mb,fJ (fT bO)) :: L) fun u G' L'=>u=vi (qB bO x)∧L'=fP b ms ml mr mb mu n :: (mb,fJ (fT (kg bO x))) :: L∧G=G'):=by
 refine jZ (N:=29) (T:=[(0,_),(1,_)]) func128 rfl ntmps128 rfl rfl hO ?_;intro a H;refine kP H (SR fun _ K1=>ak K1 rfl (SQ fun _ K2=>SB (SR fun _ K3=>Rm rfl ?_)));clear H K1;intro a H;refine s_call vU H wn rfl (wu _ _ H.ro x 1 1073741824) rfl ?_;clear H;rintro v7 _ a w ⟨rfl,rfl⟩ - H;refine kH H (Rn rfl (Rm rfl (Sp 9 rfl ?_ ?_))) <;> clear H
 ·intro h9 a H
  try have p9:=dT h9
  refine kH H (bC h9 rfl (bC h9 rfl (Pt h9 rfl (ak K3 rfl (Ct rfl rfl (SQ fun _ K4=>?_))))));clear H K3;intro a H
  have e:qB bO x=18:=by rw [qB,av (by first|(simp_all;done)|(simp_all;omega))]
  refine kP H (SC (aU K4 rfl ?_));clear H K4;intro a H;refine lr H results128 rfl ?_
  first
   | exact H.hp.eX ⟨by rw [e],by rw [kg,av e],rfl⟩
   | exact H.hp.eX ⟨by rw [e],by rw [kg,ah (by rw [e];decide)],rfl⟩
 intro h9 a H
 try have p9:=dF h9
 refine kH H (YM h9 rfl ?_);clear H;intro a H;refine sW H (wg H rfl rfl h9) rfl rfl ?_;clear H;intro a H;refine kH H (YF afM h9 rfl (YO Ae 0 h9 rfl (YM h9 rfl ?_)));clear H;intro a H;refine zi (zv:=.bool false) Ah nW (by kernel_rfl) H (wg H rfl rfl h9) rfl rfl (H.ro _ _ hck.use) rfl ?_;clear H;intro a H;rw [show (rT x []).getD (Value.bool false)=.bool false from rfl] at H;refine kH H (Pf h9 rfl (ak K3 rfl (Cd rfl ?_ ?_))) <;> clear H K3
 ·intro h5 a H
  try have p5:=dT h5
  refine bK (fun _ K5=>?_)
  have e:qB bO x=18:=by rw [qB,av (by first|(simp_all;done)|(simp_all;omega))]
  refine kP H (SC (aU K5 rfl ?_));clear H K5;intro a H;refine lr H results128 rfl ?_
  first
   | exact H.hp.eX ⟨by rw [e],by rw [kg,av e],rfl⟩
   | exact H.hp.eX ⟨by rw [e],by rw [kg,ah (by rw [e];decide)],rfl⟩
 intro h5 a H
 try have p5:=dF h5
 have hin:decide (1≤x∧x≤1073741824)=true:=by simp_all
 refine kP H (SR fun _ K6=>Rm rfl (Rk rfl (aT V6 Ae 0 rfl rfl (Rm rfl ?_))));clear H;intro a H;refine zi (zv:=.bool false) Ah nW (by kernel_rfl) H wn rfl rfl (H.hp.own _ (iZ _ gP)) rfl ?_;clear H;intro a H;rw [EG] at H;refine kH H (ak K6 rfl (Cd rfl ?_ ?_)) <;> clear H K6
 ·intro eF a H
  refine bK (fun _ K7=>?_)
  have e:qB bO x=7:=by rw [qB,ah (by simpa using hin),av (oG eF)]
  refine kP H (SC (aU K7 rfl ?_));clear H K7;intro a H;refine lr H results128 rfl ?_
  first
   | exact H.hp.eX ⟨by rw [e],by rw [kg,av e],rfl⟩
   | exact H.hp.eX ⟨by rw [e],by rw [kg,ah (by rw [e];decide)],rfl⟩
 intro eF a H
 have hx:x∉bO:=of_decide_eq_false eF;have hnew:rT x (fT bO)=none:=Mv (by simpa [fT,List.map_map,Function.comp_def] using hx)
 have e:qB bO x=0:=by rw [qB,ah (by simpa using hin),ah hx]
 refine kP H (Kc K2 (SR fun _ K8=>Rm rfl (Rk rfl (aT V6 Ae 0 rfl rfl (Rm rfl ?_)))));clear H K2;intro a H;refine MZ (i:=1) Ah nW H wn rfl rfl rfl rfl hnew ?_;clear H;intro w H;dsimp only [List.set] at H;rw [← ajx] at H;refine K8 _ _ ?_;clear K8;refine kP H (SR fun _ K9=>ak K9 rfl ?_);clear H K9;intro a H;refine lr H results128 rfl ?_
 first
  | exact H.hp.eX ⟨by rw [e],by rw [kg,av e],rfl⟩
  | exact H.hp.eX ⟨by rw [e],by rw [kg,ah (by rw [e];decide)],rfl⟩
def ow (st:List bU) (yU:List Int) (key v:Int):Int :=
 if key=20∨key=1 then cO (decide (v≠0∧M7 st v≠(if key=1 then 2 else 1))) 25 else if key=33 then cO (decide (v≠0∧v∉yU)) 26 else 0
theorem Ol (G:GH) (w0:World) (hG:Hold G w0) (st:List bU) (li:List gq) (rv:List fI) (b ms ml mr mb mu:Nat) (n:Int) (key v:Int) (hck:uH G st li rv ms ml mr mu) (hb:G b=some (fP b ms ml mr mb mu n).2) :
  Calls prog 91 #[(aI b 0),vi key,vi v] w0 (bq w0 G fun u G'=>u=vi (ow st (li.map gq.id) key v)∧G=G'):=by
 have hc0:aJ G b 0=some (.map (some ms)):=by unfold aJ;rw [hb];rfl
 have hc1:aJ G b 1=some (.map (some ml)):=by unfold aJ;rw [hb];rfl
 refine eN [(0,_),(1,_),(2,_)] func91 rfl ntmps91 rfl rfl hG ?_;intro a H;refine kP H (SR fun _ K1=>ak K1 rfl (SQ fun _ K2=>SR fun _ K3=>Rm rfl (Kz K3 (SB (SQ fun _ K4=>SR fun _ K5=>Rc rfl (ak K5 rfl (Cd rfl ?_ ?_))))))) <;> clear H K1 K3 K5
 ·intro h9 a H
  try have p9:=dT h9
  refine kP H (Kc K4 (Ct rfl h9 (SR fun _ K6=>ak K6 rfl (SQ fun _ K7=>SR fun _ K8=>Rm rfl (Rc rfl (Kz K8 (Cd rfl ?_ ?_))))))) <;> clear H K4 K6 K8
  ·intro gB a H
   try have qV:=dT gB
   refine kP H (SC (aU K7 rfl (SR fun _ K9=>Rm rfl (Rc rfl (Rm rfl (Sp 16 rfl ?_ ?_)))))) <;> clear H K7
   ·intro h16 a H
    try have p16:=dT h16
    refine kH H (YM h16 rfl ?_);clear H;intro a H;refine sW H (wg H rfl rfl h16) rfl rfl ?_;clear H;intro a H;refine kH H (YF IE h16 rfl (YR JY h16 rfl (by assumption) ?_));clear H;intro a H;refine kH H (YM h16 rfl ?_);clear H;intro a H;refine zi (zv:=vi 0) EY nW (by kernel_rfl) H (wg H rfl rfl h16) rfl rfl (H.ro _ _ hck.sty) rfl ?_;clear H;intro a H;rw [JG] at H;refine kH H (YM h16 rfl (YC h16 rfl (Pt h16 rfl ?_)));clear H;intro a H;refine s_call jo H wn rfl (jv _ _ H.ro _ 25) rfl ?_;clear H;rintro v26 _ a w ⟨rfl,rfl⟩ - H;refine kH H (ak K9 rfl ?_);clear H K9;intro a H;refine lr H results91 rfl ?_
    exact H.rt ⟨aC vi (by unfold ow;(repeat' split) <;> first|rfl|(simp_all;done)|(exfalso;simp_all;done)|(congr 1;rw [og];simp only [tV,sF,qo];exact ⟨fun h=>⟨p31,h⟩,fun h=>h.2⟩)),rfl⟩
   intro h16 a H
   try have p16:=dF h16
   refine kH H (bC h16 rfl (bC h16 rfl (aR h16 rfl (Pf h16 rfl ?_))));clear H;intro a H;refine s_call jo H wn rfl (jv _ _ H.ro _ 25) rfl ?_;clear H;rintro v26 _ a w ⟨rfl,rfl⟩ - H;refine kH H (ak K9 rfl ?_);clear H K9;intro a H;refine lr H results91 rfl ?_
   exact H.rt ⟨aC vi (by unfold ow;(repeat' split) <;> first|rfl|(simp_all;done)|(exfalso;simp_all;done)|(congr 1;rw [og];simp only [tV,sF,qo];exact ⟨fun h=>⟨p31,h⟩,fun h=>h.2⟩)),rfl⟩
  intro gB a H
  try have qV:=dF gB
  refine kP H (Kc K7 (SR fun _ aQ=>Rm rfl (Rc rfl (Rm rfl (Sp 16 rfl ?_ ?_))))) <;> clear H K7
  ·intro h16 a H
   try have p16:=dT h16
   refine kH H (YM h16 rfl ?_);clear H;intro a H;refine sW H (wg H rfl rfl h16) rfl rfl ?_;clear H;intro a H;refine kH H (YF IE h16 rfl (YR JY h16 rfl (by assumption) ?_));clear H;intro a H;refine kH H (YM h16 rfl ?_);clear H;intro a H;refine zi (zv:=vi 0) EY nW (by kernel_rfl) H (wg H rfl rfl h16) rfl rfl (H.ro _ _ hck.sty) rfl ?_;clear H;intro a H;rw [JG] at H;refine kH H (YM h16 rfl (YC h16 rfl (Pt h16 rfl ?_)));clear H;intro a H;refine s_call jo H wn rfl (jv _ _ H.ro _ 25) rfl ?_;clear H;rintro v26 _ a w ⟨rfl,rfl⟩ - H;refine kH H (ak aQ rfl ?_);clear H aQ;intro a H;refine lr H results91 rfl ?_
   exact H.rt ⟨aC vi (by unfold ow;(repeat' split) <;> first|rfl|(simp_all;done)|(exfalso;simp_all;done)|(congr 1;rw [og];simp only [tV,sF,qo];exact ⟨fun h=>⟨p31,h⟩,fun h=>h.2⟩)),rfl⟩
  intro h16 a H
  try have p16:=dF h16
  refine kH H (bC h16 rfl (bC h16 rfl (aR h16 rfl (Pf h16 rfl ?_))));clear H;intro a H;refine s_call jo H wn rfl (jv _ _ H.ro _ 25) rfl ?_;clear H;rintro v26 _ a w ⟨rfl,rfl⟩ - H;refine kH H (ak aQ rfl ?_);clear H aQ;intro a H;refine lr H results91 rfl ?_
  exact H.rt ⟨aC vi (by unfold ow;(repeat' split) <;> first|rfl|(simp_all;done)|(exfalso;simp_all;done)|(congr 1;rw [og];simp only [tV,sF,qo];exact ⟨fun h=>⟨p31,h⟩,fun h=>h.2⟩)),rfl⟩
 intro h9 a H
 try have p9:=dF h9
 refine kP H (SC (Rc rfl (aU K4 rfl (Cd rfl ?_ ?_)))) <;> clear H K4
 ·intro h9 a H
  try have p9:=dT h9
  refine kP H (SR fun _ bH=>ak bH rfl (SQ fun _ bL=>SR fun _ bR=>Rm rfl (Rc rfl (Kz bR (Cd rfl ?_ ?_))))) <;> clear H bH bR
  ·intro gB a H
   try have qV:=dT gB
   refine kP H (SC (aU bL rfl (SR fun _ bQ=>Rm rfl (Rc rfl (Rm rfl (Sp 16 rfl ?_ ?_)))))) <;> clear H bL
   ·intro h16 a H
    try have p16:=dT h16
    refine kH H (YM h16 rfl ?_);clear H;intro a H;refine sW H (wg H rfl rfl h16) rfl rfl ?_;clear H;intro a H;refine kH H (YF IE h16 rfl (YR JY h16 rfl (by assumption) ?_));clear H;intro a H;refine kH H (YM h16 rfl ?_);clear H;intro a H;refine zi (zv:=vi 0) EY nW (by kernel_rfl) H (wg H rfl rfl h16) rfl rfl (H.ro _ _ hck.sty) rfl ?_;clear H;intro a H;rw [JG] at H;refine kH H (YM h16 rfl (YC h16 rfl (Pt h16 rfl ?_)));clear H;intro a H;refine s_call jo H wn rfl (jv _ _ H.ro _ 25) rfl ?_;clear H;rintro v26 _ a w ⟨rfl,rfl⟩ - H;refine kH H (ak bQ rfl ?_);clear H bQ;intro a H;refine lr H results91 rfl ?_
    exact H.rt ⟨aC vi (by unfold ow;(repeat' split) <;> first|rfl|(simp_all;done)|(exfalso;simp_all;done)|(congr 1;rw [og];simp only [tV,sF,qo];exact ⟨fun h=>⟨p31,h⟩,fun h=>h.2⟩)),rfl⟩
   intro h16 a H
   try have p16:=dF h16
   refine kH H (bC h16 rfl (bC h16 rfl (aR h16 rfl (Pf h16 rfl ?_))));clear H;intro a H;refine s_call jo H wn rfl (jv _ _ H.ro _ 25) rfl ?_;clear H;rintro v26 _ a w ⟨rfl,rfl⟩ - H;refine kH H (ak bQ rfl ?_);clear H bQ;intro a H;refine lr H results91 rfl ?_
   exact H.rt ⟨aC vi (by unfold ow;(repeat' split) <;> first|rfl|(simp_all;done)|(exfalso;simp_all;done)|(congr 1;rw [og];simp only [tV,sF,qo];exact ⟨fun h=>⟨p31,h⟩,fun h=>h.2⟩)),rfl⟩
  intro gB a H
  try have qV:=dF gB
  refine kP H (Kc bL (SR fun _ dJ=>Rm rfl (Rc rfl (Rm rfl (Sp 16 rfl ?_ ?_))))) <;> clear H bL
  ·intro h16 a H
   try have p16:=dT h16
   refine kH H (YM h16 rfl ?_);clear H;intro a H;refine sW H (wg H rfl rfl h16) rfl rfl ?_;clear H;intro a H;refine kH H (YF IE h16 rfl (YR JY h16 rfl (by assumption) ?_));clear H;intro a H;refine kH H (YM h16 rfl ?_);clear H;intro a H;refine zi (zv:=vi 0) EY nW (by kernel_rfl) H (wg H rfl rfl h16) rfl rfl (H.ro _ _ hck.sty) rfl ?_;clear H;intro a H;rw [JG] at H;refine kH H (YM h16 rfl (YC h16 rfl (Pt h16 rfl ?_)));clear H;intro a H;refine s_call jo H wn rfl (jv _ _ H.ro _ 25) rfl ?_;clear H;rintro v26 _ a w ⟨rfl,rfl⟩ - H;refine kH H (ak dJ rfl ?_);clear H dJ;intro a H;refine lr H results91 rfl ?_
   exact H.rt ⟨aC vi (by unfold ow;(repeat' split) <;> first|rfl|(simp_all;done)|(exfalso;simp_all;done)|(congr 1;rw [og];simp only [tV,sF,qo];exact ⟨fun h=>⟨p31,h⟩,fun h=>h.2⟩)),rfl⟩
  intro h16 a H
  try have p16:=dF h16
  refine kH H (bC h16 rfl (bC h16 rfl (aR h16 rfl (Pf h16 rfl ?_))));clear H;intro a H;refine s_call jo H wn rfl (jv _ _ H.ro _ 25) rfl ?_;clear H;rintro v26 _ a w ⟨rfl,rfl⟩ - H;refine kH H (ak dJ rfl ?_);clear H dJ;intro a H;refine lr H results91 rfl ?_
  exact H.rt ⟨aC vi (by unfold ow;(repeat' split) <;> first|rfl|(simp_all;done)|(exfalso;simp_all;done)|(congr 1;rw [og];simp only [tV,sF,qo];exact ⟨fun h=>⟨p31,h⟩,fun h=>h.2⟩)),rfl⟩
 intro h9 a H
 try have p9:=dF h9
 refine kP H (SR fun _ dO=>Rc rfl (ak dO rfl (Cd rfl ?_ ?_))) <;> clear H dO
 ·intro h27 a H
  try have p27:=dT h27
  refine kP H (SR fun _ dK=>Rm rfl (Rc rfl (Rm rfl (Sp 31 rfl ?_ ?_)))) <;> clear H
  ·intro h31 a H
   try have p31:=dT h31
   refine kH H (YM h31 rfl ?_);clear H;intro a H;refine sW H (wg H rfl rfl h31) rfl rfl ?_;clear H;intro a H;refine kH H (YF V5 h31 rfl (YR Ae h31 rfl (by assumption) ?_));clear H;intro a H;refine kH H (YM h31 rfl ?_);clear H;intro a H;refine zi (zv:=.bool false) Ah nW (by kernel_rfl) H (wg H rfl rfl h31) rfl rfl (H.ro _ _ hck.yU) rfl ?_;clear H;intro a H;rw [EG] at H;refine kH H (YN h31 rfl (Pt h31 rfl ?_));clear H;intro a H;refine s_call jo H wn rfl (jv _ _ H.ro _ 26) rfl ?_;clear H;rintro v40 _ a w ⟨rfl,rfl⟩ - H;refine kH H (ak dK rfl ?_);clear H dK;intro a H;refine lr H results91 rfl ?_
   exact H.rt ⟨aC vi (by unfold ow;(repeat' split) <;> first|rfl|(simp_all;done)|(exfalso;simp_all;done)|(congr 1;rw [og];simp only [tV,sF,qo];exact ⟨fun h=>⟨p31,h⟩,fun h=>h.2⟩)),rfl⟩
  intro h31 a H
  try have p31:=dF h31
  refine kH H (bC h31 rfl (aR h31 rfl (aR h31 rfl (Pf h31 rfl ?_))));clear H;intro a H;refine s_call jo H wn rfl (jv _ _ H.ro _ 26) rfl ?_;clear H;rintro v40 _ a w ⟨rfl,rfl⟩ - H;refine kH H (ak dK rfl ?_);clear H dK;intro a H;refine lr H results91 rfl ?_
  exact H.rt ⟨aC vi (by unfold ow;(repeat' split) <;> first|rfl|(simp_all;done)|(exfalso;simp_all;done)|(congr 1;rw [og];simp only [tV,sF,qo];exact ⟨fun h=>⟨p31,h⟩,fun h=>h.2⟩)),rfl⟩
 intro h27 a H
 try have p27:=dF h27
 refine kP H (Kc K2 (SR fun _ eO=>ak eO rfl ?_));clear H K2 eO;intro a H;refine lr H results91 rfl ?_
 exact H.rt ⟨aC vi (by unfold ow;(repeat' split) <;> first|rfl|(simp_all;done)|(exfalso;simp_all;done)|(congr 1;rw [og];simp only [tV,sF,qo];exact ⟨fun h=>⟨p31,h⟩,fun h=>h.2⟩)),rfl⟩
end
section
open Go.RowKit
section
variable {N:Nat} {D:List Deferred} {w0:World} {F:Nat→Prop} {G0 G G':GH} {L L':OL} {T:List (Nat × aj)}
variable {r:Option Nat} {P:Program} {ops:Array Oper} {Q:Exit→Act→World→Prop} {rest:List Oper} {a:Act} {w w':World}
theorem BR {ι:Type} {Tc:List (Nat × aj)} {l:List Oper} (k:Nat) (Tv:ι→List (Nat × aj)) (Pr:ι→Prop) (_:St N D w0 F G0 G L Tc a w)
  (h1:(∀ i a w,Pr i→St N D w0 F G0 G L (Tv i++Tc) a w→WL r P ops Q (l.drop k) a w)→WL r P ops Q l a w)
  (h2:∀ i a w,Pr i→St N D w0 F G0 G L (Tv i++Tc) a w→WL r P ops Q (l.drop k) a w):WL r P ops Q l a w:=h1 h2
theorem Change.back (h:Change w w' G G' L L'):Change w w' G G L L' :=
 ⟨h.os,h.tape,h.output,h.size,h.fr,fun _ _ h=>h,fun _ _ h=>.inl h,⟨fun k o hk=>h.owns.ro k o (h.gm k o hk),h.owns.own,fun p hp=>(by
  have hs:=h.owns.sep p hp
  cases hg:G p.1 with
  | none=>rfl
  | some o=>have:=h.gm _ _ hg;rw [hs] at this;cases this),h.owns.nd⟩,h.lx⟩
theorem gI.back {R:aj→GH→OL→Prop} {R':aj→OL→Prop} (hR:∀ v G' L',R v G' L'→R' v L') {e:Ending} (h:gI w G L R e w'):gI w G L (fun v G' L'=>G=G'∧R' v L') e w':=by
 obtain ⟨v,G',L',rfl,hc,hr⟩:=h
 exact ⟨v,G,L',rfl,hc.back,rfl,hR _ _ _ hr⟩
theorem Calls.abV {f:FuncId} {args:Array aj} {R:aj→GH→OL→Prop} {R':aj→OL→Prop} (h:Calls P f args w (gI w G L R)) (hR:∀ v G' L',R v G' L'→R' v L'):Calls P f args w (gI w G L fun v G' L'=>G=G'∧R' v L') :=
 h.mono fun _ _=>gI.back hR
theorem bq.back {R:aj→GH→Prop} {e:Ending} (h:bq w G R e w'):bq w G (fun v G'=>(∃ g,R v g)∧G=G') e w':=by
 obtain ⟨v,G',rfl,hb,hX,hr⟩:=h
 exact ⟨v,G,rfl,hb,⟨fun _ _ h=>h,fun _ _ h=>.inl h,fun k o hk=>hX.2.2 k o (hX.1 k o hk)⟩,⟨G',hr⟩,rfl⟩
theorem UJ {f:FuncId} {args:Array aj} {R:aj→GH→Prop} (h:Calls P f args w (bq w G R)):Calls P f args w (bq w G fun v G'=>(∃ g,R v g)∧G=G'):=h.mono fun _ _=>bq.back
theorem gZ.add {b:Nat} {o:Obj} (h:gZ G ((b,o) :: L) w):Hold (G.add b o) w:=fun k o' hk=>by
 unfold GH.add at hk
 split at hk
 ·next e=>cases hk;subst e;exact h.own _ gP
 ·exact h.ro k o' hk
theorem akY {b:Nat} {o:Obj} {R:aj→GH→Prop} {R':aj→Prop} (hO:gZ G ((b,o) :: L) w) (hR:∀ v G',R v G'→R' v) {e:Ending} (h:bq w (G.add b o) R e w'):gI w G ((b,o) :: L) (fun v G' L'=>G=G'∧L'=(b,o) :: L∧R' v) e w':=by
 obtain ⟨v,G',rfl,hb,hX,hr⟩:=h
 exact ⟨v,G,_,rfl,(hO.hp.below hb).aap,rfl,rfl,hR _ _ hr⟩
end
end
section
open Go.RowKit
theorem afy:Kh prog 187 [(0,false),(1,false)]:=⟨by kernel_rfl,by kernel_rfl,by kernel_rfl,by kernel_rfl,by kernel_rfl⟩
theorem afz:Kh prog 190 [(0,false),(1,false)]:=⟨by kernel_rfl,by kernel_rfl,by kernel_rfl,by kernel_rfl,by kernel_rfl⟩
theorem afA:Kh prog 199 [(0,false),(1,false),(2,false),(3,true)]:=⟨by kernel_rfl,by kernel_rfl,by kernel_rfl,by kernel_rfl,by kernel_rfl⟩
theorem adO:∀ args w,(callFunc 106 args).run prog w=.ok (.enter 106 args) w:=enters func106 rfl (by kernel_rfl)
theorem xg:cB prog 27 0 0:=⟨by kernel_rfl⟩
theorem Ch:cB prog 27 1 1:=⟨by kernel_rfl⟩
theorem adP:∀ args w,(callFunc 107 args).run prog w=.ok (.enter 107 args) w:=enters func107 rfl (by kernel_rfl)
theorem adQ:∀ args w,(callFunc 108 args).run prog w=.ok (.enter 108 args) w:=enters func108 rfl (by kernel_rfl)
abbrev jN.cells (x:jN):List aj:=[vi x.rev,vi x.move]
abbrev jw.cells (x:jw):List aj:=[vi x.rev,vi x.key,vi x.before,.bool x.had]
theorem Ox {G:GH} {x:jN} {cs:List aj} (h:aY G x.dat cs):cs=x.cells:=by
 simp only [jN.dat,aY,ay] at h
 obtain ⟨_,_,rfl,⟨rfl,_⟩,_,_,rfl,⟨rfl,_⟩,rfl⟩:=h
 rfl
theorem QZ {G:GH} {x:jw} {cs:List aj} (h:aY G x.dat cs):cs=x.cells:=by
 simp only [jw.dat,aY,ay] at h
 obtain ⟨_,_,rfl,⟨rfl,_⟩,_,_,rfl,⟨rfl,_⟩,_,_,rfl,⟨rfl,_⟩,_,_,rfl,⟨rfl,_⟩,rfl⟩:=h
 rfl
theorem iL.eq_iff (a b:iL):(a.key=b.key∧a.value=b.value)↔a=b:=by cases a;cases b;simp
theorem jN.eq_iff (a b:jN):(a.rev=b.rev∧a.move=b.move)↔a=b:=by cases a;cases b;simp
theorem jw.eq_iff (a b:jw):(a.rev=b.rev∧a.key=b.key∧a.before=b.before∧a.had=b.had)↔a=b:=by cases a;cases b;simp
instance:DecidableEq iL:=fun a b=>decidable_of_iff _ (iL.eq_iff a b)
instance:DecidableEq jN:=fun a b=>decidable_of_iff _ (jN.eq_iff a b)
instance:DecidableEq jw:=fun a b=>decidable_of_iff _ (jw.eq_iff a b)
theorem ajX (a b:iL):(!([(0,false),(1,false)].all fun o=>kE #[vi a.key,vi a.value] o == kE #[vi b.key,vi b.value] o))=!decide (a=b):=by
 have h:=iL.eq_iff a b;rw [og]
 simp only [tV,sF]
 rw [← h]
 simp [kE]
theorem ajV (a b:jN):(!([(0,false),(1,false)].all fun o=>kE #[vi a.rev,vi a.move] o == kE #[vi b.rev,vi b.move] o))=!decide (a=b):=by
 have h:=jN.eq_iff a b;rw [og]
 simp only [tV,sF]
 rw [← h]
 simp [kE]
theorem ajW (a b:jw):(!([(0,false),(1,false),(2,false),(3,true)].all fun o=>kE #[vi a.rev,vi a.key,vi a.before,.bool a.had] o == kE #[vi b.rev,vi b.key,vi b.before,.bool b.had] o))=!decide (a=b):=by
 have h:=jw.eq_iff a b;rw [og]
 simp only [tV,sF]
 rw [← h]
 simp [kE]
theorem afx (G:GH) (w0:World) (hG:Hold G w0) (A B:List iL) (v u:aj) (hv:ay G (.sl 2 (A.map iL.dat)) v) (hu:ay G (.sl 2 (B.map iL.dat)) u) :
  Calls prog 106 #[v,u] w0 (bq w0 G fun r G'=>r=.bool (decide (A=B))):=by
 obtain ⟨vA,vc,rfl,hc1,hc2,hg⟩:=hv.slice;obtain ⟨uA,uc,rfl,hd1,hd2,hh⟩:=hu.slice;have hml:maxLen=9223372036854775807:=rfl;(iterate 2 rw [bV] at *);refine eN [(0,_),(1,_)] func106 rfl ntmps106 rfl rfl hG ?_;intro a H;refine kP H (SR fun _ K1=>ak K1 rfl (SQ fun _ K2=>SR fun _ K3=>Rm rfl (Rl qd rfl (Rm rfl (Rl qd rfl (Rc rfl (Kz K3 (Cd rfl ?_ ?_)))))))) <;> clear H K1 K3
 ·intro h10 a H
  try have lV:=dT h10
  exact kP H (SR fun _ K4=>ak K4 rfl (LR results106 rfl fun H=>H.rt (aF (iU fun e=>absurd (aC List.length e) (by omega)).symm)))
 intro h10 a H
 try have lV:=dF h10
 refine kP H (Kc K2 (SQ fun _ K5=>SR fun _ K6=>Rm rfl (Rl qd rfl (Rm rfl (Kz K6 (SB ?_))))));clear H K2 K6;intro a H;skip;refine eU (ι:=Nat × GH) (Tc:=[(0,_),(1,_),(12,_)]) (Lc:=[]) (fun gh=>[(13,vi gh.1)]) (fun gh=>[]) (fun gh=>gh.2) (fun gh=>gh.1≤A.length∧A.take gh.1=B.take gh.1∧(∀ b o,G b=some o→gh.2 b=some o)) (fun gh=>A.length - gh.1) ((0,G)) (by exact (H).sub ⟨rfl,rfl,rfl,rfl,aB⟩) ?_ ?_
 ·exact ⟨by omega,rfl,fun _ _ h=>h⟩
 clear H;intro gh a w hI H;obtain ⟨k,g⟩:=gh;dsimp only at hI H;obtain ⟨hk,hsame,hgm⟩:=hI;dsimp only [lca,bG] at H;refine kP H (SR fun _ K7=>Rc rfl (Kz K7 (SQ fun _ K8=>Cd rfl ?_ ?_))) <;> clear H K7
 ·intro dY a H
  try have lC:=dT dY
  have hk2:k < A.length:=by omega
  have hk3:k < B.length:=by omega
  obtain ⟨b1,o1,cs1,rfl,Xa,Jp,hr1⟩:=hg k A[k].dat (by simp [hk2]);obtain rfl:=RN hr1;obtain ⟨b2,o2,cs2,rfl,Xb,hrow2,hr2⟩:=hh k B[k].dat (by simp [hk3]);obtain rfl:=RN hr2;refine kP H (Kc K8 (SQ fun _ K9=>SB (SR fun _ aQ=>Rm rfl (ak aQ rfl (SQ fun _ bH=>?_)))));clear H K8 aQ;intro a H;refine dI hmx [[],[],[0,1],[0,1,2],[],[],[4,5],[4,5,6],(ra 0 8)] [] (by kernel_rfl) [_,_,_,.agg A[k].cells.toArray,_,_,_,.agg B[k].cells.toArray,.bool (!decide (A[k]=B[k]))] H (aD (Z0 rfl (Rm rfl)) (Z0 rfl (Rm rfl)) (Z2 0 16 1 17 rfl (Ri qd nT rfl rfl)) ?_ (aD (Z0 rfl (Rm rfl)) (Z0 rfl (Rm rfl)) (Z2 4 20 5 21 rfl (Ri qd nT rfl rfl)) ?_ (aZ ?_ cu))) ?_
  ·refine dB 2 18 rfl rfl fun _ a w G1 hG HT H fin=>?_;refine bJ nT (cs:=A[k].cells) H wn rfl rfl (fun j v hj=>H.hp.aJ (aO hG (aO hgm (Jp j v hj)))) rfl ?_;clear H;intro a H;exact fin H iJ rfl
  ·refine dB 6 22 rfl rfl fun _ a w G1 hG HT H fin=>?_;refine bJ nT (cs:=B[k].cells) H wn rfl rfl (fun j v hj=>H.hp.aJ (aO hG (aO hgm (hrow2 j v hj)))) rfl ?_;clear H;intro a H;exact fin H iJ rfl
  ·refine bZ 3 19 7 23 rfl rfl fun _ a w G1 hG HT H fin=>?_;refine R8 (.inr rfl) afy H wn rfl rfl rfl rfl ?_;clear H;intro a H;exact fin H iJ (aF (ajX A[k] B[k]))
  clear H;intro a w G iq H hv;have H:=H.aP (hv 8 24 rfl rfl) rfl;clear hv;refine aG ⟨rfl,?_⟩;refine bH _ _ ?_;clear bH;refine kS H rfl ?_ ?_
  ·intro dU
   exact kP H (SR fun _ bL=>ak bL rfl (LR results106 rfl fun H=>H.rt (aF (iU fun e=>absurd dU (by subst e;simp)).symm)))
  intro dU
  try have kr:=dF dU
  have hsm:A[k]=B[k]:=by simpa using dU
  refine kP H (Kc K9 (SC (Rd rfl (Rm rfl ?_))));clear H K9;intro a H;refine aG ?_;refine dh ((k+1,G)) (by exact (H).sub ⟨rfl,rfl,rfl,rfl,aB⟩) ?_ ?_
  ·(try dsimp only);exact ⟨by omega,by rw [jg hk2,jg hk3,hsame,hsm],fun b o h=>iq b o (hgm b o h)⟩
  first|omega|(dsimp only;omega)
 intro dY a H
 try have lC:=dF dY
 refine dW ?_;refine K5 _ _ ?_;clear K5;exact kP H (SR fun _ bR=>ak bR rfl (LR results106 rfl fun H=>H.rt (aF (jy (by rw [jF (by omega),jF (by omega)] at hsame;exact hsame)).symm)))
theorem afv (G:GH) (w0:World) (hG:Hold G w0) (A B:List jN) (v u:aj) (hv:ay G (.sl 2 (A.map jN.dat)) v) (hu:ay G (.sl 2 (B.map jN.dat)) u) :
  Calls prog 107 #[v,u] w0 (bq w0 G fun r G'=>r=.bool (decide (A=B))):=by
 obtain ⟨vA,vc,rfl,hc1,hc2,hg⟩:=hv.slice;obtain ⟨uA,uc,rfl,hd1,hd2,hh⟩:=hu.slice;have hml:maxLen=9223372036854775807:=rfl;(iterate 2 rw [bV] at *);refine eN [(0,_),(1,_)] func107 rfl ntmps107 rfl rfl hG ?_;intro a H;refine kP H (SR fun _ K1=>ak K1 rfl (SQ fun _ K2=>SR fun _ K3=>Rm rfl (Rl qX rfl (Rm rfl (Rl qX rfl (Rc rfl (Kz K3 (Cd rfl ?_ ?_)))))))) <;> clear H K1 K3
 ·intro h10 a H
  try have lV:=dT h10
  exact kP H (SR fun _ K4=>ak K4 rfl (LR results107 rfl fun H=>H.rt (aF (iU fun e=>absurd (aC List.length e) (by omega)).symm)))
 intro h10 a H
 try have lV:=dF h10
 refine kP H (Kc K2 (SQ fun _ K5=>SR fun _ K6=>Rm rfl (Rl qX rfl (Rm rfl (Kz K6 (SB ?_))))));clear H K2 K6;intro a H;skip;refine eU (ι:=Nat × GH) (Tc:=[(0,_),(1,_),(12,_)]) (Lc:=[]) (fun gh=>[(13,vi gh.1)]) (fun gh=>[]) (fun gh=>gh.2) (fun gh=>gh.1≤A.length∧A.take gh.1=B.take gh.1∧(∀ b o,G b=some o→gh.2 b=some o)) (fun gh=>A.length - gh.1) ((0,G)) (by exact (H).sub ⟨rfl,rfl,rfl,rfl,aB⟩) ?_ ?_
 ·exact ⟨by omega,rfl,fun _ _ h=>h⟩
 clear H;intro gh a w hI H;obtain ⟨k,g⟩:=gh;dsimp only at hI H;obtain ⟨hk,hsame,hgm⟩:=hI;dsimp only [lca,bG] at H;refine kP H (SR fun _ K7=>Rc rfl (Kz K7 (SQ fun _ K8=>Cd rfl ?_ ?_))) <;> clear H K7
 ·intro dY a H
  try have lC:=dT dY
  have hk2:k < A.length:=by omega
  have hk3:k < B.length:=by omega
  obtain ⟨b1,o1,cs1,rfl,Xa,Jp,hr1⟩:=hg k A[k].dat (by simp [hk2]);obtain rfl:=Ox hr1;obtain ⟨b2,o2,cs2,rfl,Xb,hrow2,hr2⟩:=hh k B[k].dat (by simp [hk3]);obtain rfl:=Ox hr2;refine kP H (Kc K8 (SQ fun _ K9=>SB (SR fun _ aQ=>Rm rfl (ak aQ rfl (SQ fun _ bH=>?_)))));clear H K8 aQ;intro a H;refine dI hmx [[],[],[0,1],[0,1,2],[],[],[4,5],[4,5,6],(ra 0 8)] [] (by kernel_rfl) [_,_,_,.agg A[k].cells.toArray,_,_,_,.agg B[k].cells.toArray,.bool (!decide (A[k]=B[k]))] H (aD (Z0 rfl (Rm rfl)) (Z0 rfl (Rm rfl)) (Z2 0 16 1 17 rfl (Ri qX wH rfl rfl)) ?_ (aD (Z0 rfl (Rm rfl)) (Z0 rfl (Rm rfl)) (Z2 4 20 5 21 rfl (Ri qX wH rfl rfl)) ?_ (aZ ?_ cu))) ?_
  ·refine dB 2 18 rfl rfl fun _ a w G1 hG HT H fin=>?_;refine bJ wH (cs:=A[k].cells) H wn rfl rfl (fun j v hj=>H.hp.aJ (aO hG (aO hgm (Jp j v hj)))) rfl ?_;clear H;intro a H;exact fin H iJ rfl
  ·refine dB 6 22 rfl rfl fun _ a w G1 hG HT H fin=>?_;refine bJ wH (cs:=B[k].cells) H wn rfl rfl (fun j v hj=>H.hp.aJ (aO hG (aO hgm (hrow2 j v hj)))) rfl ?_;clear H;intro a H;exact fin H iJ rfl
  ·refine bZ 3 19 7 23 rfl rfl fun _ a w G1 hG HT H fin=>?_;refine R8 (.inr rfl) afz H wn rfl rfl rfl rfl ?_;clear H;intro a H;exact fin H iJ (aF (ajV A[k] B[k]))
  clear H;intro a w G iq H hv;have H:=H.aP (hv 8 24 rfl rfl) rfl;clear hv;refine aG ⟨rfl,?_⟩;refine bH _ _ ?_;clear bH;refine kS H rfl ?_ ?_
  ·intro dU
   exact kP H (SR fun _ bL=>ak bL rfl (LR results107 rfl fun H=>H.rt (aF (iU fun e=>absurd dU (by subst e;simp)).symm)))
  intro dU
  try have kr:=dF dU
  have hsm:A[k]=B[k]:=by simpa using dU
  refine kP H (Kc K9 (SC (Rd rfl (Rm rfl ?_))));clear H K9;intro a H;refine aG ?_;refine dh ((k+1,G)) (by exact (H).sub ⟨rfl,rfl,rfl,rfl,aB⟩) ?_ ?_
  ·(try dsimp only);exact ⟨by omega,by rw [jg hk2,jg hk3,hsame,hsm],fun b o h=>iq b o (hgm b o h)⟩
  first|omega|(dsimp only;omega)
 intro dY a H
 try have lC:=dF dY
 refine dW ?_;refine K5 _ _ ?_;clear K5;exact kP H (SR fun _ bR=>ak bR rfl (LR results107 rfl fun H=>H.rt (aF (jy (by rw [jF (by omega),jF (by omega)] at hsame;exact hsame)).symm)))
theorem afw (G:GH) (w0:World) (hG:Hold G w0) (A B:List jw) (v u:aj) (hv:ay G (.sl 4 (A.map jw.dat)) v) (hu:ay G (.sl 4 (B.map jw.dat)) u) :
  Calls prog 108 #[v,u] w0 (bq w0 G fun r G'=>r=.bool (decide (A=B))):=by
 obtain ⟨vA,vc,rfl,hc1,hc2,hg⟩:=hv.slice;obtain ⟨uA,uc,rfl,hd1,hd2,hh⟩:=hu.slice;have hml:maxLen=9223372036854775807:=rfl;(iterate 2 rw [bV] at *);refine eN [(0,_),(1,_)] func108 rfl ntmps108 rfl rfl hG ?_;intro a H;refine kP H (SR fun _ K1=>ak K1 rfl (SQ fun _ K2=>SR fun _ K3=>Rm rfl (Rl vI rfl (Rm rfl (Rl vI rfl (Rc rfl (Kz K3 (Cd rfl ?_ ?_)))))))) <;> clear H K1 K3
 ·intro h10 a H
  try have lV:=dT h10
  exact kP H (SR fun _ K4=>ak K4 rfl (LR results108 rfl fun H=>H.rt (aF (iU fun e=>absurd (aC List.length e) (by omega)).symm)))
 intro h10 a H
 try have lV:=dF h10
 refine kP H (Kc K2 (SQ fun _ K5=>SR fun _ K6=>Rm rfl (Rl vI rfl (Rm rfl (Kz K6 (SB ?_))))));clear H K2 K6;intro a H;skip;refine eU (ι:=Nat × GH) (Tc:=[(0,_),(1,_),(12,_)]) (Lc:=[]) (fun gh=>[(13,vi gh.1)]) (fun gh=>[]) (fun gh=>gh.2) (fun gh=>gh.1≤A.length∧A.take gh.1=B.take gh.1∧(∀ b o,G b=some o→gh.2 b=some o)) (fun gh=>A.length - gh.1) ((0,G)) (by exact (H).sub ⟨rfl,rfl,rfl,rfl,aB⟩) ?_ ?_
 ·exact ⟨by omega,rfl,fun _ _ h=>h⟩
 clear H;intro gh a w hI H;obtain ⟨k,g⟩:=gh;dsimp only at hI H;obtain ⟨hk,hsame,hgm⟩:=hI;dsimp only [lca,bG] at H;refine kP H (SR fun _ K7=>Rc rfl (Kz K7 (SQ fun _ K8=>Cd rfl ?_ ?_))) <;> clear H K7
 ·intro dY a H
  try have lC:=dT dY
  have hk2:k < A.length:=by omega
  have hk3:k < B.length:=by omega
  obtain ⟨b1,o1,cs1,rfl,Xa,Jp,hr1⟩:=hg k A[k].dat (by simp [hk2]);obtain rfl:=QZ hr1;obtain ⟨b2,o2,cs2,rfl,Xb,hrow2,hr2⟩:=hh k B[k].dat (by simp [hk3]);obtain rfl:=QZ hr2;refine kP H (Kc K8 (SQ fun _ K9=>SB (SR fun _ aQ=>Rm rfl (ak aQ rfl (SQ fun _ bH=>?_)))));clear H K8 aQ;intro a H;refine dI hmx [[],[],[0,1],[0,1,2],[],[],[4,5],[4,5,6],(ra 0 8)] [] (by kernel_rfl) [_,_,_,.agg A[k].cells.toArray,_,_,_,.agg B[k].cells.toArray,.bool (!decide (A[k]=B[k]))] H (aD (Z0 rfl (Rm rfl)) (Z0 rfl (Rm rfl)) (Z2 0 16 1 17 rfl (Ri vI wI rfl rfl)) ?_ (aD (Z0 rfl (Rm rfl)) (Z0 rfl (Rm rfl)) (Z2 4 20 5 21 rfl (Ri vI wI rfl rfl)) ?_ (aZ ?_ cu))) ?_
  ·refine dB 2 18 rfl rfl fun _ a w G1 hG HT H fin=>?_;refine bJ wI (cs:=A[k].cells) H wn rfl rfl (fun j v hj=>H.hp.aJ (aO hG (aO hgm (Jp j v hj)))) rfl ?_;clear H;intro a H;exact fin H iJ rfl
  ·refine dB 6 22 rfl rfl fun _ a w G1 hG HT H fin=>?_;refine bJ wI (cs:=B[k].cells) H wn rfl rfl (fun j v hj=>H.hp.aJ (aO hG (aO hgm (hrow2 j v hj)))) rfl ?_;clear H;intro a H;exact fin H iJ rfl
  ·refine bZ 3 19 7 23 rfl rfl fun _ a w G1 hG HT H fin=>?_;refine R8 (.inr rfl) afA H wn rfl rfl rfl rfl ?_;clear H;intro a H;exact fin H iJ (aF (ajW A[k] B[k]))
  clear H;intro a w G iq H hv;have H:=H.aP (hv 8 24 rfl rfl) rfl;clear hv;refine aG ⟨rfl,?_⟩;refine bH _ _ ?_;clear bH;refine kS H rfl ?_ ?_
  ·intro dU
   exact kP H (SR fun _ bL=>ak bL rfl (LR results108 rfl fun H=>H.rt (aF (iU fun e=>absurd dU (by subst e;simp)).symm)))
  intro dU
  try have kr:=dF dU
  have hsm:A[k]=B[k]:=by simpa using dU
  refine kP H (Kc K9 (SC (Rd rfl (Rm rfl ?_))));clear H K9;intro a H;refine aG ?_;refine dh ((k+1,G)) (by exact (H).sub ⟨rfl,rfl,rfl,rfl,aB⟩) ?_ ?_
  ·(try dsimp only);exact ⟨by omega,by rw [jg hk2,jg hk3,hsame,hsm],fun b o h=>iq b o (hgm b o h)⟩
  first|omega|(dsimp only;omega)
 intro dY a H
 try have lC:=dF dY
 refine dW ?_;refine K5 _ _ ?_;clear K5;exact kP H (SR fun _ bR=>ak bR rfl (LR results108 rfl fun H=>H.rt (aF (jy (by rw [jF (by omega),jF (by omega)] at hsame;exact hsame)).symm)))
theorem iE.eq_iff (a b:iE):(((a.props=b.props∧a.marks.ins=b.marks.ins)∧a.marks.move=b.marks.move)∧a.marks.dw=b.marks.dw)∧a.marks.layers=b.marks.layers↔a=b:=by
 obtain ⟨p,i,m,d,l⟩:=a;obtain ⟨p2,i2,m2,d2,l2⟩:=b
 simp [and_assoc]
instance:DecidableEq iE:=fun a b=>decidable_of_iff _ (iE.eq_iff a b)
abbrev vg (h:iE) (p d l:aj):aj:=.agg #[p,vi h.marks.ins,vi h.marks.move,d,l]
theorem O6 (G:GH) (w0:World) (hG:Hold G w0) (x y:iE) (p d l p2 d2 l2:aj) (hx:iR G x p d l) (hy:iR G y p2 d2 l2) :
  Calls prog 73 #[vg x p d l,vg y p2 d2 l2] w0 (bq w0 G fun r G'=>r=.bool (decide (x=y))):=by
 obtain ⟨pA,pc,rfl,-,-,-⟩:=hx.props.slice;obtain ⟨dA,dc,rfl,-,-,-⟩:=hx.dw.slice;obtain ⟨lA,lc,rfl,-,-,-⟩:=hx.layers.slice;obtain ⟨pA2,pc2,rfl,-,-,-⟩:=hy.props.slice;obtain ⟨dA2,dc2,rfl,-,-,-⟩:=hy.dw.slice;obtain ⟨lA2,lc2,rfl,-,-,-⟩:=hy.layers.slice;have he:=iE.eq_iff x y;refine eN [(0,_),(1,_)] func73 rfl ntmps73 rfl rfl hG ?_;intro a H;refine dH (fun _ K1=>?_);refine fC (cs:=[_,_,_,_,_]) H wn rfl rfl rfl ?_;clear H;intro b2 a w hb2 H;refine fC (cs:=[_,_,_,_,_]) H wn rfl rfl rfl ?_;clear H;intro b3 a w hb3 H;refine kH H (ak K1 rfl (SR fun _ K2=>aT D5 BP 1 rfl rfl (aT D5 BP 0 rfl rfl ?_)));clear H K1;intro a H;refine s_call adO H wn rfl (afx _ _ H.ro x.props y.props _ _ hx.props hy.props) rfl ?_;clear H;rintro v9 G9 a w rfl yK H;refine kH H (Rm rfl (Sp 10 rfl ?_ ?_)) <;> clear H
 ·intro h10 a H
  try have lV:=dT h10
  refine kH H (YF uS h10 rfl (YF xg h10 rfl (YO aH 1 h10 rfl (YF uS h10 rfl (YF xg h10 rfl (YO aH 0 h10 rfl (YC h10 rfl (Pt h10 rfl (Rm rfl (Sp 19 rfl ?_ ?_)))))))))) <;> clear H
  ·intro h19 a H
   try have wF:=dT h19
   refine kH H (YF uS h19 rfl (YF Ch h19 rfl (YO aH 1 h19 rfl (YF uS h19 rfl (YF Ch h19 rfl (YO aH 0 h19 rfl (YC h19 rfl (Pt h19 rfl (Rm rfl (Sp 28 rfl ?_ ?_)))))))))) <;> clear H
   ·intro fH a H
    try have p28:=dT fH
    refine kH H (YF uS fH rfl (YF xk fH rfl (YO xL 1 fH rfl (YF uS fH rfl (YF xk fH rfl (YO xL 0 fH rfl ?_))))));clear H;intro a H;refine s_call adP H (wg H rfl rfl fH) rfl (afv _ _ H.ro x.marks.dw y.marks.dw _ _ (hx.dw.mono yK) (hy.dw.mono yK)) rfl ?_;clear H;rintro v35 Km a w rfl I9 H;refine kH H (Pt fH rfl (Rm rfl (Sp 37 rfl ?_ ?_))) <;> clear H
    ·intro h37 a H
     try have p37:=dT h37
     refine kH H (YF uS h37 rfl (YF DZ h37 rfl (YO EU 1 h37 rfl (YF uS h37 rfl (YF DZ h37 rfl (YO EU 0 h37 rfl ?_))))));clear H;intro a H;refine s_call adQ H (wg H rfl rfl h37) rfl (afw _ _ H.ro x.marks.layers y.marks.layers _ _ ((hx.layers.mono yK).mono I9) ((hy.layers.mono yK).mono I9)) rfl ?_;clear H;rintro v44 G44 a w rfl anP H;exact kH H (Pt h37 rfl (ak K2 rfl (LR results73 rfl fun H=>H.rt (aF (by simp_all)))))
    intro h37 a H
    try have p37:=dF h37
    exact kH H (bC h37 rfl (aR h37 rfl (aR h37 rfl (Pf h37 rfl (ak K2 rfl (LR results73 rfl fun H=>H.rt (aF (by simp_all))))))))
   intro fH a H
   try have p28:=dF fH
   exact kH H (bC fH rfl (aR fH rfl (aR fH rfl (Pf fH rfl (Rm rfl (bC rfl rfl (aR rfl rfl (aR rfl rfl (Pf rfl rfl (ak K2 rfl (LR results73 rfl fun H=>H.rt (aF (by simp_all)))))))))))))
  intro h19 a H
  try have wF:=dF h19
  exact kH H (bC h19 rfl (aR h19 rfl (aR h19 rfl (Pf h19 rfl (Rm rfl (bC rfl rfl (aR rfl rfl (aR rfl rfl (Pf rfl rfl (Rm rfl (bC rfl rfl (aR rfl rfl (aR rfl rfl (Pf rfl rfl (ak K2 rfl (LR results73 rfl fun H=>H.rt (aF (by simp_all))))))))))))))))))
 intro h10 a H
 try have lV:=dF h10
 exact kH H (bC h10 rfl (aR h10 rfl (aR h10 rfl (Pf h10 rfl (Rm rfl (bC rfl rfl (aR rfl rfl (aR rfl rfl (Pf rfl rfl (Rm rfl (bC rfl rfl (aR rfl rfl (aR rfl rfl (Pf rfl rfl (Rm rfl (bC rfl rfl (aR rfl rfl (aR rfl rfl (Pf rfl rfl (ak K2 rfl (LR results73 rfl fun H=>H.rt (aF (by simp_all)))))))))))))))))))))))
end
section
open Go.RowKit
theorem afQ:cB prog 199 0 0:=⟨by kernel_rfl⟩
theorem AQ:cB prog 199 1 1:=⟨by kernel_rfl⟩
theorem Wi:cB prog 199 3 3:=⟨by kernel_rfl⟩
theorem FP:cB prog 199 2 2:=⟨by kernel_rfl⟩
theorem OZ:∀ args w,(callFunc 91 args).run prog w=.ok (.enter 91 args) w:=enters func91 rfl (by kernel_rfl)
structure gy where
 st:List bU
 yU:List Int
 GL:List Int
abbrev aW (st:List bU) (li:List gq) (rv:List fI):gy:=⟨st,li.map gq.id,rv.map fI.id⟩
theorem Ym {G:GH} {l:List jw} {A:Option Addr} {n c k:Nat} (hv:ay G (.sl 4 (l.map jw.dat)) (.slice A n c)) (hk:k < l.length):∃ b o,A=some ⟨b,o,none⟩∧(∀ j u,l[k].cells[j]?=some u→aJ G b (o+k*4+j)=some u):=by
 obtain ⟨A',c',he,_,_,hg⟩:=hv.slice
 injection he with e1 e2 e3
 subst e1;obtain ⟨b,o,cs,h1,h2,h3,h4⟩:=hg k l[k].dat (by simp [hk]);have:=QZ h4;subst this;exact ⟨b,o,h1,h3⟩
theorem Vk {G:GH} {l:List jN} {A:Option Addr} {n c k:Nat} (hv:ay G (.sl 2 (l.map jN.dat)) (.slice A n c)) (hk:k < l.length):∃ b o,A=some ⟨b,o,none⟩∧(∀ j u,l[k].cells[j]?=some u→aJ G b (o+k*2+j)=some u):=by
 obtain ⟨A',c',he,_,_,hg⟩:=hv.slice
 injection he with e1 e2 e3
 subst e1;obtain ⟨b,o,cs,h1,h2,h3,h4⟩:=hg k l[k].dat (by simp [hk]);have:=Ox h4;subst this;exact ⟨b,o,h1,h3⟩
def BA (C:gy) (e:Int) (k:Nat) (x:jw) (pk:Int):Int :=
 if x.rev∉C.GL then 22 else if zM e x.key=false then 4 else if 0 < k∧x.key < pk then 6 else if x.had=false then cO (decide (x.before≠0)) 21 else dM [uN x.key x.before,ow C.st C.yU x.key x.before]
def EC (C:gy) (e:Int) (l:List jw) (k:Nat):Int:=match l[k]? with|some x=>BA C e k x ((l[k - 1]?.map jw.key).getD 0)|none=>0
theorem aji (G:GH) (w0:World) (hG:Hold G w0) (st:List bU) (li:List gq) (rv:List fI) (b ms ml mr mb mu:Nat) (n:Int) (hck:uH G st li rv ms ml mr mu) (hb:G b=some (fP b ms ml mr mb mu n).2)
  (e:Int) (l:List jw) (v:aj) (hv:ay G (.sl 4 (l.map jw.dat)) v) (k:Nat) (hk:k < l.length) :
  Calls prog 93 #[(aI b 0),vi e,v,vi k] w0 (bq w0 G fun u G'=>u=vi (EC (aW st li rv) e l k)):=by
 have hc2:aJ G b 2=some (.map (some mr)):=by unfold aJ;rw [hb];rfl
 obtain ⟨A,c,rfl,hl1,hl2,-⟩:=hv.slice;have hml:maxLen=9223372036854775807:=rfl;rw [bV] at *;obtain ⟨xb,xo,rfl,hrow⟩:=Ym hv hk
 have hk1:k - 1 < l.length:=by omega
 obtain ⟨b',o',he',hrow'⟩:=Ym hv hk1
 injection he' with he'
 injection he' with e1 e2
 subst e1;subst e2
 have he:EC (aW st li rv) e l k=BA (aW st li rv) e k l[k] l[k - 1].key:=by unfold EC;rw [iA hk,iA hk1];rfl
 obtain ⟨x,hx⟩:∃ x,x=l[k]:=⟨_,rfl⟩;obtain ⟨y,hy⟩:∃ y,y=l[k - 1]:=⟨_,rfl⟩;rw [← hx] at hrow he;rw [← hy] at hrow' he;have hq:=hrow' 1 _ rfl;refine eN [(0,_),(1,_),(2,_),(3,_)] func93 rfl ntmps93 rfl rfl hG ?_;intro a H;refine kP H (SR fun _ K1=>ak K1 rfl (SR fun _ K2=>Rm rfl (Rm rfl (Ri vI wI rfl rfl ?_))));clear H K1;intro a H;refine bJ wI (cs:=x.cells) H wn rfl rfl (fun j v hj=>H.hp.aJ (hrow j v hj)) rfl ?_;clear H;intro a H;refine eB wI H wn rfl ?_;clear H;intro b9 a w yH H;refine bM wI 0 (vs:=[_,_,_,_]) _ H wn rfl rfl rfl rfl rfl rfl rfl rfl ?_;clear H;intro w H;dsimp only [List.set,setRow] at H;refine K2 _ _ ?_;clear K2;refine kP H (SQ fun _ K3=>SB (SQ fun _ K4=>?_));clear H;intro a H;refine dI hmx [[],[0],[0,1],[0,1,2],[],[4],(ra 0 6),(ra 0 7),(ra 0 8)] [8] (by kernel_rfl) [_,_,_,_,_,vi x.rev,.bool (decide (x.rev∈rv.map fI.id)),_] H (aD (Z0 rfl (Rm rfl)) (Z1 0 15 rfl (Rk rfl)) (Z1 1 16 rfl (Rf IG rfl)) (X1 2 17 rfl fun hG=>Rg Ae rfl (aO hG hc2)) (aD (Z0 rfl (Rf afQ rfl)) (Z1 4 19 rfl (Ro aH 0 rfl)) ?_ (Z1 6 21 rfl (Rn rfl)) (aZ (bN rfl) cu))) ?_
 ·refine bZ 3 18 5 20 rfl rfl fun _ a w G1 hG HT H fin=>?_;refine zi (zv:=.bool false) Ah nW (by kernel_rfl) H wn rfl rfl (H.ro _ _ (hG _ _ hck.rev)) rfl ?_;clear H;intro a H;rw [EG] at H;exact fin H iJ rfl
 clear H;intro a w G Bc H hv;have H:=H.aP (hv 7 22 rfl rfl) rfl;clear hv;refine kH H (Ra rfl ?_);clear H;intro a H;refine aG ⟨rfl,?_⟩;refine K4 _ _ ?_;clear K4;refine kS H rfl ?_ ?_
 ·intro dY
  try have lC:=dT dY
  refine kP H (SR fun _ K5=>ak K5 rfl ?_);clear H K5;intro a H;refine lr H results93 rfl ?_
  exact H.rt (by rw [he];refine aC vi ?_;clear he hrow hrow' hq hx hy;unfold BA;(repeat' split) <;> first|rfl|(simp_all;done)|(exfalso;simp_all;done))
 intro dY
 try have lC:=dF dY
 refine kP H (SR fun _ K6=>Rm rfl (aT AQ aH 0 rfl rfl ?_));clear H;intro a H;refine s_call Vu H wn rfl (UJ (WB _ _ H.ro e x.key)) rfl ?_;clear H;rintro v27 _ a w ⟨⟨_,rfl⟩,rfl⟩ - H;refine kH H (Rn rfl (ak K6 rfl (Cd rfl ?_ ?_))) <;> clear H K6
 ·intro h23 a H
  try have sU:=dT h23
  refine kP H (SR fun _ K7=>ak K7 rfl ?_);clear H K7;intro a H;refine lr H results93 rfl ?_
  exact H.rt (by rw [he];refine aC vi ?_;clear he hrow hrow' hq hx hy;unfold BA;(repeat' split) <;> first|rfl|(simp_all;done)|(exfalso;simp_all;done))
 intro h23 a H
 try have sU:=dF h23
 refine bK (fun _ K8=>?_);replace hq:=aO Bc hq
 by_cases c0:0 < (k:Int)
 ·skip
  by_cases c1:x.key < y.key
  ·skip;refine dI hmx [[],[0],[0,1],[0,1,2],(ra 0 4),[0,1,2],[0,1,2],[0,1,2,6],[0,1,2,5,6,7],[0,1,2,5,6,7,8],[0,1,2,5,6,7,8,9],(ra 0 11),(ra 0 12),(ra 0 13)] [13] (by kernel_rfl) [_,_,_,_,vi x.key,_,_,vi ((k - 1:Nat):Int),_,_,_,_,_] H (aD (Z0 rfl (Rm rfl)) (Z1 0 30 rfl (Rc rfl)) (Z1 1 31 rfl (Rm rfl)) (Z1 2 32 rfl (YF AQ (aA c0) rfl)) (aD (Z2 3 33 2 32 rfl (YO aH 0 (aA c0) rfl)) (Z1 2 32 rfl (YM (aA c0) rfl)) (Z1 2 32 rfl (YM (aA c0) rfl)) ?_ (aD (Z3 5 35 7 37 2 32 rfl (YI vI wI (aA c0) rfl rfl)) (Z2 8 38 2 32 rfl (YF AQ (aA c0) rfl)) (X2 9 39 2 32 rfl fun hG=>YR aH (aA c0) rfl (aO hG hq)) (Z3 4 34 10 40 2 32 rfl (YC (aA c0) rfl)) (aZ (Z2 2 32 11 41 rfl (Pt (aA c0) rfl)) (aZ (bN rfl) cu))))) ?_
   ·refine bZ 6 36 2 32 rfl rfl fun _ a w G1 hG HT H fin=>?_;refine kX _ H (wg H rfl rfl (aA c0)) rfl rfl rfl (by omega) (by omega) rfl ?_;clear H;intro a H;exact fin H iJ (by show _=_;first|rfl|exact aC vi (by omega))
   clear H;intro a w G iq H hv;have H:=H.aP (hv 12 42 rfl rfl) rfl;clear hv;refine kH H (Ra rfl ?_);clear H;intro a H;refine aG ⟨rfl,?_⟩;refine K8 _ _ ?_;clear K8;refine xY H rfl (aA c1) ?_;refine bK (fun _ K9=>?_);have hz:0 < k∧x.key < y.key:=⟨by omega,c1⟩;refine kP H (SC (aU K9 rfl ?_));clear H K9;intro a H;refine lr H results93 rfl ?_
   exact H.rt (by rw [he];refine aC vi ?_;clear he hrow hrow' hq hx hy;unfold BA;(repeat' split) <;> first|rfl|(simp_all;done)|(exfalso;simp_all;done))
  skip;refine dI hmx [[],[0],[0,1],[0,1,2],(ra 0 4),[0,1,2],[0,1,2],[0,1,2,6],[0,1,2,5,6,7],[0,1,2,5,6,7,8],[0,1,2,5,6,7,8,9],(ra 0 11),(ra 0 12),(ra 0 13)] [13] (by kernel_rfl) [_,_,_,_,vi x.key,_,_,vi ((k - 1:Nat):Int),_,_,_,_,_] H (aD (Z0 rfl (Rm rfl)) (Z1 0 30 rfl (Rc rfl)) (Z1 1 31 rfl (Rm rfl)) (Z1 2 32 rfl (YF AQ (aA c0) rfl)) (aD (Z2 3 33 2 32 rfl (YO aH 0 (aA c0) rfl)) (Z1 2 32 rfl (YM (aA c0) rfl)) (Z1 2 32 rfl (YM (aA c0) rfl)) ?_ (aD (Z3 5 35 7 37 2 32 rfl (YI vI wI (aA c0) rfl rfl)) (Z2 8 38 2 32 rfl (YF AQ (aA c0) rfl)) (X2 9 39 2 32 rfl fun hG=>YR aH (aA c0) rfl (aO hG hq)) (Z3 4 34 10 40 2 32 rfl (YC (aA c0) rfl)) (aZ (Z2 2 32 11 41 rfl (Pt (aA c0) rfl)) (aZ (bN rfl) cu))))) ?_
  ·refine bZ 6 36 2 32 rfl rfl fun _ a w G1 hG HT H fin=>?_;refine kX _ H (wg H rfl rfl (aA c0)) rfl rfl rfl (by omega) (by omega) rfl ?_;clear H;intro a H;exact fin H iJ (by show _=_;first|rfl|exact aC vi (by omega))
  clear H;intro a w G iq H hv;have H:=H.aP (hv 12 42 rfl rfl) rfl;clear hv;refine kH H (Ra rfl ?_);clear H;intro a H;refine aG ⟨rfl,?_⟩;refine K8 _ _ ?_;clear K8;refine mX H rfl (aN c1) ?_;refine bK (fun _ aQ=>?_)
  have hz:¬ (0 < k∧x.key < y.key):=by first|exact fun h=>c1 h.2|exact fun h=>c0 (by omega)
  refine kP H (SC (aT Wi zm 0 rfl rfl (Rn rfl (aU aQ rfl (Cd rfl ?_ ?_))))) <;> clear H aQ
  ·intro h43 a H
   try have p43:=dT h43
   refine kP H (SR fun _ bH=>aT FP aH 0 rfl rfl (Rc rfl ?_));clear H;intro a H;refine s_call jo H wn rfl (jv _ _ H.ro _ 21) rfl ?_;clear H;rintro v50 _ a w ⟨rfl,rfl⟩ - H;refine kH H (ak bH rfl ?_);clear H bH;intro a H;refine lr H results93 rfl ?_
   exact H.rt (by rw [he];refine aC vi ?_;clear he hrow hrow' hq hx hy;unfold BA;(repeat' split) <;> first|rfl|(simp_all;done)|(exfalso;simp_all;done))
  intro h43 a H
  try have p43:=dF h43
  refine fZ ?_;refine K3 _ _ ?_;clear K3;refine bK (fun _ bL=>?_);replace hck:=(hck.mono Bc).mono iq;replace hb:=iq _ _ (Bc _ _ hb);refine dI hmx [[],[0],[],[2],(ra 0 4),[],[],[6],[],[8],(ra 0 10),(ra 0 11),(ra 0 12),(ra 0 13)] [11,12,13] (by kernel_rfl) [_,vi x.key,_,vi x.before,vi (uN x.key x.before),_,_,vi x.key,_,vi x.before,vi (ow st (li.map gq.id) x.key x.before)] H (aD (Z0 rfl (Rf AQ rfl)) (Z1 0 51 rfl (Ro aH 0 rfl)) (Z0 rfl (Rf FP rfl)) (Z1 2 53 rfl (Ro aH 0 rfl)) (aD ?_ (Z0 rfl (Rm rfl)) (Z0 rfl (Rf AQ rfl)) (Z1 6 57 rfl (Ro aH 0 rfl)) (aD (Z0 rfl (Rf FP rfl)) (Z1 8 59 rfl (Ro aH 0 rfl)) ?_ (bN rfl) (aZ (bN rfl) (aZ (bN rfl) cu))))) ?_
  ·refine bZ 1 52 3 54 rfl rfl fun _ a w G1 hG HT H fin=>?_;refine s_call OE H wn rfl (Oi _ _ H.ro x.key x.before) rfl ?_;clear H;rintro v55 HY a w rfl P8 H;exact fin H P8 (rfl)
  ·refine nD 5 56 7 58 9 60 rfl rfl fun _ a w G1 hG HT H fin=>?_;refine s_call OZ H wn rfl (Ol _ _ H.ro st li rv b ms ml mr mb mu n x.key x.before (hck.mono hG) (hG _ _ hb)) rfl ?_;clear H;rintro v61 G61 a w ⟨rfl,-⟩ P9 H;exact fin H P9 (rfl)
  clear H;intro a w G kW H hv;have H:=H.aP (hv 4 55 rfl rfl) rfl;have H:=H.aP (hv 10 61 rfl rfl) rfl;clear hv;refine gX oO gN [_,_] [_,_] H wn rfl rfl rfl rfl rfl (by intro i q h;match i,h with|0,h=>exact h|1,h=>exact h|n+2,h=>simp at h) rfl rfl ?_;clear H;intro b62 a w ahp H;obtain ⟨G62,ahO,Ql,H⟩:=H.eu;refine s_call qw H wn rfl (qx _ _ H.ro _ _ (xJ Ql)) rfl ?_;clear H;rintro v63 _ a w ⟨rfl,rfl⟩ - H;refine kH H (Ra rfl ?_);clear H;intro a H;refine aG ⟨rfl,?_⟩;refine bL _ _ ?_;clear bL;refine lr H results93 rfl ?_
  exact H.rt (by rw [he];refine aC vi ?_;clear he hrow hrow' hq hx hy;unfold BA;(repeat' split) <;> first|rfl|(simp_all;done)|(exfalso;simp_all;done))
 skip;refine dI hmx [[],[0],[0,1],[0,1,2],(ra 0 4),[0,1,2],[0,1,2],[0,1,2,6],[0,1,2,5,6,7],[0,1,2,5,6,7,8],[0,1,2,5,6,7,8,9],(ra 0 11),(ra 0 12),(ra 0 13)] [13] (by kernel_rfl) [_,_,_,undef,undef,undef,undef,undef,undef,undef,undef,undef,_] H (aD (Z0 rfl (Rm rfl)) (Z1 0 30 rfl (Rc rfl)) (Z1 1 31 rfl (Rm rfl)) (aK (j:=2) (by kernel_rfl) (fun _ _ _ _ _ h=>h) rfl rfl rfl rfl rfl (fun _ _ h=>aL h (aF (aN c0))) rfl (fun _=>rfl)) (aD (aK (j:=2) (by kernel_rfl) (fun _ _ _ _ _ h=>h) rfl rfl rfl rfl rfl (fun _ _ h=>aL h (aF (aN c0))) rfl (fun _=>rfl)) (aK (j:=2) (by kernel_rfl) (fun _ _ _ _ _ h=>h) rfl rfl rfl rfl rfl (fun _ _ h=>aL h (aF (aN c0))) rfl (fun _=>rfl)) (aK (j:=2) (by kernel_rfl) (fun _ _ _ _ _ h=>h) rfl rfl rfl rfl rfl (fun _ _ h=>aL h (aF (aN c0))) rfl (fun _=>rfl)) (aK (j:=2) (by kernel_rfl) (fun _ _ _ _ _ h=>h) rfl rfl rfl rfl rfl (fun _ _ h=>aL h (aF (aN c0))) rfl (fun _=>rfl)) (aD (aK (j:=2) (by kernel_rfl) (fun _ _ _ _ _ h=>h) rfl rfl rfl rfl rfl (fun _ _ h=>aL h (aF (aN c0))) rfl (fun _=>rfl)) (aK (j:=2) (by kernel_rfl) (fun _ _ _ _ _ h=>h) rfl rfl rfl rfl rfl (fun _ _ h=>aL h (aF (aN c0))) rfl (fun _=>rfl)) (aK (j:=2) (by kernel_rfl) (fun _ _ _ _ _ h=>h) rfl rfl rfl rfl rfl (fun _ _ h=>aL h (aF (aN c0))) rfl (fun _=>rfl)) (aK (j:=2) (by kernel_rfl) (fun _ _ _ _ _ h=>h) rfl rfl rfl rfl rfl (fun _ _ h=>aL h (aF (aN c0))) rfl (fun _=>rfl)) (aZ (Z2 2 32 11 41 rfl (Pf (aN c0) rfl)) (aZ (bN rfl) cu))))) ?_
 clear H;intro a w G iq H hv;have H:=H.aP (hv 12 42 rfl rfl) rfl;clear hv;refine kH H (Ra rfl ?_);clear H;intro a H;refine aG ⟨rfl,?_⟩;refine K8 _ _ ?_;clear K8;refine mX H rfl rfl ?_;refine bK (fun _ bR=>?_)
 have hz:¬ (0 < k∧x.key < y.key):=by first|exact fun h=>c1 h.2|exact fun h=>c0 (by omega)
 refine kP H (SC (aT Wi zm 0 rfl rfl (Rn rfl (aU bR rfl (Cd rfl ?_ ?_))))) <;> clear H bR
 ·intro h43 a H
  try have p43:=dT h43
  refine kP H (SR fun _ bQ=>aT FP aH 0 rfl rfl (Rc rfl ?_));clear H;intro a H;refine s_call jo H wn rfl (jv _ _ H.ro _ 21) rfl ?_;clear H;rintro v50 _ a w ⟨rfl,rfl⟩ - H;refine kH H (ak bQ rfl ?_);clear H bQ;intro a H;refine lr H results93 rfl ?_
  exact H.rt (by rw [he];refine aC vi ?_;clear he hrow hrow' hq hx hy;unfold BA;(repeat' split) <;> first|rfl|(simp_all;done)|(exfalso;simp_all;done))
 intro h43 a H
 try have p43:=dF h43
 refine fZ ?_;refine K3 _ _ ?_;clear K3;refine bK (fun _ dJ=>?_);replace hck:=(hck.mono Bc).mono iq;replace hb:=iq _ _ (Bc _ _ hb);refine dI hmx [[],[0],[],[2],(ra 0 4),[],[],[6],[],[8],(ra 0 10),(ra 0 11),(ra 0 12),(ra 0 13)] [11,12,13] (by kernel_rfl) [_,vi x.key,_,vi x.before,vi (uN x.key x.before),_,_,vi x.key,_,vi x.before,vi (ow st (li.map gq.id) x.key x.before)] H (aD (Z0 rfl (Rf AQ rfl)) (Z1 0 51 rfl (Ro aH 0 rfl)) (Z0 rfl (Rf FP rfl)) (Z1 2 53 rfl (Ro aH 0 rfl)) (aD ?_ (Z0 rfl (Rm rfl)) (Z0 rfl (Rf AQ rfl)) (Z1 6 57 rfl (Ro aH 0 rfl)) (aD (Z0 rfl (Rf FP rfl)) (Z1 8 59 rfl (Ro aH 0 rfl)) ?_ (bN rfl) (aZ (bN rfl) (aZ (bN rfl) cu))))) ?_
 ·refine bZ 1 52 3 54 rfl rfl fun _ a w G1 hG HT H fin=>?_;refine s_call OE H wn rfl (Oi _ _ H.ro x.key x.before) rfl ?_;clear H;rintro v55 HY a w rfl P8 H;exact fin H P8 (rfl)
 ·refine nD 5 56 7 58 9 60 rfl rfl fun _ a w G1 hG HT H fin=>?_;refine s_call OZ H wn rfl (Ol _ _ H.ro st li rv b ms ml mr mb mu n x.key x.before (hck.mono hG) (hG _ _ hb)) rfl ?_;clear H;rintro v61 G61 a w ⟨rfl,-⟩ P9 H;exact fin H P9 (rfl)
 clear H;intro a w G kW H hv;have H:=H.aP (hv 4 55 rfl rfl) rfl;have H:=H.aP (hv 10 61 rfl rfl) rfl;clear hv;refine gX oO gN [_,_] [_,_] H wn rfl rfl rfl rfl rfl (by intro i q h;match i,h with|0,h=>exact h|1,h=>exact h|n+2,h=>simp at h) rfl rfl ?_;clear H;intro b62 a w ahp H;obtain ⟨G62,ahO,Ql,H⟩:=H.eu;refine s_call qw H wn rfl (qx _ _ H.ro _ _ (xJ Ql)) rfl ?_;clear H;rintro v63 _ a w ⟨rfl,rfl⟩ - H;refine kH H (Ra rfl ?_);clear H;intro a H;refine aG ⟨rfl,?_⟩;refine dJ _ _ ?_;clear dJ;refine lr H results93 rfl ?_
 exact H.rt (by rw [he];refine aC vi ?_;clear he hrow hrow' hq hx hy;unfold BA;(repeat' split) <;> first|rfl|(simp_all;done)|(exfalso;simp_all;done))
end
section
open Go.RowKit
theorem GY:Ty prog 140 1 8 [.pointer none] false:=⟨by kernel_rfl,by kernel_rfl⟩
theorem afo:∀ args w,(callFunc 93 args).run prog w=.ok (.enter 93 args) w:=enters func93 rfl (by kernel_rfl)
theorem Hf:Ty prog 27 4 64 [.int .i64 0,.int .i64 0,.slice none 0 0,.slice none 0 0] true:=⟨by kernel_rfl,by kernel_rfl⟩
theorem II:cB prog 190 0 0:=⟨by kernel_rfl⟩
theorem Wh:cB prog 190 1 1:=⟨by kernel_rfl⟩
theorem afn:∀ args w,(callFunc 92 args).run prog w=.ok (.enter 92 args) w:=enters func92 rfl (by kernel_rfl)
theorem ajh {G:GH} {st:List bU} {li:List gq} {rv:List fI} {b ms ml mr mb mu:Nat} {n:Int} (hck:uH G st li rv ms ml mr mu) (hb:G b=some (fP b ms ml mr mb mu n).2)
  {x3 x4 S9:Nat} {e:Int} {l:List jw} {v:aj} (h3:aJ G x3 0=some (aI b 0)) (h4:aJ G x4 0=some (vi e)) (h11:aJ G S9 3=some v) (hv:ay G (.sl 4 (l.map jw.dat)) v) :
  sj (.func (.func 92) #[] #[(aI x3 0),(aI x4 0),(aI S9 0)]) G l.length (EC (aW st li rv) e l):=by
 intro k hk G1 w0 hm hG;refine lN (caps:=[(aI x3 0),(aI x4 0),(aI S9 0)]) afn ?_;replace h3:=aO hm h3;replace h4:=aO hm h4;replace h11:=aO hm h11;replace hv:=hv.mono hm;obtain ⟨vA,vn,vc,rfl⟩:=hv.form;refine eN [(0,_),(1,_),(2,_),(3,_)] func92 rfl ntmps92 rfl rfl hG ?_;intro a H;refine kP H (SR fun _ K1=>ak K1 rfl (SR fun _ K2=>Rg GY rfl (by assumption) ?_));clear H K1;intro a H;refine kH H (Rg aH rfl (by assumption) ?_);clear H;intro a H;refine kH H (Rf DZ rfl (Rg EU rfl (by assumption) ?_));clear H;intro a H;refine kH H (Rm rfl ?_);clear H;intro a H;refine s_call afo H wn rfl (aji _ _ H.ro st li rv b ms ml mr mb mu n (hck.mono hm) (hm _ _ hb) e l _ hv k hk) rfl ?_;clear H;rintro v11 xP a w rfl L8 H;exact kH H (ak K2 rfl (LR results92 rfl fun H=>H.rt rfl))
def yY (C:gy) (l:List iL):Int:=dM (l.map fun p=>ow C.st C.yU p.key p.value)
def jV (C:gy) (m:wP):Int:=if m.ins≠0∧m.ins∉C.GL then 22 else if ¬ (0≤m.move∧m.move≤1073741824)∨(m.move≠0∧m.ins=0) then 21 else if 16 < (m.dw.length:Int) then 9 else 0
def yu (C:gy) (k:Nat) (x:jN) (pr:Int):Int:=if x.rev∉C.GL then 22 else if 0 < k∧x.rev≤pr then 6 else if ¬ (0≤x.move∧x.move≤1073741824) then 21 else 0
def yj (C:gy) (l:List jN) (k:Nat):Int:=match l[k]? with|some x=>yu C k x ((l[k - 1]?.map jN.rev).getD 0)|none=>0
def iO (C:gy) (e:Int) (h:iE):Int:=dM [gQ e h.props,yY C h.props,jV C h.marks,kM (yj C h.marks.dw) h.marks.dw.length,cO (decide (64 < (h.marks.layers.length:Int))) 9,kM (EC C e h.marks.layers) h.marks.layers.length]
theorem ahy {C:gy} {e:Int} {h:iE} (h1:gQ e h.props≠0):iO C e h=gQ e h.props:=by simp [iO,dM,h1]
theorem ahz {C:gy} {e:Int} {h:iE} (h1:gQ e h.props=0) (h2:yY C h.props≠0):iO C e h=yY C h.props:=by simp [iO,dM,h1,h2]
theorem Bj {C:gy} {e:Int} {h:iE} (h1:gQ e h.props=0) (h2:yY C h.props=0) (h3:jV C h.marks≠0):iO C e h=jV C h.marks:=by simp [iO,dM,h1,h2,h3]
theorem ahA {C:gy} {e:Int} {h:iE} (h1:gQ e h.props=0) (h2:yY C h.props=0) (h3:jV C h.marks=0) (h4:kM (yj C h.marks.dw) h.marks.dw.length≠0):iO C e h=kM (yj C h.marks.dw) h.marks.dw.length:=by simp [iO,dM,h1,h2,h3,h4]
theorem ahB {C:gy} {e:Int} {h:iE} (h1:gQ e h.props=0) (h2:yY C h.props=0) (h3:jV C h.marks=0) (h4:kM (yj C h.marks.dw) h.marks.dw.length=0) (h5:64 < (h.marks.layers.length:Int)):iO C e h=9:=by simp [iO,dM,h1,h2,h3,h4,cO,h5]
theorem ahC {C:gy} {e:Int} {h:iE} (h1:gQ e h.props=0) (h2:yY C h.props=0) (h3:jV C h.marks=0) (h4:kM (yj C h.marks.dw) h.marks.dw.length=0) (h5:¬ 64 < (h.marks.layers.length:Int)):iO C e h=kM (EC C e h.marks.layers) h.marks.layers.length:=by simp [iO,dM,h1,h2,h3,h4,cO,h5];exact Eq.symm
theorem Zv {C:gy} {l:List iL} {k:Nat} (h:k < l.length):dM ((l.map fun p=>ow C.st C.yU p.key p.value).drop k)=if ow C.st C.yU l[k].key l[k].value≠0 then ow C.st C.yU l[k].key l[k].value else dM ((l.map fun p=>ow C.st C.yU p.key p.value).drop (k+1)):=by
 rw [LB (by simpa using h)];simp
theorem ahD (G:GH) (w0:World) (hG:Hold G w0) (st:List bU) (li:List gq) (rv:List fI) (b ms ml mr mb mu:Nat) (n:Int) (hck:uH G st li rv ms ml mr mu) (hb:G b=some (fP b ms ml mr mb mu n).2)
  (e:Int) (h:iE) (p d l:aj) (hh:iR G h p d l) (hz:qG h≤4294967296) :
  Calls prog 58 #[(aI b 0),vi e,vg h p d l] w0 (bq w0 G fun u G'=>u=vi (iO (aW st li rv) e h)):=by
 obtain ⟨pA,pc,rfl,-,-,-⟩:=hh.props.slice;obtain ⟨dA,dc,rfl,-,-,-⟩:=hh.dw.slice;obtain ⟨lA,lc,rfl,-,-,-⟩:=hh.layers.slice;have hml:maxLen=9223372036854775807:=rfl;have hzz:=J8 h;have hz1:=tu (h.props.map iL.dat);have hz2:=tu (h.marks.dw.map jN.dat);have hz3:=tu (h.marks.layers.map jw.dat)
 simp only [bV] at hh hz1 hz2 hz3 ⊢
 generalize qG h=zz at hz hzz
 refine eN [(0,_),(1,_),(2,_)] func58 rfl ntmps58 rfl rfl hG ?_;intro a H;refine dH (fun _ K1=>?_);refine fC (cs:=[_]) H wn rfl rfl rfl ?_;clear H;intro b3 a w hb3 H;refine fC (cs:=[_]) H wn rfl rfl rfl ?_;clear H;intro b4 a w hb4 H;refine fC (cs:=[_,_,_,_,_]) H wn rfl rfl rfl ?_;clear H;intro b5 a w hb5 H;refine kH H (ak K1 rfl (SQ fun _ K2=>SQ fun _ K3=>?_));clear H K1;intro a H;obtain ⟨Ga5,Md,zQ,H⟩:=H.eu;obtain ⟨Ga4,F6,yG,H⟩:=H.eu;obtain ⟨Ga,CB,Bh,H⟩:=H.eu;replace zQ:=CB _ _ (F6 _ _ zQ);replace yG:=CB _ _ yG;have hma:∀ b o,G b=some o→Ga b=some o:=fun b o h=>CB _ _ (F6 _ _ (Md _ _ h));clear CB F6 Md;replace hck:=hck.mono hma;replace hb:=hma _ _ hb;replace hh:=hh.mono hma
 have g3:aJ Ga b3 0=some (aI b 0):=by unfold aJ;rw [Bh];rfl
 have g4:aJ Ga b4 0=some (vi e):=by unfold aJ;rw [yG];rfl
 have g50:aJ Ga b5 0=some (.slice pA h.props.length pc):=by unfold aJ;rw [zQ];rfl
 have g51:∀ (j:Nat) (u:aj),[vi h.marks.ins,vi h.marks.move,.slice dA h.marks.dw.length dc,.slice lA h.marks.layers.length lc][j]?=some u→aJ Ga b5 (1+j)=some u:=by
  intro j u hj
  unfold aJ;rw [zQ]
  match j,hj with
  | 0,hj=>exact hj
  | 1,hj=>exact hj
  | 2,hj=>exact hj
  | 3,hj=>exact hj
  | n+4,hj=>simp at hj
 have hc2:aJ Ga b 2=some (.map (some mr)):=by unfold aJ;rw [hb];rfl
 refine kP H (SC (Rg aH rfl (by assumption) ?_));clear H;intro a H;refine kH H (Rf D5 rfl (Rg BP rfl (by assumption) ?_));clear H;intro a H;refine s_call VR H wn rfl (UJ (Zm _ _ H.ro e h.props _ hh.props)) rfl ?_;clear H;rintro v17 _ a w ⟨⟨_,rfl⟩,rfl⟩ - H;refine kH H (aU K3 rfl (SR fun _ K4=>Rm rfl (Rc rfl (Kz K4 (Cd rfl ?_ ?_))))) <;> clear H K3 K4
 ·intro h19 a H
  try have wF:=dT h19
  refine bK (fun _ K5=>?_);have hE:=ahy (C:=aW st li rv) (e:=e) (h:=h) wF;exact kP H (SC (Rm rfl (aU K5 rfl (LR results58 rfl fun H=>H.rt (by rw [hE])))))
 intro h19 a H
 try have wF:=dF h19
 have e1:gQ e h.props=0:=by simpa using wF
 refine kP H (Kc K2 (SQ fun _ K6=>SR fun _ K7=>Rf D5 rfl (Rg BP rfl (by assumption) ?_)));clear H K2;intro a H;refine kH H (Rl qd rfl (Rm rfl (Kz K7 (SB ?_))));clear H K7;intro a H;skip;refine eU (ι:=Nat) (Tc:=[(3,_),(4,_),(5,_),(22,_),(23,_)]) (Lc:=[]) (fun gh=>[(24,vi gh)]) (fun gh=>[]) (fun gh=>Ga) (fun gh=>gh≤h.props.length∧dM ((h.props.map fun p=>ow st (li.map gq.id) p.key p.value).drop gh)=yY (aW st li rv) h.props) (fun gh=>h.props.length - gh) (0) (by exact (H).sub ⟨rfl,rfl,rfl,rfl,rfl,rfl,aB⟩) ?_ ?_
 ·exact ⟨iB _,rfl⟩
 clear H;intro gh a w hI H;obtain ⟨k,hgh⟩:∃ x,x=gh:=⟨_,rfl⟩;subst hgh;obtain ⟨hk,heq⟩:=hI;dsimp only [lca,bG] at H;refine kP H (SR fun _ K8=>Rc rfl (Kz K8 (SQ fun _ K9=>Cd rfl ?_ ?_))) <;> clear H K8
 ·intro mg a H
  try have p25:=dT mg
  have hk2:k < h.props.length:=by omega
  obtain ⟨xb,xo,rfl,hrow⟩:=MR hh.props hk2;refine kP H (Kc K9 (SQ fun _ aQ=>SB (SR fun _ bH=>Ri qd nT rfl rfl ?_)));clear H K9;intro a H;refine bJ nT (cs:=[_,_]) H wn rfl rfl (fun j v hj=>H.hp.aJ (hrow j v hj)) rfl ?_;clear H;intro a H;refine eB nT H wn rfl ?_;clear H;intro b9 a w yH H;refine bM nT 0 (vs:=[_,_]) _ H wn rfl rfl rfl rfl rfl rfl rfl rfl ?_;clear H;intro w H;dsimp only [List.set,setRow] at H;refine bH _ _ ?_;clear bH;refine kP H (SR fun _ bL=>Rg GY rfl (by assumption) ?_);clear H;intro a H;refine kH H (aT vV aH 0 rfl rfl (aT Wd aH 0 rfl rfl ?_));clear H;intro a H;refine s_call OZ H wn rfl (Ol _ _ H.ro st li rv b ms ml mr mb mu n h.props[k].key h.props[k].value hck hb) rfl ?_;clear H;rintro v33 _ a w ⟨rfl,rfl⟩ - H;refine kH H (ak bL rfl (SR fun _ bR=>Rm rfl (Rc rfl (Kz bR (Cd rfl ?_ ?_))))) <;> clear H bL bR
  ·intro nJ a H
   try have p35:=dT nJ
   refine bK (fun _ bQ=>?_)
   have hr:yY (aW st li rv) h.props=ow st (li.map gq.id) h.props[k].key h.props[k].value:=by rw [← heq];exact (Zv (C:=aW st li rv) hk2).trans (av p35)
   have hE:=(ahz (C:=aW st li rv) (e:=e) (h:=h) e1 (by rw [hr];exact p35)).trans hr;exact kP H (SC (Rm rfl (aU bQ rfl (LR results58 rfl fun H=>H.rt (by rw [hE])))))
  intro nJ a H
  try have p35:=dF nJ
  refine kP H (Kc aQ (SC (Rd rfl (Rm rfl ?_))));clear H aQ;intro a H;refine aG ?_;refine dh ((k+1)) (by exact (H.dP (Pl:=[_]) (dD:=[]) [] (by decide) rfl).sub ⟨rfl,rfl,rfl,rfl,rfl,rfl,aB⟩) ?_ ?_
  ·exact ⟨by omega,by rw [Zv (C:=aW st li rv) hk2,ah (by simpa using p35)] at heq;exact heq⟩
  first|omega|(dsimp only;omega)
 intro mg a H
 try have p25:=dF mg
 refine dW ?_;refine K6 _ _ ?_;clear K6;refine bK (fun _ dJ=>?_)
 have e2:yY (aW st li rv) h.props=0:=by rw [← heq,ig (by rw [bV];omega)];rfl
 refine kP H (SC (Rf uS rfl ?_));clear H;intro a H;refine bJ Hf (cs:=[vi h.marks.ins,vi h.marks.move,.slice dA h.marks.dw.length dc,.slice lA h.marks.layers.length lc]) H wn rfl rfl (fun j v hj=>H.hp.aJ (g51 j v hj)) rfl ?_;clear H;intro a H;refine eB Hf H wn rfl ?_;clear H;intro b11 a w LP H;refine bM Hf 0 (vs:=[_,_,_,_]) _ H wn rfl rfl rfl rfl rfl rfl rfl rfl ?_;clear H;intro w H;dsimp only [List.set,setRow] at H;obtain ⟨Gb,hmb,FY,H⟩:=H.eu;replace hck:=hck.mono hmb;replace hb:=hmb _ _ hb;replace hh:=hh.mono hmb;replace g3:=aO hmb g3;replace g4:=aO hmb g4;replace hc2:=aO hmb hc2
 have q0:aJ Gb b11 0=some (vi h.marks.ins):=by unfold aJ;rw [FY];rfl
 have q1:aJ Gb b11 1=some (vi h.marks.move):=by unfold aJ;rw [FY];rfl
 have q2:aJ Gb b11 2=some (.slice dA h.marks.dw.length dc):=by unfold aJ;rw [FY];rfl
 have q3:aJ Gb b11 3=some (.slice lA h.marks.layers.length lc):=by unfold aJ;rw [FY];rfl
 have hcb:=ajh hck hb g3 g4 q3 hh.layers;refine aG ?_;refine dJ _ _ ?_;clear dJ;refine pE (ι:=GH) (Tc:=[(3,_),(4,_),(11,_)]) (Lc:=[]) (fun gh=>[]) (fun gh=>[]) (fun gh=>gh) (fun gh=>jV (aW st li rv) h.marks=0∧(∀ b o,Gb b=some o→gh b=some o)) (by exact (H).sub ⟨rfl,rfl,rfl,aB⟩) ?_ ?_
 ·skip;refine xX ?_;refine bK (fun _ dO=>?_)
  by_cases c0:h.marks.ins≠0
  ·skip
   by_cases c1:h.marks.ins∉rv.map fI.id
   ·skip;refine dI hmx [[],[0],[0,1],[0,1,2],(ra 0 4),(ra 0 5),(ra 0 6),(ra 0 7),(ra 0 4),[0,1,2,3,8],(ra 0 10),(ra 0 11),(ra 0 12),(ra 0 13)] [13] (by kernel_rfl) [_,_,_,_,_,(aI b 0),_,_,_,_,.bool (decide (h.marks.ins∈rv.map fI.id)),.bool (decide (h.marks.ins∉rv.map fI.id)),_] H (aD (Z0 rfl (Rf xg rfl)) (X1 0 41 rfl fun hG=>Rg aH rfl (aO hG q0)) (Z1 1 42 rfl (Rc rfl)) (Z1 2 43 rfl (Rm rfl)) (aD (X1 3 44 rfl fun hG=>YR GY (aA c0) rfl (aO hG g3)) ?_ (Z2 5 46 3 44 rfl (YF IG (aA c0) rfl)) (X2 6 47 3 44 rfl fun hG=>YR Ae (aA c0) rfl (aO hG hc2)) (aD (Z1 3 44 rfl (YF xg (aA c0) rfl)) (X2 8 49 3 44 rfl fun hG=>YR aH (aA c0) rfl (aO hG q0)) ?_ ?_ (aZ (Z2 3 44 11 52 rfl (Pt (aA c0) rfl)) (aZ (bN rfl) cu))))) ?_
    ·refine bZ 4 45 3 44 rfl rfl fun _ a w G1 hG HT H fin=>?_;refine sW H (wg H rfl rfl (aA c0)) rfl rfl ?_;clear H;intro a H;exact fin H iJ rfl
    ·refine nD 7 48 9 50 3 44 rfl rfl fun _ a w G1 hG HT H fin=>?_;refine zi (zv:=.bool false) Ah nW (by kernel_rfl) H (wg H rfl rfl (aA c0)) rfl rfl (H.ro _ _ (hG _ _ hck.rev)) rfl ?_;clear H;intro a H;rw [EG] at H;exact fin H iJ rfl
    ·refine bZ 10 51 3 44 rfl rfl fun _ a w G1 hG HT H fin=>?_;refine kH H (YN (aA c0) rfl ?_);clear H;intro a H;exact fin H iJ (by show _=_;first|rfl|exact aF decide_not.symm)
    clear H;intro a w G ni H hv;have H:=H.aP (hv 12 53 rfl rfl) rfl;clear hv;refine kH H (Ra rfl ?_);clear H;intro a H;refine aG ⟨rfl,?_⟩;refine dO _ _ ?_;clear dO;refine xY H rfl (aA c1) ?_;refine bK (fun _ dK=>?_);have e3:jV (aW st li rv) h.marks=22:=av ⟨c0,c1⟩;have hE:=(Bj (C:=aW st li rv) (e:=e) (h:=h) e1 e2 (by rw [e3];decide)).trans e3;exact kP H (SC (aU dK rfl (LR results58 rfl fun H=>H.rt (by rw [hE]))))
   skip;refine dI hmx [[],[0],[0,1],[0,1,2],(ra 0 4),(ra 0 5),(ra 0 6),(ra 0 7),(ra 0 4),[0,1,2,3,8],(ra 0 10),(ra 0 11),(ra 0 12),(ra 0 13)] [13] (by kernel_rfl) [_,_,_,_,_,(aI b 0),_,_,_,_,.bool (decide (h.marks.ins∈rv.map fI.id)),.bool (decide (h.marks.ins∉rv.map fI.id)),_] H (aD (Z0 rfl (Rf xg rfl)) (X1 0 41 rfl fun hG=>Rg aH rfl (aO hG q0)) (Z1 1 42 rfl (Rc rfl)) (Z1 2 43 rfl (Rm rfl)) (aD (X1 3 44 rfl fun hG=>YR GY (aA c0) rfl (aO hG g3)) ?_ (Z2 5 46 3 44 rfl (YF IG (aA c0) rfl)) (X2 6 47 3 44 rfl fun hG=>YR Ae (aA c0) rfl (aO hG hc2)) (aD (Z1 3 44 rfl (YF xg (aA c0) rfl)) (X2 8 49 3 44 rfl fun hG=>YR aH (aA c0) rfl (aO hG q0)) ?_ ?_ (aZ (Z2 3 44 11 52 rfl (Pt (aA c0) rfl)) (aZ (bN rfl) cu))))) ?_
   ·refine bZ 4 45 3 44 rfl rfl fun _ a w G1 hG HT H fin=>?_;refine sW H (wg H rfl rfl (aA c0)) rfl rfl ?_;clear H;intro a H;exact fin H iJ rfl
   ·refine nD 7 48 9 50 3 44 rfl rfl fun _ a w G1 hG HT H fin=>?_;refine zi (zv:=.bool false) Ah nW (by kernel_rfl) H (wg H rfl rfl (aA c0)) rfl rfl (H.ro _ _ (hG _ _ hck.rev)) rfl ?_;clear H;intro a H;rw [EG] at H;exact fin H iJ rfl
   ·refine bZ 10 51 3 44 rfl rfl fun _ a w G1 hG HT H fin=>?_;refine kH H (YN (aA c0) rfl ?_);clear H;intro a H;exact fin H iJ (by show _=_;first|rfl|exact aF decide_not.symm)
   clear H;intro a w G ni H hv;have H:=H.aP (hv 12 53 rfl rfl) rfl;clear hv;refine kH H (Ra rfl ?_);clear H;intro a H;refine aG ⟨rfl,?_⟩;refine dO _ _ ?_;clear dO;refine mX H rfl (aN c1) ?_;refine bK (fun _ eO=>?_)
   have hno:¬ (h.marks.ins≠0∧h.marks.ins∉(aW st li rv).GL):=by first|exact fun h=>c1 h.2|exact fun h=>c0 h.1
   replace q0:=aO ni q0;replace q1:=aO ni q1;replace q2:=aO ni q2;refine kP H (SC (Rf Ch rfl (Rg aH rfl (by assumption) ?_)));clear H;intro a H;refine s_call vU H wn rfl (wu _ _ H.ro h.marks.move 0 1073741824) rfl ?_;clear H;rintro v57 _ a w ⟨rfl,rfl⟩ - H;refine kH H (Rn rfl (Rm rfl (Sp 59 rfl ?_ ?_))) <;> clear H
   ·intro iI a H
    try have p59:=dT iI
    refine kH H (aR iI rfl (aR iI rfl (Ku rfl (Ku rfl (Ku rfl (Ks iI rfl (Pt iI rfl (aU eO rfl (Ct rfl rfl (SQ fun _ gH=>?_))))))))));clear H eO;intro a H
    have e3:jV (aW st li rv) h.marks=21:=by unfold jV;rw [ah hno,av (by first|(simp_all;done)|(simp_all;omega))]
    have hE:=(Bj (C:=aW st li rv) (e:=e) (h:=h) e1 e2 (by rw [e3];decide)).trans e3;exact kP H (SC (aU gH rfl (LR results58 rfl fun H=>H.rt (by rw [hE]))))
   intro iI a H
   try have p59:=dF iI
   refine kH H (YF Ch iI rfl (YR aH iI rfl (by assumption) ?_));clear H;intro a H;refine kH H (YC iI rfl (YM iI rfl (Sp 63 rfl ?_ ?_))) <;> clear H
   ·intro h63 a H
    try have p63:=dT h63
    refine kH H (YF xg h63 rfl (YR aH h63 rfl (by assumption) ?_));clear H;intro a H;refine kH H (YC h63 rfl (PT iI h63 rfl (Pf iI rfl (aU eO rfl (Cd rfl ?_ ?_))))) <;> clear H eO
    ·intro gW a H
     try have p54:=dT gW
     refine bK (fun _ fE=>?_)
     have e3:jV (aW st li rv) h.marks=21:=by unfold jV;rw [ah hno,av (by first|(simp_all;done)|(simp_all;omega))]
     have hE:=(Bj (C:=aW st li rv) (e:=e) (h:=h) e1 e2 (by rw [e3];decide)).trans e3;exact kP H (SC (aU fE rfl (LR results58 rfl fun H=>H.rt (by rw [hE]))))
    intro gW a H
    try have p54:=dF gW
    refine bK (fun _ gL=>?_)
    have hn2:¬ (¬ (0≤h.marks.move∧h.marks.move≤1073741824)∨(h.marks.move≠0∧h.marks.ins=0)):=by first|(simp_all;done)|(simp_all;omega)
    refine kP H (SC (Rf xk rfl (Rg xL rfl (by assumption) ?_)));clear H;intro a H;refine kH H (Rl qX rfl (Rc rfl (aU gL rfl (Cd rfl ?_ ?_)))) <;> clear H gL
    ·intro jq a H
     refine bK (fun _ jl=>?_)
     have e3:jV (aW st li rv) h.marks=9:=by unfold jV;rw [ah hno,ah hn2,av (by simpa using jq)]
     have hE:=(Bj (C:=aW st li rv) (e:=e) (h:=h) e1 e2 (by rw [e3];decide)).trans e3;exact kP H (SC (aU jl rfl (LR results58 rfl fun H=>H.rt (by rw [hE]))))
    intro jq a H
    have e3:jV (aW st li rv) h.marks=0:=by unfold jV;rw [ah hno,ah hn2,ah (by simpa using jq)]
    refine fZ ?_;refine ⟨_,by exact (H).sub ⟨rfl,rfl,rfl,aB⟩,?_⟩;exact ⟨e3,ni⟩
   intro h63 a H
   try have p63:=dF h63
   refine kH H (bC h63 rfl (PF iI h63 rfl (Pf iI rfl (aU eO rfl (Cf rfl rfl (SQ fun _ kC=>?_))))));clear H eO;intro a H
   have hn2:¬ (¬ (0≤h.marks.move∧h.marks.move≤1073741824)∨(h.marks.move≠0∧h.marks.ins=0)):=by first|(simp_all;done)|(simp_all;omega)
   refine kP H (SC (Rf xk rfl (Rg xL rfl (by assumption) ?_)));clear H;intro a H;refine kH H (Rl qX rfl (Rc rfl (aU kC rfl (Cd rfl ?_ ?_)))) <;> clear H kC
   ·intro jq a H
    refine bK (fun _ jY=>?_)
    have e3:jV (aW st li rv) h.marks=9:=by unfold jV;rw [ah hno,ah hn2,av (by simpa using jq)]
    have hE:=(Bj (C:=aW st li rv) (e:=e) (h:=h) e1 e2 (by rw [e3];decide)).trans e3;exact kP H (SC (aU jY rfl (LR results58 rfl fun H=>H.rt (by rw [hE]))))
   intro jq a H
   have e3:jV (aW st li rv) h.marks=0:=by unfold jV;rw [ah hno,ah hn2,ah (by simpa using jq)]
   refine fZ ?_;refine ⟨_,by exact (H).sub ⟨rfl,rfl,rfl,aB⟩,?_⟩;exact ⟨e3,ni⟩
  skip;refine dI hmx [[],[0],[0,1],[0,1,2],(ra 0 4),(ra 0 5),(ra 0 6),(ra 0 7),(ra 0 4),[0,1,2,3,8],(ra 0 10),(ra 0 11),(ra 0 12),(ra 0 13)] [13] (by kernel_rfl) [_,_,_,_,undef,undef,undef,undef,undef,undef,undef,undef,_] H (aD (Z0 rfl (Rf xg rfl)) (X1 0 41 rfl fun hG=>Rg aH rfl (aO hG q0)) (Z1 1 42 rfl (Rc rfl)) (Z1 2 43 rfl (Rm rfl)) (aD (aK (j:=3) (by kernel_rfl) (fun _ _ _ _ _ h=>h) rfl rfl rfl rfl rfl (fun _ _ h=>aL h (aF (aN c0))) rfl (fun _=>rfl)) (aK (j:=3) (by kernel_rfl) (fun _ _ _ _ _ h=>h) rfl rfl rfl rfl rfl (fun _ _ h=>aL h (aF (aN c0))) rfl (fun _=>rfl)) (aK (j:=3) (by kernel_rfl) (fun _ _ _ _ _ h=>h) rfl rfl rfl rfl rfl (fun _ _ h=>aL h (aF (aN c0))) rfl (fun _=>rfl)) (aK (j:=3) (by kernel_rfl) (fun _ _ _ _ _ h=>h) rfl rfl rfl rfl rfl (fun _ _ h=>aL h (aF (aN c0))) rfl (fun _=>rfl)) (aD (aK (j:=3) (by kernel_rfl) (fun _ _ _ _ _ h=>h) rfl rfl rfl rfl rfl (fun _ _ h=>aL h (aF (aN c0))) rfl (fun _=>rfl)) (aK (j:=3) (by kernel_rfl) (fun _ _ _ _ _ h=>h) rfl rfl rfl rfl rfl (fun _ _ h=>aL h (aF (aN c0))) rfl (fun _=>rfl)) (aK (j:=3) (by kernel_rfl) (fun _ _ _ _ _ h=>h) rfl rfl rfl rfl rfl (fun _ _ h=>aL h (aF (aN c0))) rfl (fun _=>rfl)) (aK (j:=3) (by kernel_rfl) (fun _ _ _ _ _ h=>h) rfl rfl rfl rfl rfl (fun _ _ h=>aL h (aF (aN c0))) rfl (fun _=>rfl)) (aZ (Z2 3 44 11 52 rfl (Pf (aN c0) rfl)) (aZ (bN rfl) cu))))) ?_
  clear H;intro a w G ni H hv;have H:=H.aP (hv 12 53 rfl rfl) rfl;clear hv;refine kH H (Ra rfl ?_);clear H;intro a H;refine aG ⟨rfl,?_⟩;refine dO _ _ ?_;clear dO;refine mX H rfl rfl ?_;refine bK (fun _ jJ=>?_)
  have hno:¬ (h.marks.ins≠0∧h.marks.ins∉(aW st li rv).GL):=by first|exact fun h=>c1 h.2|exact fun h=>c0 h.1
  replace q0:=aO ni q0;replace q1:=aO ni q1;replace q2:=aO ni q2;refine kP H (SC (Rf Ch rfl (Rg aH rfl (by assumption) ?_)));clear H;intro a H;refine s_call vU H wn rfl (wu _ _ H.ro h.marks.move 0 1073741824) rfl ?_;clear H;rintro v57 _ a w ⟨rfl,rfl⟩ - H;refine kH H (Rn rfl (Rm rfl (Sp 59 rfl ?_ ?_))) <;> clear H
  ·intro iI a H
   try have p59:=dT iI
   refine kH H (aR iI rfl (aR iI rfl (Ku rfl (Ku rfl (Ku rfl (Ks iI rfl (Pt iI rfl (aU jJ rfl (Ct rfl rfl (SQ fun _ kJ=>?_))))))))));clear H jJ;intro a H
   have e3:jV (aW st li rv) h.marks=21:=by unfold jV;rw [ah hno,av (by first|(simp_all;done)|(simp_all;omega))]
   have hE:=(Bj (C:=aW st li rv) (e:=e) (h:=h) e1 e2 (by rw [e3];decide)).trans e3;exact kP H (SC (aU kJ rfl (LR results58 rfl fun H=>H.rt (by rw [hE]))))
  intro iI a H
  try have p59:=dF iI
  refine kH H (YF Ch iI rfl (YR aH iI rfl (by assumption) ?_));clear H;intro a H;refine kH H (YC iI rfl (YM iI rfl (Sp 63 rfl ?_ ?_))) <;> clear H
  ·intro h63 a H
   try have p63:=dT h63
   refine kH H (YF xg h63 rfl (YR aH h63 rfl (by assumption) ?_));clear H;intro a H;refine kH H (YC h63 rfl (PT iI h63 rfl (Pf iI rfl (aU jJ rfl (Cd rfl ?_ ?_))))) <;> clear H jJ
   ·intro gW a H
    try have p54:=dT gW
    refine bK (fun _ lF=>?_)
    have e3:jV (aW st li rv) h.marks=21:=by unfold jV;rw [ah hno,av (by first|(simp_all;done)|(simp_all;omega))]
    have hE:=(Bj (C:=aW st li rv) (e:=e) (h:=h) e1 e2 (by rw [e3];decide)).trans e3;exact kP H (SC (aU lF rfl (LR results58 rfl fun H=>H.rt (by rw [hE]))))
   intro gW a H
   try have p54:=dF gW
   refine bK (fun _ jK=>?_)
   have hn2:¬ (¬ (0≤h.marks.move∧h.marks.move≤1073741824)∨(h.marks.move≠0∧h.marks.ins=0)):=by first|(simp_all;done)|(simp_all;omega)
   refine kP H (SC (Rf xk rfl (Rg xL rfl (by assumption) ?_)));clear H;intro a H;refine kH H (Rl qX rfl (Rc rfl (aU jK rfl (Cd rfl ?_ ?_)))) <;> clear H jK
   ·intro jq a H
    refine bK (fun _ oV=>?_)
    have e3:jV (aW st li rv) h.marks=9:=by unfold jV;rw [ah hno,ah hn2,av (by simpa using jq)]
    have hE:=(Bj (C:=aW st li rv) (e:=e) (h:=h) e1 e2 (by rw [e3];decide)).trans e3;exact kP H (SC (aU oV rfl (LR results58 rfl fun H=>H.rt (by rw [hE]))))
   intro jq a H
   have e3:jV (aW st li rv) h.marks=0:=by unfold jV;rw [ah hno,ah hn2,ah (by simpa using jq)]
   refine fZ ?_;refine ⟨_,by exact (H).sub ⟨rfl,rfl,rfl,aB⟩,?_⟩;exact ⟨e3,ni⟩
  intro h63 a H
  try have p63:=dF h63
  refine kH H (bC h63 rfl (PF iI h63 rfl (Pf iI rfl (aU jJ rfl (Cf rfl rfl (SQ fun _ qh=>?_))))));clear H jJ;intro a H
  have hn2:¬ (¬ (0≤h.marks.move∧h.marks.move≤1073741824)∨(h.marks.move≠0∧h.marks.ins=0)):=by first|(simp_all;done)|(simp_all;omega)
  refine kP H (SC (Rf xk rfl (Rg xL rfl (by assumption) ?_)));clear H;intro a H;refine kH H (Rl qX rfl (Rc rfl (aU qh rfl (Cd rfl ?_ ?_)))) <;> clear H qh
  ·intro jq a H
   refine bK (fun _ qH=>?_)
   have e3:jV (aW st li rv) h.marks=9:=by unfold jV;rw [ah hno,ah hn2,av (by simpa using jq)]
   have hE:=(Bj (C:=aW st li rv) (e:=e) (h:=h) e1 e2 (by rw [e3];decide)).trans e3;exact kP H (SC (aU qH rfl (LR results58 rfl fun H=>H.rt (by rw [hE]))))
  intro jq a H
  have e3:jV (aW st li rv) h.marks=0:=by unfold jV;rw [ah hno,ah hn2,ah (by simpa using jq)]
  refine fZ ?_;refine ⟨_,by exact (H).sub ⟨rfl,rfl,rfl,aB⟩,?_⟩;exact ⟨e3,ni⟩
 clear H;intro gh a w hI H;obtain ⟨g,hgh⟩:∃ x,x=gh:=⟨_,rfl⟩;subst hgh;obtain ⟨e3,wo⟩:=hI;replace hck:=hck.mono wo;replace hb:=wo _ _ hb;replace hh:=hh.mono wo;replace g3:=aO wo g3;replace q2:=aO wo q2;replace q3:=aO wo q3;replace hc2:=aO wo hc2;replace hcb:=hcb.mono wo;dsimp only [lca,bG] at H;refine kP H (SQ fun _ rC=>SR fun _ qI=>Rf xk rfl (Rg xL rfl (by assumption) ?_));clear H;intro a H;refine kH H (Rl qX rfl (Rm rfl (Kz qI (SB ?_))));clear H qI;intro a H;skip;refine eU (ι:=Nat × GH) (Tc:=[(3,_),(4,_),(11,_),(75,_),(76,_)]) (Lc:=[]) (fun gh=>[(77,vi gh.1)]) (fun gh=>[]) (fun gh=>gh.2) (fun gh=>gh.1≤h.marks.dw.length∧dM (((List.range h.marks.dw.length).map (yj (aW st li rv) h.marks.dw)).drop gh.1)=kM (yj (aW st li rv) h.marks.dw) h.marks.dw.length∧(∀ b o,g b=some o→gh.2 b=some o)) (fun gh=>h.marks.dw.length - gh.1) ((0,g)) (by exact (H).sub ⟨rfl,rfl,rfl,rfl,rfl,rfl,aB⟩) ?_ ?_
 ·exact ⟨iB _,rfl,fun _ _ h=>h⟩
 clear H;intro gh a w hI H;obtain ⟨k,g2⟩:=gh;dsimp only at hI H;obtain ⟨hk,heq,hgm⟩:=hI;dsimp only [lca,bG] at H;refine kP H (SR fun _ tL=>Rc rfl (Kz tL (SQ fun _ vM=>Cd rfl ?_ ?_))) <;> clear H tL
 ·intro ng a H
  try have RH:=dT ng
  have hk2:k < h.marks.dw.length:=by omega
  have hd2:=hh.dw.mono hgm;obtain ⟨xb,xo,rfl,hrow⟩:=Vk hd2 hk2
  have hk1:k - 1 < h.marks.dw.length:=by omega
  obtain ⟨b',o',he',hrow'⟩:=Vk hd2 hk1
  injection he' with he'
  injection he' with e1 e2
  subst e1;subst e2
  have hde:yj (aW st li rv) h.marks.dw k=yu (aW st li rv) k h.marks.dw[k] h.marks.dw[k - 1].rev:=by unfold yj;rw [iA hk2,iA hk1];rfl
  have hX:∀ v,yu (aW st li rv) k h.marks.dw[k] h.marks.dw[k - 1].rev=v→v≠0→iO (aW st li rv) e h=v:=fun v h1 h2=>by
   have h4:kM (yj (aW st li rv) h.marks.dw) h.marks.dw.length=v:=by rw [← heq,DN hk2,hde,h1,av h2]
   exact (ahA e1 e2 e3 (by rw [h4];exact h2)).trans h4
  have hp:=hrow' 0 _ rfl;have g3':=aO hgm g3;have hc2':=aO hgm hc2;have q2':=aO hgm q2;refine kP H (Kc vM (SQ fun _ sw=>SB (SR fun _ xQ=>Rm rfl (Ri qX wH rfl rfl ?_))));clear H vM;intro a H;refine bJ wH (cs:=h.marks.dw[k].cells) H wn rfl rfl (fun j v hj=>H.hp.aJ (hrow j v hj)) rfl ?_;clear H;intro a H;refine eB wH H wn rfl ?_;clear H;intro b13 a w LQ H;refine kH H (Ra rfl ?_);clear H;intro a H;refine bM wH 0 (vs:=[_,_]) _ H wn rfl rfl rfl rfl rfl rfl rfl rfl ?_;clear H;intro w H;dsimp only [List.set,setRow] at H;refine xQ _ _ ?_;clear xQ;refine xX ?_;refine bK (fun _ Dy=>?_);refine dI hmx [[],[0],[0,1],[0,1,2],[],[4],(ra 0 6),(ra 0 7),(ra 0 8)] [8] (by kernel_rfl) [_,_,_,_,_,vi h.marks.dw[k].rev,.bool (decide (h.marks.dw[k].rev∈rv.map fI.id)),_] H (aD (X0 rfl fun hG=>Rg GY rfl (aO hG g3')) (Z1 0 83 rfl (Rk rfl)) (Z1 1 84 rfl (Rf IG rfl)) (X1 2 85 rfl fun hG=>Rg Ae rfl (aO hG hc2')) (aD (Z0 rfl (Rf II rfl)) (Z1 4 87 rfl (Ro aH 0 rfl)) ?_ (Z1 6 89 rfl (Rn rfl)) (aZ (bN rfl) cu))) ?_
  ·refine bZ 3 86 5 88 rfl rfl fun _ a w G1 hG HT H fin=>?_;refine zi (zv:=.bool false) Ah nW (by kernel_rfl) H wn rfl rfl (H.ro _ _ (hG _ _ (hgm _ _ hck.rev))) rfl ?_;clear H;intro a H;rw [EG] at H;exact fin H iJ rfl
  clear H;intro a w G FT H hv;have H:=H.aP (hv 7 90 rfl rfl) rfl;clear hv;refine kH H (Ra rfl ?_);clear H;intro a H;refine aG ⟨rfl,?_⟩;refine Dy _ _ ?_;clear Dy;refine kS H rfl ?_ ?_
  ·intro uY
   refine bK (fun _ Dz=>?_);have hE:=hX 22 (by unfold yu;rw [av (by simpa using uY)]) (by decide);exact kP H (SC (aU Dz rfl (LR results58 rfl fun H=>H.rt (by rw [hE]))))
  intro uY
  try have Zh:=dF uY
  have Jc:¬ (h.marks.dw[k].rev∉(aW st li rv).GL):=by simpa using uY
  refine bK (fun _ qj=>?_);replace hp:=aO FT hp;replace q2':=aO FT q2'
  by_cases c3:0 < (k:Int)
  ·skip
   by_cases c4:h.marks.dw[k].rev≤h.marks.dw[k - 1].rev
   ·skip;refine dI hmx [[],[0],[0,1],[0,1,2],(ra 0 4),[0,1,2],[0,1,2,5],[0,1,2],[0,1,2,7],[0,1,2,5,6,7,8],[0,1,2,5,6,7,8,9],([0,1,2]++ra 5 6),(ra 0 12),(ra 0 13),(ra 0 14)] [14] (by kernel_rfl) [_,_,_,_,vi h.marks.dw[k].rev,_,_,_,vi ((k - 1:Nat):Int),_,_,_,_,_] H (aD (Z0 rfl (Rm rfl)) (Z1 0 92 rfl (Rc rfl)) (Z1 1 93 rfl (Rm rfl)) (Z1 2 94 rfl (YF II (aA c3) rfl)) (aD (Z2 3 95 2 94 rfl (YO aH 0 (aA c3) rfl)) (Z1 2 94 rfl (YF xk (aA c3) rfl)) (X2 5 97 2 94 rfl fun hG=>YR xL (aA c3) rfl (aO hG q2')) (Z1 2 94 rfl (YM (aA c3) rfl)) (aD ?_ (Z3 6 98 8 100 2 94 rfl (YI qX wH (aA c3) rfl rfl)) (Z2 9 101 2 94 rfl (YF II (aA c3) rfl)) (X2 10 102 2 94 rfl fun hG=>YR aH (aA c3) rfl (aO hG hp)) (aZ (Z3 4 96 11 103 2 94 rfl (YC (aA c3) rfl)) (aZ (Z2 2 94 12 104 rfl (Pt (aA c3) rfl)) (aZ (bN rfl) cu)))))) ?_
    ·refine bZ 7 99 2 94 rfl rfl fun _ a w G1 hG HT H fin=>?_;refine kX _ H (wg H rfl rfl (aA c3)) rfl rfl rfl (by omega) (by omega) rfl ?_;clear H;intro a H;exact fin H iJ (by show _=_;first|rfl|exact aC vi (by omega))
    clear H;intro a w G LK H hv;have H:=H.aP (hv 13 105 rfl rfl) rfl;clear hv;refine kH H (Ra rfl ?_);clear H;intro a H;refine aG ⟨rfl,?_⟩;refine qj _ _ ?_;clear qj;refine xY H rfl (aA c4) ?_;refine bK (fun _ Fp=>?_);have hz:0 < k∧h.marks.dw[k].rev≤h.marks.dw[k - 1].rev:=⟨by omega,c4⟩;have hE:=hX 6 (by unfold yu;rw [ah Jc,av hz]) (by decide);exact kP H (SC (aU Fp rfl (LR results58 rfl fun H=>H.rt (by rw [hE]))))
   skip;refine dI hmx [[],[0],[0,1],[0,1,2],(ra 0 4),[0,1,2],[0,1,2,5],[0,1,2],[0,1,2,7],[0,1,2,5,6,7,8],[0,1,2,5,6,7,8,9],([0,1,2]++ra 5 6),(ra 0 12),(ra 0 13),(ra 0 14)] [14] (by kernel_rfl) [_,_,_,_,vi h.marks.dw[k].rev,_,_,_,vi ((k - 1:Nat):Int),_,_,_,_,_] H (aD (Z0 rfl (Rm rfl)) (Z1 0 92 rfl (Rc rfl)) (Z1 1 93 rfl (Rm rfl)) (Z1 2 94 rfl (YF II (aA c3) rfl)) (aD (Z2 3 95 2 94 rfl (YO aH 0 (aA c3) rfl)) (Z1 2 94 rfl (YF xk (aA c3) rfl)) (X2 5 97 2 94 rfl fun hG=>YR xL (aA c3) rfl (aO hG q2')) (Z1 2 94 rfl (YM (aA c3) rfl)) (aD ?_ (Z3 6 98 8 100 2 94 rfl (YI qX wH (aA c3) rfl rfl)) (Z2 9 101 2 94 rfl (YF II (aA c3) rfl)) (X2 10 102 2 94 rfl fun hG=>YR aH (aA c3) rfl (aO hG hp)) (aZ (Z3 4 96 11 103 2 94 rfl (YC (aA c3) rfl)) (aZ (Z2 2 94 12 104 rfl (Pt (aA c3) rfl)) (aZ (bN rfl) cu)))))) ?_
   ·refine bZ 7 99 2 94 rfl rfl fun _ a w G1 hG HT H fin=>?_;refine kX _ H (wg H rfl rfl (aA c3)) rfl rfl rfl (by omega) (by omega) rfl ?_;clear H;intro a H;exact fin H iJ (by show _=_;first|rfl|exact aC vi (by omega))
   clear H;intro a w G LK H hv;have H:=H.aP (hv 13 105 rfl rfl) rfl;clear hv;refine kH H (Ra rfl ?_);clear H;intro a H;refine aG ⟨rfl,?_⟩;refine qj _ _ ?_;clear qj;refine mX H rfl (aN c4) ?_;refine bK (fun _ HZ=>?_)
   have hz:¬ (0 < k∧h.marks.dw[k].rev≤h.marks.dw[k - 1].rev):=by first|exact fun h=>c4 h.2|exact fun h=>c3 (by omega)
   refine kP H (SC (aT Wh aH 0 rfl rfl ?_));clear H;intro a H;refine s_call vU H wn rfl (wu _ _ H.ro h.marks.dw[k].move 0 1073741824) rfl ?_;clear H;rintro v109 _ a w ⟨rfl,rfl⟩ - H;refine kH H (Rn rfl (aU HZ rfl (Cd rfl ?_ ?_))) <;> clear H HZ
   ·intro yB a H
    try have RD:=dT yB
    refine bK (fun _ Kt=>?_);have hE:=hX 21 (by unfold yu;rw [ah Jc,ah hz,av (by have h0:=yB;simp at h0;omega)]) (by decide);exact kP H (SC (aU Kt rfl (LR results58 rfl fun H=>H.rt (by rw [hE]))))
   intro yB a H
   try have RD:=dF yB
   have Qo:yu (aW st li rv) k h.marks.dw[k] h.marks.dw[k - 1].rev=0:=by unfold yu;rw [ah Jc,ah hz,ah (by have h0:=yB;simp at h0;omega)]
   have PW:=fun b o h=>LK b o (FT b o (hgm b o h));refine kP H (Kc sw (SC (Rd rfl (Rm rfl ?_))));clear H sw;intro a H;refine aG ?_;refine dh ((k+1,G)) (by exact (H.dP (Pl:=[_]) (dD:=[]) [] (by decide) rfl).sub ⟨rfl,rfl,rfl,rfl,rfl,rfl,aB⟩) ?_ ?_
   ·(try dsimp only);exact ⟨by omega,by rw [DN hk2,ah (by rw [hde];simpa using Qo)] at heq;exact heq,PW⟩
   first|omega|(dsimp only;omega)
  skip;refine dI hmx [[],[0],[0,1],[0,1,2],(ra 0 4),[0,1,2],[0,1,2,5],[0,1,2],[0,1,2,7],[0,1,2,5,6,7,8],[0,1,2,5,6,7,8,9],([0,1,2]++ra 5 6),(ra 0 12),(ra 0 13),(ra 0 14)] [14] (by kernel_rfl) [_,_,_,undef,undef,undef,undef,undef,undef,undef,undef,undef,undef,_] H (aD (Z0 rfl (Rm rfl)) (Z1 0 92 rfl (Rc rfl)) (Z1 1 93 rfl (Rm rfl)) (aK (j:=2) (by kernel_rfl) (fun _ _ _ _ _ h=>h) rfl rfl rfl rfl rfl (fun _ _ h=>aL h (aF (aN c3))) rfl (fun _=>rfl)) (aD (aK (j:=2) (by kernel_rfl) (fun _ _ _ _ _ h=>h) rfl rfl rfl rfl rfl (fun _ _ h=>aL h (aF (aN c3))) rfl (fun _=>rfl)) (aK (j:=2) (by kernel_rfl) (fun _ _ _ _ _ h=>h) rfl rfl rfl rfl rfl (fun _ _ h=>aL h (aF (aN c3))) rfl (fun _=>rfl)) (aK (j:=2) (by kernel_rfl) (fun _ _ _ _ _ h=>h) rfl rfl rfl rfl rfl (fun _ _ h=>aL h (aF (aN c3))) rfl (fun _=>rfl)) (aK (j:=2) (by kernel_rfl) (fun _ _ _ _ _ h=>h) rfl rfl rfl rfl rfl (fun _ _ h=>aL h (aF (aN c3))) rfl (fun _=>rfl)) (aD (aK (j:=2) (by kernel_rfl) (fun _ _ _ _ _ h=>h) rfl rfl rfl rfl rfl (fun _ _ h=>aL h (aF (aN c3))) rfl (fun _=>rfl)) (aK (j:=2) (by kernel_rfl) (fun _ _ _ _ _ h=>h) rfl rfl rfl rfl rfl (fun _ _ h=>aL h (aF (aN c3))) rfl (fun _=>rfl)) (aK (j:=2) (by kernel_rfl) (fun _ _ _ _ _ h=>h) rfl rfl rfl rfl rfl (fun _ _ h=>aL h (aF (aN c3))) rfl (fun _=>rfl)) (aK (j:=2) (by kernel_rfl) (fun _ _ _ _ _ h=>h) rfl rfl rfl rfl rfl (fun _ _ h=>aL h (aF (aN c3))) rfl (fun _=>rfl)) (aZ (aK (j:=2) (by kernel_rfl) (fun _ _ _ _ _ h=>h) rfl rfl rfl rfl rfl (fun _ _ h=>aL h (aF (aN c3))) rfl (fun _=>rfl)) (aZ (Z2 2 94 12 104 rfl (Pf (aN c3) rfl)) (aZ (bN rfl) cu)))))) ?_
  clear H;intro a w G LK H hv;have H:=H.aP (hv 13 105 rfl rfl) rfl;clear hv;refine kH H (Ra rfl ?_);clear H;intro a H;refine aG ⟨rfl,?_⟩;refine qj _ _ ?_;clear qj;refine mX H rfl rfl ?_;refine bK (fun _ H6=>?_)
  have hz:¬ (0 < k∧h.marks.dw[k].rev≤h.marks.dw[k - 1].rev):=by first|exact fun h=>c4 h.2|exact fun h=>c3 (by omega)
  refine kP H (SC (aT Wh aH 0 rfl rfl ?_));clear H;intro a H;refine s_call vU H wn rfl (wu _ _ H.ro h.marks.dw[k].move 0 1073741824) rfl ?_;clear H;rintro v109 _ a w ⟨rfl,rfl⟩ - H;refine kH H (Rn rfl (aU H6 rfl (Cd rfl ?_ ?_))) <;> clear H H6
  ·intro yB a H
   try have RD:=dT yB
   refine bK (fun _ Kv=>?_);have hE:=hX 21 (by unfold yu;rw [ah Jc,ah hz,av (by have h0:=yB;simp at h0;omega)]) (by decide);exact kP H (SC (aU Kv rfl (LR results58 rfl fun H=>H.rt (by rw [hE]))))
  intro yB a H
  try have RD:=dF yB
  have Qo:yu (aW st li rv) k h.marks.dw[k] h.marks.dw[k - 1].rev=0:=by unfold yu;rw [ah Jc,ah hz,ah (by have h0:=yB;simp at h0;omega)]
  have PW:=fun b o h=>LK b o (FT b o (hgm b o h));refine kP H (Kc sw (SC (Rd rfl (Rm rfl ?_))));clear H sw;intro a H;refine aG ?_;refine dh ((k+1,G)) (by exact (H.dP (Pl:=[_]) (dD:=[]) [] (by decide) rfl).sub ⟨rfl,rfl,rfl,rfl,rfl,rfl,aB⟩) ?_ ?_
  ·(try dsimp only);exact ⟨by omega,by rw [DN hk2,ah (by rw [hde];simpa using Qo)] at heq;exact heq,PW⟩
  first|omega|(dsimp only;omega)
 intro ng a H
 try have RH:=dF ng
 refine dW ?_;refine rC _ _ ?_;clear rC;refine bK (fun _ H7=>?_);refine bK (fun _ H8=>?_)
 have e4:kM (yj (aW st li rv) h.marks.dw) h.marks.dw.length=0:=by rw [← heq,ig (by simp;omega)];rfl
 replace q3:=aO hgm q3;refine kP H (SC (Rf DZ rfl (Rg EU rfl (by assumption) ?_)));clear H;intro a H;refine kH H (Rl vI rfl (Rc rfl (Kn H8 (Cd rfl ?_ ?_)))) <;> clear H H8
 ·intro Px a H
  try have RF:=dT Px
  refine bK (fun _ Kw=>?_);have hE:=ahB (C:=aW st li rv) (e:=e) (h:=h) e1 e2 e3 e4 RF;exact kP H (SC (aU Kw rfl (LR results58 rfl fun H=>H.rt (by rw [hE]))))
 intro Px a H
 try have RF:=dF Px
 refine fZ ?_;refine H7 _ _ ?_;clear H7;refine bK (fun _ Ky=>?_);have hE:=ahC (C:=aW st li rv) (e:=e) (h:=h) e1 e2 e3 e4 RF;refine kP H (SC (Rf DZ rfl (Rg EU rfl (by assumption) ?_)));clear H;intro a H;refine kH H (Rl vI rfl ?_);clear H;intro a H;refine qW H wn rfl rfl ?_;clear H;intro a H;refine s_call FL H wn rfl (Ij _ _ H.ro h.marks.layers.length (EC (aW st li rv) e h.marks.layers) _ (by omega) (hcb.mono hgm)) rfl ?_;clear H;rintro aon anj a w rfl ant H;exact kH H (aU Ky rfl (LR results58 rfl fun H=>H.rt (by rw [hE])))
end
section
open Go.RowKit
theorem D6:cB prog 63 1 1:=⟨by kernel_rfl⟩
def codeOk (x:au):Bool:=if x.kind=4 then decide (1≤x.code∧x.code≤3) else if x.kind=6 then decide (1≤x.code∧x.code≤2) else if x.kind=8 then decide (1≤x.code∧x.code≤4) else true
def Ab (x:au):Bool:=decide (x.kind=8∧x.code=1)
def Ai (x:au):Bool:=decide (x.kind=1∨x.kind=5) || Ab x
def zV (x:au):Bool:=decide (x.kind=6∨x.kind=7∨x.kind=8)
def zI (x:au):Bool:=decide (x.kind=4∨x.kind=6∨x.kind=8)
def sH (s:ByteArray):Bool:=s.toList == (⟨#[]⟩:ByteArray).toList
def xw (x:au):Bool:=!zI x && decide (x.code≠0) || !zV x && decide (x.id≠0) || !Ai x && !sH x.text || decide (x.kind≠6) && decide (0 < (x.flow.length:Int)) || decide (x.kind≠7) && decide (0 < (x.rows.length:Int))
def kD (x:au):Int :=
 if (!decide (1≤x.kind∧x.kind≤8) || !codeOk x)=true then 3 else if xw x=true then 15 else if oC x.text=false then 12 else if (decide (x.kind=1∨x.kind=5) && sH x.text)=true then 11
 else if (decide (x.kind=5) && decide (1024 < (x.text.size:Int)))=true then 10 else if (Ab x && !qp x.text)=true then 13 else 0
theorem agw (G:GH) (w0:World) (hG:Hold G w0) (x:au) (p d l:aj) (fA rA:Option Addr) (fc rc:Nat) (hs:x.text.size < 4611686018427387904) :
  Calls prog 127 #[.agg #[vi x.kind,vi x.code,vi x.id,.string x.text,p,vi x.head.marks.ins,vi x.head.marks.move,d,l,.slice fA x.flow.length fc,.slice rA x.rows.length rc]] w0 (bq w0 G fun u G'=>u=vi (kD x)∧G=G'):=by
 refine eN [(0,_)] func127 rfl ntmps127 rfl rfl hG ?_;intro a H;refine dH (fun _ K1=>?_);refine fC (cs:=[_,_,_,_,_,_,_,_,_,_,_]) H wn rfl rfl rfl ?_;clear H;intro b1 a w hb1 H;refine kH H (ak K1 rfl ?_);clear H K1;intro a H;refine pE (ι:=Bool) (Tc:=[(1,_)]) (Lc:=[(_,_)]) (fun gh=>[(3,.bool gh)]) (fun gh=>[]) (fun gh=>G) (fun gh=>gh=Ab x) (by exact (H).sub ⟨rfl,aB⟩) ?_ ?_
 ·skip;refine kP H (SC (aT gV aH 0 rfl rfl (Rc rfl (Rm rfl (Sp 11 rfl ?_ ?_))))) <;> clear H
  ·intro h11 a H
   try have nN:=dT h11
   refine kH H (YF D6 h11 rfl (YO aH 0 h11 rfl (YC h11 rfl (Pt h11 rfl (Ra rfl ?_)))));clear H;intro a H;refine aG ?_;refine ⟨_,by exact (H).sub ⟨rfl,rfl,aB⟩,?_⟩
   unfold Ab;first|(simp_all;done)
  intro h11 a H
  try have nN:=dF h11
  refine kH H (bC h11 rfl (Pf h11 rfl (Ra rfl ?_)));clear H;intro a H;refine aG ?_;refine ⟨_,by exact (H).sub ⟨rfl,rfl,aB⟩,?_⟩
  unfold Ab;first|(simp_all;done)
 clear H;intro gh a w hI H;obtain ⟨st,hgh⟩:∃ x,x=gh:=⟨_,rfl⟩;subst hgh;have hst:=hI;dsimp only [lca,bG] at H;refine pE (ι:=Bool) (Tc:=[(1,_),(3,_)]) (Lc:=[(_,_)]) (fun gh=>[(4,.bool gh)]) (fun gh=>[]) (fun gh=>G) (fun gh=>gh=Ai x) (by exact (H).sub ⟨rfl,rfl,aB⟩) ?_ ?_
 ·skip;refine kP H (SC (aT gV aH 0 rfl rfl (Rc rfl (Rm rfl (Sp 19 rfl ?_ ?_))))) <;> clear H
  ·intro h19 a H
   try have wF:=dT h19
   refine kH H (bC h19 rfl (Pt h19 rfl (Rm rfl (Ks rfl rfl (Pt rfl rfl (Ra rfl ?_))))));clear H;intro a H;refine aG ?_;refine ⟨_,by exact (H).sub ⟨rfl,rfl,rfl,aB⟩,?_⟩
   unfold Ai;first|(simp_all;done)
  intro h19 a H
  try have wF:=dF h19
  refine kH H (YF gV h19 rfl (YO aH 0 h19 rfl (YC h19 rfl (Pf h19 rfl (Rm rfl (Sp 24 rfl ?_ ?_)))))) <;> clear H
  ·intro dU a H
   try have kr:=dT dU
   refine kH H (Ks dU rfl (Pt dU rfl (Ra rfl ?_)));clear H;intro a H;refine aG ?_;refine ⟨_,by exact (H).sub ⟨rfl,rfl,rfl,aB⟩,?_⟩
   unfold Ai;first|(simp_all;done)
  intro dU a H
  try have kr:=dF dU
  refine kH H (YM dU rfl (Pf dU rfl (Ra rfl ?_)));clear H;intro a H;refine aG ?_;refine ⟨_,by exact (H).sub ⟨rfl,rfl,rfl,aB⟩,?_⟩
  unfold Ai;first|(simp_all;done)
 clear H;intro gh a w hI H;obtain ⟨wd,hgh⟩:∃ x,x=gh:=⟨_,rfl⟩;subst hgh;have hwd:=hI;dsimp only [lca,bG] at H;refine pE (ι:=Bool) (Tc:=[(1,_),(3,_),(4,_)]) (Lc:=[(_,_)]) (fun gh=>[(5,.bool gh)]) (fun gh=>[]) (fun gh=>G) (fun gh=>gh=zV x) (by exact (H).sub ⟨rfl,rfl,rfl,aB⟩) ?_ ?_
 ·skip;refine kP H (SC (aT gV aH 0 rfl rfl (Rc rfl (Rm rfl (Sp 30 rfl ?_ ?_))))) <;> clear H
  ·intro rF a H
   try have p30:=dT rF
   refine kH H (bC rF rfl (Pt rF rfl (Rm rfl (bC rfl rfl (Pt rfl rfl (Ra rfl ?_))))));clear H;intro a H;refine aG ?_;refine ⟨_,by exact (H).sub ⟨rfl,rfl,rfl,rfl,aB⟩,?_⟩
   unfold zV;first|(simp_all;done)
  intro rF a H
  try have p30:=dF rF
  refine kH H (YF gV rF rfl (YO aH 0 rF rfl (YC rF rfl (Pf rF rfl (Rm rfl (Sp 35 rfl ?_ ?_)))))) <;> clear H
  ·intro nJ a H
   try have p35:=dT nJ
   refine kH H (bC nJ rfl (Pt nJ rfl (Ra rfl ?_)));clear H;intro a H;refine aG ?_;refine ⟨_,by exact (H).sub ⟨rfl,rfl,rfl,rfl,aB⟩,?_⟩
   unfold zV;first|(simp_all;done)
  intro nJ a H
  try have p35:=dF nJ
  refine kH H (YF gV nJ rfl (YO aH 0 nJ rfl (YC nJ rfl (Pf nJ rfl (Ra rfl ?_)))));clear H;intro a H;refine aG ?_;refine ⟨_,by exact (H).sub ⟨rfl,rfl,rfl,rfl,aB⟩,?_⟩
  unfold zV;first|(simp_all;done)
 clear H;intro gh a w hI H;obtain ⟨nm,hgh⟩:∃ x,x=gh:=⟨_,rfl⟩;subst hgh;have hnm:=hI;dsimp only [lca,bG] at H;refine kP H (SR fun _ K2=>ak K2 rfl ?_);clear H K2;intro a H;refine pE (ι:=Bool) (Tc:=[(1,_),(3,_),(4,_),(5,_)]) (Lc:=[(_,_)]) (fun gh=>[(6,.bool gh)]) (fun gh=>[]) (fun gh=>G) (fun gh=>gh=codeOk x) (by exact (H).sub ⟨rfl,rfl,rfl,rfl,aB⟩) ?_ ?_
 ·skip;refine kP H (SR fun _ K3=>aT gV aH 0 rfl rfl (Kz K3 (SB (SR fun _ K4=>Rc rfl (ak K4 rfl (Cd rfl ?_ ?_)))))) <;> clear H K3 K4
  ·intro oI a H
   try have p42:=dT oI
   refine kP H (SC (aT D6 aH 0 rfl rfl ?_));clear H;intro a H;refine s_call vU H wn rfl (wu _ _ H.ro x.code 1 3) rfl ?_;clear H;rintro v46 _ a w ⟨rfl,rfl⟩ - H;refine kH H (Ra rfl ?_);clear H;intro a H;refine aG ?_;refine ⟨_,by exact (H).sub ⟨rfl,rfl,rfl,rfl,rfl,aB⟩,?_⟩
   unfold codeOk;first|(simp_all;done)
  intro oI a H
  try have p42:=dF oI
  refine kP H (SR fun _ K5=>Rc rfl (ak K5 rfl (Cd rfl ?_ ?_))) <;> clear H K5
  ·intro h47 a H
   try have p47:=dT h47
   refine kP H (SC (aT D6 aH 0 rfl rfl ?_));clear H;intro a H;refine s_call vU H wn rfl (wu _ _ H.ro x.code 1 2) rfl ?_;clear H;rintro v51 _ a w ⟨rfl,rfl⟩ - H;refine kH H (Ra rfl ?_);clear H;intro a H;refine aG ?_;refine ⟨_,by exact (H).sub ⟨rfl,rfl,rfl,rfl,rfl,aB⟩,?_⟩
   unfold codeOk;first|(simp_all;done)
  intro h47 a H
  try have p47:=dF h47
  refine kP H (SR fun _ K6=>Rc rfl (ak K6 rfl (Cd rfl ?_ ?_))) <;> clear H K6
  ·intro lT a H
   try have p52:=dT lT
   refine kP H (SC (aT D6 aH 0 rfl rfl ?_));clear H;intro a H;refine s_call vU H wn rfl (wu _ _ H.ro x.code 1 4) rfl ?_;clear H;rintro v56 _ a w ⟨rfl,rfl⟩ - H;refine kH H (Ra rfl ?_);clear H;intro a H;refine aG ?_;refine ⟨_,by exact (H).sub ⟨rfl,rfl,rfl,rfl,rfl,aB⟩,?_⟩
   unfold codeOk;first|(simp_all;done)
  intro lT a H
  try have p52:=dF lT
  refine fZ ?_;refine ⟨_,by exact (H).sub ⟨rfl,rfl,rfl,rfl,rfl,aB⟩,?_⟩
  unfold codeOk;first|(simp_all;done)
 clear H;intro gh a w hI H;obtain ⟨ck,hgh⟩:∃ x,x=gh:=⟨_,rfl⟩;subst hgh;have hck:=hI;dsimp only [lca,bG] at H;refine pE (ι:=Bool) (Tc:=[(1,_),(3,_),(4,_),(5,_),(6,_)]) (Lc:=[(_,_)]) (fun gh=>[(7,.bool gh)]) (fun gh=>[]) (fun gh=>G) (fun gh=>gh=zI x) (by exact (H).sub ⟨rfl,rfl,rfl,rfl,rfl,aB⟩) ?_ ?_
 ·skip;refine kP H (SC (aT gV aH 0 rfl rfl (Rc rfl (Rm rfl (Sp 60 rfl ?_ ?_))))) <;> clear H
  ·intro jC a H
   try have p60:=dT jC
   refine kH H (bC jC rfl (Pt jC rfl (Rm rfl (bC rfl rfl (Pt rfl rfl (Ra rfl ?_))))));clear H;intro a H;refine aG ?_;refine ⟨_,by exact (H).sub ⟨rfl,rfl,rfl,rfl,rfl,rfl,aB⟩,?_⟩
   unfold zI;first|(simp_all;done)
  intro jC a H
  try have p60:=dF jC
  refine kH H (YF gV jC rfl (YO aH 0 jC rfl (YC jC rfl (Pf jC rfl (Rm rfl (Sp 65 rfl ?_ ?_)))))) <;> clear H
  ·intro rG a H
   try have p65:=dT rG
   refine kH H (bC rG rfl (Pt rG rfl (Ra rfl ?_)));clear H;intro a H;refine aG ?_;refine ⟨_,by exact (H).sub ⟨rfl,rfl,rfl,rfl,rfl,rfl,aB⟩,?_⟩
   unfold zI;first|(simp_all;done)
  intro rG a H
  try have p65:=dF rG
  refine kH H (YF gV rG rfl (YO aH 0 rG rfl (YC rG rfl (Pf rG rfl (Ra rfl ?_)))));clear H;intro a H;refine aG ?_;refine ⟨_,by exact (H).sub ⟨rfl,rfl,rfl,rfl,rfl,rfl,aB⟩,?_⟩
  unfold zI;first|(simp_all;done)
 clear H;intro gh a w hI H;obtain ⟨cd,hgh⟩:∃ x,x=gh:=⟨_,rfl⟩;subst hgh;have hcd:=hI;dsimp only [lca,bG] at H;refine kP H (SQ fun _ K7=>SB (SR fun _ K8=>?_));clear H;intro a H;refine BR (ι:=Bool) (Tc:=[(1,_),(3,_),(4,_),(5,_),(7,_)]) 8 (fun (q0:Bool)=>[(78,.bool q0)]) (fun (q0:Bool)=>q0=(!decide (1≤x.kind∧x.kind≤8) || !codeOk x)) (by exact H.sub ⟨rfl,rfl,rfl,rfl,rfl,aB⟩) ?_ ?_
 ·intro WW;refine kH H (aT gV aH 0 rfl rfl ?_);clear H;intro a H;refine s_call vU H wn rfl (wu _ _ H.ro x.kind 1 8) rfl ?_;clear H;rintro v73 _ a w ⟨rfl,rfl⟩ - H;refine kH H (Rn rfl (Rm rfl (Sp 75 rfl ?_ ?_))) <;> clear H
  ·intro Cq a H
   try have p75:=dT Cq
   refine kH H (aR Cq rfl (Pt Cq rfl ?_));clear H;intro a H;refine WW (_) _ _ ?_ (by exact H.sub ⟨rfl,rfl,rfl,rfl,rfl,rfl,aB⟩);rw [← hck];clear hst hwd hnm hck hcd;(try clear hq1);(try clear hq2);(try clear hq3);(try clear hq0);(try clear hq4);(try clear mO);(try clear mP);(try clear mQ);simp_all
  intro Cq a H
  try have p75:=dF Cq
  refine kH H (YM Cq rfl (YN Cq rfl (Pf Cq rfl ?_)));clear H;intro a H;refine WW (_) _ _ ?_ (by exact H.sub ⟨rfl,rfl,rfl,rfl,rfl,rfl,aB⟩);rw [← hck];clear hst hwd hnm hck hcd;(try clear hq1);(try clear hq2);(try clear hq3);(try clear hq0);(try clear hq4);(try clear mO);(try clear mP);(try clear mQ);simp_all
 clear H;intro q0 a w hI H;dsimp only [lca,bG] at H;simp only [Az,vP];have hq0:=hI;refine kH H (ak K8 rfl (Cd rfl ?_ ?_)) <;> clear H K8
 ·intro rH a H
  refine bK (fun _ K9=>?_)
  have e:kD x=3:=by unfold kD;rw [av (by rw [← hq0];exact rH)]
  exact kP H (SC (aU K9 rfl (LR results127 rfl fun H=>H.rt ⟨by rw [e],rfl⟩)))
 intro rH a H
 try have p70:=dF rH
 have f0:¬ (!decide (1≤x.kind∧x.kind≤8) || !codeOk x)=true:=by rw [← hq0,rH];decide
 refine dH (fun _ aQ=>?_);refine BR (ι:=Bool) (Tc:=[(1,_),(3,_),(4,_),(5,_)]) 7 (fun (q1:Bool)=>[(86,.bool q1)]) (fun (q1:Bool)=>q1=(!zI x && decide (x.code≠0))) (by exact H.sub ⟨rfl,rfl,rfl,rfl,aB⟩) ?_ ?_
 ·intro WX;refine kH H (Rm rfl (Rn rfl (Rm rfl (Sp 82 rfl ?_ ?_)))) <;> clear H
  ·intro uY a H
   try have Zh:=dT uY
   refine kH H (YF D6 uY rfl (YO aH 0 uY rfl (YC uY rfl (Pt uY rfl ?_))));clear H;intro a H;refine WX (_) _ _ ?_ (by exact H.sub ⟨rfl,rfl,rfl,rfl,rfl,aB⟩);rw [← hcd];clear hst hwd hnm hck hcd;(try clear hq1);(try clear hq2);(try clear hq3);(try clear hq0);(try clear hq4);(try clear mO);(try clear mP);(try clear mQ);simp_all
  intro uY a H
  try have Zh:=dF uY
  refine kH H (bC uY rfl (Pf uY rfl ?_));clear H;intro a H;refine WX (_) _ _ ?_ (by exact H.sub ⟨rfl,rfl,rfl,rfl,rfl,aB⟩);rw [← hcd];clear hst hwd hnm hck hcd;(try clear hq1);(try clear hq2);(try clear hq3);(try clear hq0);(try clear hq4);(try clear mO);(try clear mP);(try clear mQ);simp_all
 clear H;intro q1 a w hI H;dsimp only [lca,bG] at H;simp only [Az,vP];have hq1:=hI;refine BR (ι:=Bool) (Tc:=[(1,_),(3,_),(4,_)]) 9 (fun (q2:Bool)=>[(95,.bool q2)]) (fun (q2:Bool)=>q2=(q1 || !zV x && decide (x.id≠0))) (by exact H.sub ⟨rfl,rfl,rfl,aB⟩) ?_ ?_
 ·intro Qe;refine kH H (Rm rfl (Sp 87 rfl ?_ ?_)) <;> clear H
  ·intro h87 a H
   try have RJ:=dT h87
   refine kH H (bC h87 rfl (Ku rfl (Ku rfl (Ku rfl (Ks h87 rfl (Pt h87 rfl ?_))))));clear H;intro a H;refine Qe (_) _ _ ?_ (by exact H.sub ⟨rfl,rfl,rfl,rfl,aB⟩);rw [← hnm];clear hst hwd hnm hck hcd;(try clear hq1);(try clear hq2);(try clear hq3);(try clear hq0);(try clear hq4);(try clear mO);(try clear mP);(try clear mQ);simp_all
  intro h87 a H
  try have RJ:=dF h87
  refine kH H (YM h87 rfl (YN h87 rfl (YM h87 rfl (Sp 90 rfl ?_ ?_)))) <;> clear H
  ·intro Bb a H
   try have p90:=dT Bb
   refine kH H (YF zL Bb rfl (YO aH 0 Bb rfl (YC Bb rfl (PT h87 Bb rfl (Pf h87 rfl ?_)))));clear H;intro a H;refine Qe (_) _ _ ?_ (by exact H.sub ⟨rfl,rfl,rfl,rfl,aB⟩);rw [← hnm];clear hst hwd hnm hck hcd;(try clear hq1);(try clear hq2);(try clear hq3);(try clear hq0);(try clear hq4);(try clear mO);(try clear mP);(try clear mQ);simp_all
  intro Bb a H
  try have p90:=dF Bb
  refine kH H (bC Bb rfl (PF h87 Bb rfl (Pf h87 rfl ?_)));clear H;intro a H;refine Qe (_) _ _ ?_ (by exact H.sub ⟨rfl,rfl,rfl,rfl,aB⟩);rw [← hnm];clear hst hwd hnm hck hcd;(try clear hq1);(try clear hq2);(try clear hq3);(try clear hq0);(try clear hq4);(try clear mO);(try clear mP);(try clear mQ);simp_all
 clear H;intro q2 a w hI H;dsimp only [lca,bG] at H;simp only [Az,vP];have hq2:=hI;refine BR (ι:=Bool) (Tc:=[(1,_),(3,_)]) 9 (fun (q3:Bool)=>[(104,.bool q3)]) (fun (q3:Bool)=>q3=(q2 || !Ai x && !sH x.text)) (by exact H.sub ⟨rfl,rfl,aB⟩) ?_ ?_
 ·intro Qb;refine kH H (Rm rfl (Sp 96 rfl ?_ ?_)) <;> clear H
  ·intro rJ a H
   try have JN:=dT rJ
   refine kH H (bC rJ rfl (Ku rfl (Ku rfl (Ku rfl (Ks rJ rfl (Pt rJ rfl ?_))))));clear H;intro a H;refine Qb (_) _ _ ?_ (by exact H.sub ⟨rfl,rfl,rfl,aB⟩);rw [← hwd];clear hst hwd hnm hck hcd;(try clear hq1);(try clear hq2);(try clear hq3);(try clear hq0);(try clear hq4);(try clear mO);(try clear mP);(try clear mQ);simp_all [sH]
  intro rJ a H
  try have JN:=dF rJ
  refine kH H (YM rJ rfl (YN rJ rfl (YM rJ rfl (Sp 99 rfl ?_ ?_)))) <;> clear H
  ·intro sM a H
   try have Zi:=dT sM
   refine kH H (YF pG sM rfl (YO fV 0 sM rfl ?_));clear H;intro a H;refine alx H (wg H rfl rfl sM) rfl rfl rfl ?_;clear H;intro a H;refine kH H (PT rJ sM rfl (Pf rJ rfl ?_));clear H;intro a H;refine Qb (_) _ _ ?_ (by exact H.sub ⟨rfl,rfl,rfl,aB⟩);rw [← hwd];clear hst hwd hnm hck hcd;(try clear hq1);(try clear hq2);(try clear hq3);(try clear hq0);(try clear hq4);(try clear mO);(try clear mP);(try clear mQ);simp_all [sH]
  intro sM a H
  try have Zi:=dF sM
  refine kH H (bC sM rfl (PF rJ sM rfl (Pf rJ rfl ?_)));clear H;intro a H;refine Qb (_) _ _ ?_ (by exact H.sub ⟨rfl,rfl,rfl,aB⟩);rw [← hwd];clear hst hwd hnm hck hcd;(try clear hq1);(try clear hq2);(try clear hq3);(try clear hq0);(try clear hq4);(try clear mO);(try clear mP);(try clear mQ);simp_all [sH]
 clear H;intro q3 a w hI H;dsimp only [lca,bG] at H;simp only [Az,vP];have hq3:=hI;refine BR (ι:=Bool) (Tc:=[(1,_),(3,_)]) 11 (fun (q4:Bool)=>[(115,.bool q4)]) (fun (q4:Bool)=>q4=(q3 || decide (x.kind≠6) && decide (0 < (x.flow.length:Int)))) (by exact H.sub ⟨rfl,rfl,aB⟩) ?_ ?_
 ·intro Qc;refine kH H (Rm rfl (Sp 105 rfl ?_ ?_)) <;> clear H
  ·intro qz a H
   try have Gx:=dT qz
   refine kH H (aR qz rfl (aR qz rfl (Ku rfl (Ku rfl (Ku rfl (Ku rfl (Ks qz rfl (Pt qz rfl ?_))))))));clear H;intro a H;refine Qc (_) _ _ ?_ (by exact H.sub ⟨rfl,rfl,rfl,aB⟩);clear hst hwd hnm hck hcd;(try clear hq1);(try clear hq2);(try clear hq3);(try clear hq0);(try clear hq4);(try clear mO);(try clear mP);(try clear mQ);simp_all
  intro qz a H
  try have Gx:=dF qz
  refine kH H (YF gV qz rfl (YO aH 0 qz rfl (YC qz rfl (YM qz rfl (Sp 109 rfl ?_ ?_))))) <;> clear H
  ·intro yC a H
   try have akw:=dT yC
   refine kH H (YF vX yC rfl (YO gT 0 yC rfl (YL dZ yC rfl (YC yC rfl (PT qz yC rfl (Pf qz rfl ?_))))));clear H;intro a H;refine Qc (_) _ _ ?_ (by exact H.sub ⟨rfl,rfl,rfl,aB⟩);clear hst hwd hnm hck hcd;(try clear hq1);(try clear hq2);(try clear hq3);(try clear hq0);(try clear hq4);(try clear mO);(try clear mP);(try clear mQ);simp_all
  intro yC a H
  try have akw:=dF yC
  refine kH H (aR yC rfl (aR yC rfl (PF qz yC rfl (Pf qz rfl ?_))));clear H;intro a H;refine Qc (_) _ _ ?_ (by exact H.sub ⟨rfl,rfl,rfl,aB⟩);clear hst hwd hnm hck hcd;(try clear hq1);(try clear hq2);(try clear hq3);(try clear hq0);(try clear hq4);(try clear mO);(try clear mP);(try clear mQ);simp_all
 clear H;intro q4 a w hI H;dsimp only [lca,bG] at H;simp only [Az,vP];have hq4:=hI;refine BR (ι:=Bool) (Tc:=[(1,_),(3,_)]) 11 (fun (q5:Bool)=>[(126,.bool q5)]) (fun (q5:Bool)=>q5=xw x) (by exact H.sub ⟨rfl,rfl,aB⟩) ?_ ?_
 ·intro Qd;refine kH H (Rm rfl (Sp 116 rfl ?_ ?_)) <;> clear H
  ·intro h116 a H
   try have aky:=dT h116
   refine kH H (aR h116 rfl (aR h116 rfl (Ku rfl (Ku rfl (Ku rfl (Ku rfl (Ks h116 rfl (Pt h116 rfl ?_))))))));clear H;intro a H;refine Qd (_) _ _ ?_ (by exact H.sub ⟨rfl,rfl,rfl,aB⟩);rw [show xw x=(q4 || decide (x.kind≠7) && decide (0 < (x.rows.length:Int))) by rw [hq4,hq3,hq2,hq1];rfl];clear hq4;clear hst hwd hnm hck hcd;(try clear hq1);(try clear hq2);(try clear hq3);(try clear hq0);(try clear hq4);(try clear mO);(try clear mP);(try clear mQ);simp_all
  intro h116 a H
  try have aky:=dF h116
  refine kH H (YF gV h116 rfl (YO aH 0 h116 rfl (YC h116 rfl (YM h116 rfl (Sp 120 rfl ?_ ?_))))) <;> clear H
  ·intro yD a H
   try have akz:=dT yD
   refine kH H (YF nG yD rfl (YO nU 0 yD rfl (YL lD yD rfl (YC yD rfl (PT h116 yD rfl (Pf h116 rfl ?_))))));clear H;intro a H;refine Qd (_) _ _ ?_ (by exact H.sub ⟨rfl,rfl,rfl,aB⟩);rw [show xw x=(q4 || decide (x.kind≠7) && decide (0 < (x.rows.length:Int))) by rw [hq4,hq3,hq2,hq1];rfl];clear hq4;clear hst hwd hnm hck hcd;(try clear hq1);(try clear hq2);(try clear hq3);(try clear hq0);(try clear hq4);(try clear mO);(try clear mP);(try clear mQ);simp_all
  intro yD a H
  try have akz:=dF yD
  refine kH H (aR yD rfl (aR yD rfl (PF h116 yD rfl (Pf h116 rfl ?_))));clear H;intro a H;refine Qd (_) _ _ ?_ (by exact H.sub ⟨rfl,rfl,rfl,aB⟩);rw [show xw x=(q4 || decide (x.kind≠7) && decide (0 < (x.rows.length:Int))) by rw [hq4,hq3,hq2,hq1];rfl];clear hq4;clear hst hwd hnm hck hcd;(try clear hq1);(try clear hq2);(try clear hq3);(try clear hq0);(try clear hq4);(try clear mO);(try clear mP);(try clear mQ);simp_all
 clear H;intro q5 a w hI H;dsimp only [lca,bG] at H;simp only [Az,vP];have mO:=hI;refine kH H (ak aQ rfl (Cd rfl ?_ ?_)) <;> clear H aQ
 ·intro Cr a H
  refine bK (fun _ bH=>?_)
  have e:kD x=15:=by unfold kD;rw [ah f0,av (by rw [← mO];exact Cr)]
  exact kP H (SC (aU bH rfl (LR results127 rfl fun H=>H.rt ⟨by rw [e],rfl⟩)))
 intro Cr a H
 try have RI:=dF Cr
 have f1:¬ xw x=true:=by rw [← mO,Cr];decide
 refine kP H (SR fun _ bL=>aT pG fV 0 rfl rfl ?_);clear H;intro a H;refine s_call FK H wn rfl (Ht _ _ H.ro x.text hs) rfl ?_;clear H;rintro v130 _ a w ⟨rfl,rfl⟩ - H;refine kH H (Rn rfl (ak bL rfl (Cd rfl ?_ ?_))) <;> clear H bL
 ·intro h127 a H
  refine bK (fun _ bR=>?_)
  have e:kD x=12:=by unfold kD;rw [ah f0,ah f1,av (by simpa using h127)]
  exact kP H (SC (aU bR rfl (LR results127 rfl fun H=>H.rt ⟨by rw [e],rfl⟩)))
 intro h127 a H
 try have aoj:=dF h127
 have f2:¬ oC x.text=false:=by simpa using h127
 refine dH (fun _ bQ=>?_);refine BR (ι:=Bool) (Tc:=[(1,_),(3,_)]) 13 (fun (q6:Bool)=>[(145,.bool q6)]) (fun (q6:Bool)=>q6=(decide (x.kind=1∨x.kind=5) && sH x.text)) (by exact H.sub ⟨rfl,rfl,aB⟩) ?_ ?_
 ·intro Qf;refine kH H (aT gV aH 0 rfl rfl (Rc rfl (Rm rfl (Sp 136 rfl ?_ ?_)))) <;> clear H
  ·intro AY a H
   try have akA:=dT AY
   refine kH H (bC AY rfl (Pt AY rfl (Rm rfl ?_)));clear H;intro a H;refine zY pG H (wg H rfl rfl rfl) rfl rfl ?_;clear H;intro a H;refine pX fV H (wg H rfl rfl rfl) rfl (H.hp.nM 0 rfl rfl) rfl ?_;clear H;intro a H;refine xI H (wg H rfl rfl rfl) rfl rfl rfl ?_;clear H;intro a H;refine kH H (Pt rfl rfl ?_);clear H;intro a H;refine Qf (_) _ _ ?_ (by exact H.sub ⟨rfl,rfl,rfl,aB⟩);clear hst hwd hnm hck hcd;(try clear hq1);(try clear hq2);(try clear hq3);(try clear hq0);(try clear hq4);(try clear mO);(try clear mP);(try clear mQ);simp_all [sH]
  intro AY a H
  try have akA:=dF AY
  refine kH H (YF gV AY rfl (YO aH 0 AY rfl (YC AY rfl (Pf AY rfl (Rm rfl (Sp 141 rfl ?_ ?_)))))) <;> clear H
  ·intro AZ a H
   try have akB:=dT AZ
   refine kH H (YF pG AZ rfl (YO fV 0 AZ rfl ?_));clear H;intro a H;refine xI H (wg H rfl rfl AZ) rfl rfl rfl ?_;clear H;intro a H;refine kH H (Pt AZ rfl ?_);clear H;intro a H;refine Qf (_) _ _ ?_ (by exact H.sub ⟨rfl,rfl,rfl,aB⟩);clear hst hwd hnm hck hcd;(try clear hq1);(try clear hq2);(try clear hq3);(try clear hq0);(try clear hq4);(try clear mO);(try clear mP);(try clear mQ);simp_all [sH]
  intro AZ a H
  try have akB:=dF AZ
  refine kH H (bC AZ rfl (Pf AZ rfl ?_));clear H;intro a H;refine Qf (_) _ _ ?_ (by exact H.sub ⟨rfl,rfl,rfl,aB⟩);clear hst hwd hnm hck hcd;(try clear hq1);(try clear hq2);(try clear hq3);(try clear hq0);(try clear hq4);(try clear mO);(try clear mP);(try clear mQ);simp_all [sH]
 clear H;intro q6 a w hI H;dsimp only [lca,bG] at H;simp only [Az,vP];have mP:=hI;refine kH H (ak bQ rfl (Cd rfl ?_ ?_)) <;> clear H bQ
 ·intro Co a H
  refine bK (fun _ dJ=>?_)
  have e:kD x=11:=by unfold kD;rw [ah f0,ah f1,ah f2,av (by rw [← mP];exact Co)]
  exact kP H (SC (aU dJ rfl (LR results127 rfl fun H=>H.rt ⟨by rw [e],rfl⟩)))
 intro Co a H
 try have Zg:=dF Co
 have f3:¬ (decide (x.kind=1∨x.kind=5) && sH x.text)=true:=by rw [← mP,Co];decide
 refine dH (fun _ dO=>?_);refine BR (ι:=Bool) (Tc:=[(1,_),(3,_)]) 9 (fun (q7:Bool)=>[(155,.bool q7)]) (fun (q7:Bool)=>q7=(decide (x.kind=5) && decide (1024 < (x.text.size:Int)))) (by exact H.sub ⟨rfl,rfl,aB⟩) ?_ ?_
 ·intro WY;refine kH H (aT gV aH 0 rfl rfl (Rc rfl (Rm rfl (Sp 150 rfl ?_ ?_)))) <;> clear H
  ·intro yE a H
   try have akC:=dT yE
   refine kH H (YF pG yE rfl (YO fV 0 yE rfl ?_));clear H;intro a H;refine BJ fO H (wg H rfl rfl yE) rfl rfl ?_;clear H;intro a H;refine kH H (YC yE rfl (Pt yE rfl ?_));clear H;intro a H;refine WY (_) _ _ ?_ (by exact H.sub ⟨rfl,rfl,rfl,aB⟩);clear hst hwd hnm hck hcd;(try clear hq1);(try clear hq2);(try clear hq3);(try clear hq0);(try clear hq4);(try clear mO);(try clear mP);(try clear mQ);simp_all
  intro yE a H
  try have akC:=dF yE
  refine kH H (aR yE rfl (aR yE rfl (Pf yE rfl ?_)));clear H;intro a H;refine WY (_) _ _ ?_ (by exact H.sub ⟨rfl,rfl,rfl,aB⟩);clear hst hwd hnm hck hcd;(try clear hq1);(try clear hq2);(try clear hq3);(try clear hq0);(try clear hq4);(try clear mO);(try clear mP);(try clear mQ);simp_all
 clear H;intro q7 a w hI H;dsimp only [lca,bG] at H;simp only [Az,vP];have mQ:=hI;refine kH H (ak dO rfl (Cd rfl ?_ ?_)) <;> clear H dO
 ·intro LD a H
  refine bK (fun _ dK=>?_)
  have e:kD x=10:=by unfold kD;rw [ah f0,ah f1,ah f2,ah f3,av (by rw [← mQ];exact LD)]
  exact kP H (SC (aU dK rfl (LR results127 rfl fun H=>H.rt ⟨by rw [e],rfl⟩)))
 intro LD a H
 try have aok:=dF LD
 have f4:¬ (decide (x.kind=5) && decide (1024 < (x.text.size:Int)))=true:=by rw [← mQ,LD];decide
 refine dH (fun _ eO=>?_);refine BR (ι:=Bool) (Tc:=[]) 7 (fun (q8:Bool)=>[(163,.bool q8)]) (fun (q8:Bool)=>q8=(Ab x && !qp x.text)) (by exact H.sub trivial) ?_ ?_
 ·intro WZ;refine kH H (Rm rfl (Rm rfl (Sp 158 rfl ?_ ?_))) <;> clear H
  ·intro yF a H
   try have akD:=dT yF
   refine kH H (YF pG yF rfl (YO fV 0 yF rfl ?_));clear H;intro a H;refine s_call OD H (wg H rfl rfl yF) rfl (Ou _ _ H.ro x.text hs) rfl ?_;clear H;rintro aoo _ a w ⟨rfl,rfl⟩ - H;refine kH H (YN yF rfl (Pt yF rfl ?_));clear H;intro a H;refine WZ (_) _ _ ?_ (by exact H.sub ⟨rfl,aB⟩);rw [← hst];clear hst hwd hnm hck hcd;(try clear hq1);(try clear hq2);(try clear hq3);(try clear hq0);(try clear hq4);(try clear mO);(try clear mP);(try clear mQ);simp_all
  intro yF a H
  try have akD:=dF yF
  refine kH H (aR yF rfl (aR yF rfl (Pf yF rfl ?_)));clear H;intro a H;refine WZ (_) _ _ ?_ (by exact H.sub ⟨rfl,aB⟩);rw [← hst];clear hst hwd hnm hck hcd;(try clear hq1);(try clear hq2);(try clear hq3);(try clear hq0);(try clear hq4);(try clear mO);(try clear mP);(try clear mQ);simp_all
 clear H;intro q8 a w hI H;dsimp only [lca,bG] at H;simp only [Az,vP];have hq8:=hI;refine kH H (ak eO rfl (Cd rfl ?_ ?_)) <;> clear H eO
 ·intro Py a H
  refine bK (fun _ gH=>?_)
  have e:kD x=13:=by unfold kD;rw [ah f0,ah f1,ah f2,ah f3,ah f4,av (by rw [← hq8];exact Py)]
  exact kP H (SC (aU gH rfl (LR results127 rfl fun H=>H.rt ⟨by rw [e],rfl⟩)))
 intro Py a H
 refine fZ ?_;refine K7 _ _ ?_;clear K7;refine bK (fun _ fE=>?_)
 have e:kD x=0:=by unfold kD;rw [ah f0,ah f1,ah f2,ah f3,ah f4,ah (by rw [← hq8,Py];decide)]
 exact kP H (SC (aU fE rfl (LR results127 rfl fun H=>H.rt ⟨by rw [e],rfl⟩)))
end
section
open Go.RowKit
structure CS where
 n:Int
 bO:List Int
abbrev CR:=Int × CS
def fU (r:CR) (f:CS→CR):CR:=if r.1≠0 then r else f r.2
theorem Il {r:CR} {f:CS→CR} (h:r.1=0):fU r f=f r.2:=by rw [fU,ah (fun h'=>h' h)]
theorem KL {r:CR} {f:CS→CR} (h:r.1≠0):fU r f=r:=by rw [fU,av h]
def ko (s:CS) (x:Int):CR:=(qB s.bO x,⟨s.n,kg s.bO x⟩)
def kQ (body note:Bool) (t k i:Int) (s:CS):CR :=
 if k=3 then (cO (!body) 19,s) else if k=6 then fU (cO note 19,s) fun s=>ko s i else if k=7 then fU (cO (decide (4≤t)) 17,s) fun s=>ko s i else if k=8 then (cO (!decide (1≤i∧i≤1073741824)) 18,s) else (0,s)
def C8 (C:gy) (h:iE) (n:Nat):Int:=dM [iO C 9 h,cO (decide ((n:Int)=0)) 11,cO (decide (32 < (n:Int))) 9]
def lW (n:Nat) (f:CS→CR) (s:CS):CR:=if n=0 then (11,s) else if 256 < n then (9,s) else f s
mutual
def eH (C:gy) (body note:Bool) (t:Int):au→CS→CR
 | .mk k c i tx h f r,s =>
  fU (kD (.mk k c i tx h f r),s) fun s=>fU (kQ body note t k i ⟨s.n+(if k=1 then mH tx else 1:Nat),s.bO⟩) fun s=>fU (iO C k h,s) fun s =>
   if k=6 then jk C false true t f s else if k=7 then lW r.length (fun s=>iK C note (t+1) r s) s else (0,s)
def BG (C:gy) (note:Bool) (t:Int):bD→CS→CR
 | .mk h cs,s=>fU (C8 C h cs.length,s) fun s=>qM C note t cs s
def cellC (C:gy) (note:Bool) (t:Int):bF→CS→CR
 | .mk i h f,s=>fU (ko s i) fun s=>fU (iO C 10 h,s) fun s=>jk C false note t f s
def jk (C:gy) (body note:Bool) (t:Int):List au→CS→CR
 | [],s=>(0,s)
 | x :: r,s=>fU (eH C body note t x s) fun s=>jk C body note t r s
def iK (C:gy) (note:Bool) (t:Int):List bD→CS→CR
 | [],s=>(0,s)
 | x :: r,s=>fU (BG C note t x s) fun s=>iK C note t r s
def qM (C:gy) (note:Bool) (t:Int):List bF→CS→CR
 | [],s=>(0,s)
 | x :: r,s=>fU (cellC C note t x s) fun s=>qM C note t r s
end
theorem Mr (C:gy) (body note:Bool) (t:Int) (x:au) (s:CS):eH C body note t x s=fU (kD x,s) fun s=>fU (kQ body note t x.kind x.id ⟨s.n+(dG x:Nat),s.bO⟩) fun s=>fU (iO C x.kind x.head,s) fun s =>
  if x.kind=6 then jk C false true t x.flow s else if x.kind=7 then lW x.rows.length (fun s=>iK C note (t+1) x.rows s) s else (0,s):=by cases x;rw [eH];rfl
theorem JO (C:gy) (note:Bool) (t:Int) (x:bD) (s:CS):BG C note t x s=fU (C8 C x.head x.cells.length,s) fun s=>qM C note t x.cells s:=by cases x;rw [BG];rfl
theorem Io (C:gy) (note:Bool) (t:Int) (x:bF) (s:CS):cellC C note t x s=fU (ko s x.id) fun s=>fU (iO C 10 x.head,s) fun s=>jk C false note t x.flow s:=by cases x;rw [cellC];rfl
def Up (s:CS) (z:Nat) (r:CR):Prop:=s.n≤r.2.n∧r.2.n≤s.n+z
theorem Up.and {s:CS} {z y q:Nat} {r:CR} {f:CS→CR} (h:Up s z r) (hq:z+y≤q) (hf:∀ s,Up s y (f s)):Up s q (fU r f):=by
 obtain ⟨h1,h2⟩:=h
 unfold fU
 split
 ·exact ⟨h1,by omega⟩
 obtain ⟨h3,h4⟩:=hf r.2;exact ⟨by omega,by omega⟩
theorem Up.zero (s:CS) (e:Int) (q:Nat):Up s q (e,s):=⟨Int.le_refl _,by dsimp only;omega⟩
theorem Up.le {s:CS} {z y:Nat} {r:CR} (h:Up s z r) (hq:z≤y):Up s y r:=⟨h.1,by have:=h.2;omega⟩
theorem aay (s:CS) (x:Int) (q:Nat):Up s q (ko s x):=⟨Int.le_refl _,by dsimp only [ko];omega⟩
theorem amK (body note:Bool) (t k i:Int) (s:CS) (q:Nat):Up s q (kQ body note t k i s):=by
 unfold kQ
 (repeat' split) <;> first|exact Up.zero _ _ _|exact (Up.zero _ _ 0).and (y:=0) (by omega) fun s=>aay _ _ _
mutual
theorem aaz (C:gy) (body note:Bool) (t:Int):∀ (x:au) (s:CS),Up s (dx x.dat) (eH C body note t x s)
 | .mk k c i tx h f r,s=>by
  have hz:=oF (.mk k c i tx h f r);have hf:=Np C false true t f;have hr:=aaA C note (t+1) r;rw [eH];obtain ⟨u,hu'⟩:∃ u,u=(if k=1 then mH tx else 1:Nat):=⟨_,rfl⟩
  have hu:u≤tx.size+1:=by
   have:=FH tx
   rw [hu'];split <;> omega
  rw [← hu'];dsimp only [au.text,au.flow,au.rows,au.head] at hz;refine (Up.zero s _ 0).and (Nat.le_of_eq (jh _)) fun s=>?_
  have h2:Up s (u) (kQ body note t k i ⟨s.n+(u:Nat),s.bO⟩):=by
   obtain ⟨h3,h4⟩:=amK body note t k i ⟨s.n+(u:Nat),s.bO⟩ 0;dsimp only at h3 h4;exact ⟨by omega,by omega⟩
  refine h2.and (y:=bg f+iD r) (by omega) fun s=>(Up.zero s _ 0).and (Nat.le_of_eq (jh _)) fun s=>?_
  by_cases h6:k=6
  ·rw [av h6];exact (hf s).le (by omega)
  rw [ah h6]
  by_cases h7:k=7
  ·rw [av h7]
   unfold lW
   by_cases c1:r.length=0
   ·rw [av c1];exact Up.zero _ _ _
   rw [ah c1]
   by_cases c2:256 < r.length
   ·rw [av c2];exact Up.zero _ _ _
   rw [ah c2];exact (hr s).le (by omega)
  rw [ah h7];exact Up.zero _ _ _
theorem amL (C:gy) (note:Bool) (t:Int):∀ (x:bD) (s:CS),Up s (dx x.dat) (BG C note t x s)
 | .mk h cs,s=>by
  have hz:=Al (.mk h cs);have hc:=aax C note t cs;rw [JO];dsimp only [bD.cells,bD.head] at hz ⊢;exact (Up.zero s _ 0).and (y:=jI cs) (by omega) fun s=>hc s
theorem amJ (C:gy) (note:Bool) (t:Int):∀ (x:bF) (s:CS),Up s (dx x.dat) (cellC C note t x s)
 | .mk i h f,s=>by
  have hz:=Aj (.mk i h f);have hf:=Np C false note t f;rw [Io];dsimp only [bF.flow,bF.head,bF.id] at hz ⊢;exact (aay s _ 0).and (y:=bg f) (by omega) fun s=>(Up.zero s _ 0).and (Nat.le_of_eq (jh _)) fun s=>hf s
theorem Np (C:gy) (body note:Bool) (t:Int):∀ (l:List au) (s:CS),Up s (bg l) (jk C body note t l s)
 | [],s=>by rw [jk];exact Up.zero _ _ _
 | x :: r,s=>by
  rw [jk];exact (aaz C body note t x s).and (y:=bg r) (by simp only [bg,fu,eZ];omega) fun s=>Np C body note t r s
theorem aaA (C:gy) (note:Bool) (t:Int):∀ (l:List bD) (s:CS),Up s (iD l) (iK C note t l s)
 | [],s=>by rw [iK];exact Up.zero _ _ _
 | x :: r,s=>by
  rw [iK];exact (amL C note t x s).and (y:=iD r) (by simp only [iD,fu,eZ];omega) fun s=>aaA C note t r s
theorem aax (C:gy) (note:Bool) (t:Int):∀ (l:List bF) (s:CS),Up s (jI l) (qM C note t l s)
 | [],s=>by rw [qM];exact Up.zero _ _ _
 | x :: r,s=>by
  rw [qM];exact (amJ C note t x s).and (y:=jI r) (by simp only [jI,fu,eZ];omega) fun s=>aax C note t r s
end
def pY {α:Type} (f:α→CS→CR) (l:List α) (s:CS):Nat→CS
 | 0=>s
 | i+1=>match l[i]? with|some x=>(f x (pY f l s i)).2|none=>pY f l s i
def AL {α:Type} (f:α→CS→CR) (l:List α) (s:CS) (i:Nat):Int:=match l[i]? with|some x=>(f x (pY f l s i)).1|none=>0
theorem Sl {α:Type} (f:α→CS→CR) (x:α) (l:List α) (s:CS):∀ i,pY f (x :: l) s (i+1)=pY f l (f x s).2 i
 | 0=>rfl
 | i+1=>by
  have ih:=Sl f x l s i
  simp only [pY,List.getElem?_cons_succ] at ih ⊢
  rw [ih]
theorem afB {α:Type} (f:α→CS→CR) (x:α) (l:List α) (s:CS) (i:Nat):AL f (x :: l) s (i+1)=AL f l (f x s).2 i:=by
 unfold AL
 simp only [List.getElem?_cons_succ,Sl]
theorem abB (E:Nat→Int) (n:Nat):kM E (n+1)=if E 0≠0 then E 0 else kM (fun i=>E (i+1)) n:=by
 unfold kM
 rw [List.range_succ_eq_map,fu,dM,List.map_map]
 rfl
theorem Yf (C:gy) (body note:Bool) (t:Int):∀ (l:List au) (s:CS),(jk C body note t l s).1=kM (AL (eH C body note t) l s) l.length∧((jk C body note t l s).1=0→(jk C body note t l s).2=pY (eH C body note t) l s l.length)
 | [],s=>by rw [jk];exact ⟨rfl,fun _=>rfl⟩
 | x :: r,s=>by
  obtain ⟨h1,h2⟩:=Yf C body note t r (eH C body note t x s).2;have e0:AL (eH C body note t) (x :: r) s 0=(eH C body note t x s).1:=rfl;rw [jk,nZ,abB,e0,Sl]
  simp only [afB]
  unfold fU
  split
  ·next h=>exact ⟨rfl,fun h0=>absurd h0 h⟩
  exact ⟨h1,h2⟩
theorem aaB (C:gy) (body note:Bool) (t:Int) (l:List au) (s:CS):∀ i,i≤l.length→s.n≤(pY (eH C body note t) l s i).n∧(pY (eH C body note t) l s i).n+(bg (l.drop i):Nat)≤s.n+(bg l:Nat)
 | 0,_=>⟨Int.le_refl _,Int.le_refl _⟩
 | i+1,hi=>by
  have hi':i < l.length:=hi;obtain ⟨h1,h2⟩:=aaB C body note t l s i (by omega)
  have hs:pY (eH C body note t) l s (i+1)=(eH C body note t l[i] (pY (eH C body note t) l s i)).2:=by rw [pY,iA hi']
  have hd:bg (l.drop i)=1+dx l[i].dat+bg (l.drop (i+1)):=by
   simp only [bg];rw [kZ hi',fu,eZ]
  obtain ⟨h3,h4⟩:=aaz C body note t l[i] (pY (eH C body note t) l s i);rw [hs];exact ⟨by omega,by omega⟩
end
section
open Go.RowKit
mutual
/-- The ids in items, in document order. -/
def Bu:au→List Int
 | .mk k _ i _ _ f r=>(if k=6∨k=7 then [i] else [])++((if k=6 then vC f else [])++(if k=7 then Bv r else []))
def vC:List au→List Int
 | []=>[]
 | x :: r=>Bu x++vC r
def CP:bD→List Int
 | .mk _ c=>Bt c
def Bv:List bD→List Int
 | []=>[]
 | x :: r=>CP x++Bv r
def CO:bF→List Int
 | .mk i _ f=>i :: vC f
def Bt:List bF→List Int
 | []=>[]
 | x :: r=>CO x++Bt r
end
end
section
open Go.RowKit
theorem kR {r:CR} {f:CS→CR} {s':CS} (h:fU r f=(0,s')):r.1=0∧f r.2=(0,s'):=by
 unfold fU at h
 split at h
 ·rename_i h1;rw [h] at h1;exact absurd rfl h1
 rename_i h1;exact ⟨mW.1 h1,h⟩
theorem Ve {r:CR} (h:r.1=0):r=(0,r.2):=Prod.ext h rfl
structure kY (a b c:List Int):Prop where
 eq:c=a++b
 nd:a.Nodup→c.Nodup
 pos:∀ i∈b,1≤i∧i≤1073741824
theorem kY.nil (a:List Int):kY a [] a:=⟨by simp,fun h=>h,fun i h=>by cases h⟩
theorem kY.trans {a b c d e:List Int} (h:kY a b c) (g:kY c d e):kY a (b++d) e:=⟨by rw [g.eq,h.eq,nE],fun h1=>g.nd (h.nd h1),fun i hi=>(jS.1 hi).elim (h.pos i) (g.pos i)⟩
theorem kY.id {a:List Int} {x:Int} (h:qB a x=0):kY a [x] (kg a x):=by
 unfold kg
 rw [av h]
 unfold qB at h
 by_cases h1:1≤x∧x≤1073741824
 ·rw [ah (fun h'=>h' h1)] at h
  by_cases h2:x∈a
  ·rw [av h2] at h;cases h
  exact ⟨rfl,fun h3=>List.nodup_append.2 ⟨h3,by simp,fun u hu v hv=>by rw [qK.1 hv];exact fun e=>h2 (e ▸ hu)⟩,fun i hi=>by rw [qK.1 hi];exact h1⟩
 rw [av h1] at h;cases h
theorem kY.ko {s s':CS} {x:Int} (h:ko s x=(0,s')):kY s.bO [x] s'.bO:=by
 unfold Go.Proofs.YteopmoocmoigcaaGreat.ko at h
 injection h with h1 h2
 rw [← h2];exact kY.id h1
theorem akI {body note:Bool} {t k i:Int} {s s':CS} (h:kQ body note t k i s=(0,s')):kY s.bO (if k=6∨k=7 then [i] else []) s'.bO:=by
 unfold kQ at h
 by_cases h3:k=3
 ·rw [av h3] at h;injection h with _ h2;rw [ah (by omega),← h2];exact kY.nil _
 rw [ah h3] at h
 by_cases h6:k=6
 ·rw [av h6] at h;rw [av (.inl h6)];exact kY.ko (kR h).2
 rw [ah h6] at h
 by_cases h7:k=7
 ·rw [av h7] at h;rw [av (.inr h7)];exact kY.ko (kR h).2
 rw [ah h7] at h;rw [ah (by omega)]
 by_cases h8:k=8
 ·rw [av h8] at h;injection h with _ h2;rw [← h2];exact kY.nil _
 rw [ah h8] at h;injection h with _ h2;rw [← h2];exact kY.nil _
theorem RQ {n:Nat} {f:CS→CR} {s s':CS} (h:lW n f s=(0,s')):n≠0∧f s=(0,s'):=by
 unfold lW at h
 split at h
 ·cases h
 rename_i h1
 split at h
 ·cases h
 exact ⟨h1,h⟩
mutual
theorem afF (C:gy) (body note:Bool) (t:Int):∀ (x:au) (s s':CS),eH C body note t x s=(0,s')→kY s.bO (Bu x) s'.bO
 | .mk k c i tx h f r,s,s',e=>by
  have hf:=Ld C false true t f;have hr:=VZ C note (t+1) r;rw [eH] at e;obtain ⟨-,e⟩:=kR e;obtain ⟨e1,e⟩:=kR e;obtain ⟨-,e⟩:=kR e;have h1:=akI (Ve e1);rw [Bu];refine h1.trans ?_
  by_cases h6:k=6
  ·rw [av h6] at e ⊢;rw [ah (show ¬ k=7 by omega),jA];exact hf _ _ e
  rw [ah h6] at e ⊢;rw [jP]
  by_cases h7:k=7
  ·rw [av h7] at e ⊢;exact hr _ _ (RQ e).2
  rw [ah h7] at e ⊢
  injection e with _ e
  rw [← e];exact kY.nil _
theorem afG (C:gy) (note:Bool) (t:Int):∀ (x:bD) (s s':CS),BG C note t x s=(0,s')→kY s.bO (CP x) s'.bO
 | .mk h cs,s,s',e=>by
  have hc:=VY C note t cs;rw [JO] at e;rw [CP];exact hc _ _ (kR e).2
theorem afE (C:gy) (note:Bool) (t:Int):∀ (x:bF) (s s':CS),cellC C note t x s=(0,s')→kY s.bO (CO x) s'.bO
 | .mk i h f,s,s',e=>by
  have hf:=Ld C false note t f;rw [Io] at e;dsimp only [bF.id,bF.head,bF.flow] at e;obtain ⟨e1,e⟩:=kR e;have h1:=kY.ko (s':=(ko s i).2) (Prod.ext e1 rfl);rw [CO];exact h1.trans (hf _ _ (kR e).2)
theorem Ld (C:gy) (body note:Bool) (t:Int):∀ (l:List au) (s s':CS),jk C body note t l s=(0,s')→kY s.bO (vC l) s'.bO
 | [],s,s',e=>by rw [jk] at e;injection e with _ e;rw [← e];exact kY.nil _
 | x :: r,s,s',e=>by
  rw [jk] at e;obtain ⟨e1,e⟩:=kR e;rw [vC];exact (afF C body note t x s _ (Prod.ext e1 rfl)).trans (Ld C body note t r _ _ e)
theorem VZ (C:gy) (note:Bool) (t:Int):∀ (l:List bD) (s s':CS),iK C note t l s=(0,s')→kY s.bO (Bv l) s'.bO
 | [],s,s',e=>by rw [iK] at e;injection e with _ e;rw [← e];exact kY.nil _
 | x :: r,s,s',e=>by
  rw [iK] at e;obtain ⟨e1,e⟩:=kR e;rw [Bv];exact (afG C note t x s _ (Prod.ext e1 rfl)).trans (VZ C note t r _ _ e)
theorem VY (C:gy) (note:Bool) (t:Int):∀ (l:List bF) (s s':CS),qM C note t l s=(0,s')→kY s.bO (Bt l) s'.bO
 | [],s,s',e=>by rw [qM] at e;injection e with _ e;rw [← e];exact kY.nil _
 | x :: r,s,s',e=>by
  rw [qM] at e;obtain ⟨e1,e⟩:=kR e;rw [Bt];exact (afE C note t x s _ (Prod.ext e1 rfl)).trans (VY C note t r _ _ e)
end
def dQ (l:List au):Prop:=∃ (C:gy) (body note:Bool) (t:Int) (s s':CS),jk C body note t l s=(0,s')
structure wQ (x:au):Prop where
 txt:oC x.text=true
 kd:1≤x.kind∧x.kind≤8
 JQ:x.kind≠7→x.rows=[]
 fl0:x.kind≠6→x.flow=[]
 fl:dQ x.flow
 rw:∀ r∈x.rows,∀ c∈r.cells,dQ c.flow
theorem akp:dQ []:=⟨⟨[],[],[]⟩,false,false,0,⟨0,[]⟩,⟨0,[]⟩,by rw [jk]⟩
theorem WM {x:au} (h:kD x=0):oC x.text=true∧(1≤x.kind∧x.kind≤8)∧(x.kind≠7→x.rows=[])∧(x.kind≠6→x.flow=[]):=by
 unfold kD at h
 split at h
 ·cases h
 rename_i h1
 split at h
 ·cases h
 rename_i h2
 split at h
 ·cases h
 rename_i h3
 have hk:decide (1≤x.kind∧x.kind≤8)=true:=by
  cases hd:decide (1≤x.kind∧x.kind≤8)
  ·rw [hd] at h1;exact absurd rfl h1
  rfl
 refine ⟨by simpa using h3,oG hk,fun h7=>?_,fun h6=>?_⟩
 ·rw [Bool.not_eq_true] at h2
  unfold xw at h2
  simp only [Bool.or_eq_false_iff] at h2
  have h4:=h2.2;rw [jy h7,Ce,sF] at h4;exact List.length_eq_zero_iff.1 (by omega)
 rw [Bool.not_eq_true] at h2
 unfold xw at h2
 simp only [Bool.or_eq_false_iff] at h2
 have h4:=h2.1.2;rw [jy h6,Ce,sF] at h4;exact List.length_eq_zero_iff.1 (by omega)
theorem cells_ok {C:gy} {note:Bool} {t:Int}:∀ {l:List bF} {s s':CS},qM C note t l s=(0,s')→∀ c∈l,dQ c.flow
 | [],_,_,_,_,h=>by cases h
 | x :: r,s,s',e,c,h=>by
  rw [qM] at e;obtain ⟨e1,e⟩:=kR e
  rcases kK.1 h with rfl|h
  ·have e2:cellC C note t c s=(0,(cellC C note t c s).2):=Prod.ext e1 rfl
   generalize (cellC C note t c s).2=s2 at e2
   rw [Io] at e2;exact ⟨C,false,note,t,_,_,(kR (kR e2).2).2⟩
  exact cells_ok e c h
theorem Zz {C:gy} {note:Bool} {t:Int}:∀ {l:List bD} {s s':CS},iK C note t l s=(0,s')→∀ r∈l,∀ c∈r.cells,dQ c.flow
 | [],_,_,_,_,h=>by cases h
 | x :: r,s,s',e,q,h=>by
  rw [iK] at e;obtain ⟨e1,e⟩:=kR e
  rcases kK.1 h with rfl|h
  ·have e2:BG C note t q s=(0,(BG C note t q s).2):=Prod.ext e1 rfl
   generalize (BG C note t q s).2=s2 at e2
   rw [JO] at e2;exact cells_ok (kR e2).2
  exact Zz e q h
theorem dQ.head {x:au} {l:List au} (h:dQ (x :: l)):wQ x∧dQ l:=by
 obtain ⟨C,body,note,t,s,s',e⟩:=h;rw [jk] at e;obtain ⟨e1,e⟩:=kR e;have e2:eH C body note t x s=(0,(eH C body note t x s).2):=Prod.ext e1 rfl
 generalize (eH C body note t x s).2=s2 at e2
 refine ⟨?_,⟨C,body,note,t,_,_,e⟩⟩;rw [Mr] at e2;obtain ⟨f1,e2⟩:=kR e2;(iterate 2 obtain ⟨-,e2⟩:=kR e2);obtain ⟨h1,h2,h3,h4⟩:=WM f1;refine ⟨h1,h2,h3,h4,?_,?_⟩
 ·by_cases h6:x.kind=6
  ·rw [av h6] at e2;exact ⟨_,_,_,_,_,_,e2⟩
  rw [h4 h6];exact akp
 by_cases h7:x.kind=7
 ·rw [ah (by omega),av h7] at e2;exact Zz (RQ e2).2
 rw [h3 h7];exact fun _ h=>by cases h
theorem dQ.tail {x:au} {l:List au} (h:dQ (x :: l)):dQ l:=h.head.2
theorem dQ.mem:∀ {l:List au} {x:au},dQ l→x∈l→wQ x
 | y :: l,x,h,hx=>by
  rcases kK.1 hx with rfl|hx
  ·exact h.head.1
  exact dQ.mem h.head.2 hx
theorem wQ.e {x:au} (h:wQ x):rZ x=0:=by unfold rZ Hq;rw [av h.txt];split <;> rfl
theorem wQ.n1 {x:au} (h:wQ x):n1 x=dG x:=by unfold Go.Proofs.YteopmoocmoigcaaGreat.n1;rw [av h.e]
theorem dQ.div {l:List au} (h:dQ l):vT l=true:=by
 unfold vT
 rw [lJ];exact fun x hx=>jy (h.mem hx).e
theorem dQ.len {l:List au} (h:dQ l):wC l=bY l:=by unfold wC;rw [av h.div]
def tK (f t:Int) (L:List jf):Prop:=∃ F∈L,F.id=f∧0≤t∧t≤wC F.items
theorem Ml {f t:Int}:tK f t []↔False:=⟨fun ⟨_,h,_⟩=>(by cases h),False.elim⟩
theorem QO {f t:Int} {L M:List jf}:tK f t (L++M)↔tK f t L∨tK f t M:=by
 unfold tK
 constructor
 ·rintro ⟨F,h,r⟩
  rcases jS.1 h with h|h
  ·exact .inl ⟨F,h,r⟩
  exact .inr ⟨F,h,r⟩
 rintro (⟨F,h,r⟩|⟨F,h,r⟩)
 ·exact ⟨F,jS.2 (.inl h),r⟩
 exact ⟨F,jS.2 (.inr h),r⟩
theorem X8 {f t:Int} {F:jf} {L:List jf}:tK f t (F :: L)↔(F.id=f∧0≤t∧t≤wC F.items)∨tK f t L:=by
 unfold tK
 constructor
 ·rintro ⟨E,h,r⟩
  rcases kK.1 h with rfl|h
  ·exact .inl r
  exact .inr ⟨E,h,r⟩
 rintro (r|⟨E,h,r⟩)
 ·exact ⟨F,gP,r⟩
 exact ⟨E,iZ _ h,r⟩
mutual
theorem YG (g:Int) (at_:Nat) (note:Bool) (tt f t:Int):∀ x:au,wQ x→((f,t)∈Dl g at_ x↔(g=f∧(at_:Int)≤t∧t < at_+dG x)∨tK f t (wL note tt x))
 | .mk k c i tx h fl r,hx=>by
  have hf:=MB i 0 true tt f t fl hx.fl;have hr:=Q8 note tt f t r hx.rw;have hn:=hx.n1;have h0:=hx.JQ;have hl:=hx.fl.len;rw [Dl,wL,hn]
  simp only [au.kind,au.rows,au.flow] at h0 hl
  generalize dG (.mk k c i tx h fl r)=u
  have h1:(f,t)∈(List.range u).map (fun q=>(g,((at_+q:Nat):Int)))↔(g=f∧(at_:Int)≤t∧t < at_+u):=by
   rw [List.mem_map]
   constructor
   ·rintro ⟨q,hq,e⟩
    injection e with e1 e2
    have:=pq.1 hq;exact ⟨e1,by omega,by omega⟩
   rintro ⟨e,h2,h3⟩;exact ⟨(t - at_).toNat,pq.2 (by omega),by rw [e];exact Prod.ext rfl (by simp only;omega)⟩
  rw [jS,jS,h1];refine or_congr Iff.rfl ?_
  by_cases h6:k=6
  ·rw [av h6,av h6,h0 (by omega),hf,X8]
   simp only [tJ,List.not_mem_nil,or_false,hl]
   constructor
   ·rintro (⟨e,h2,h3⟩|h2)
    ·exact .inl ⟨e,by omega,by omega⟩
    exact .inr h2
   rintro (⟨e,h2,h3⟩|h2)
   ·exact .inl ⟨e,by omega,by omega⟩
   exact .inr h2
  rw [ah h6,ah h6]
  by_cases h7:k=7
  ·rw [av h7,hr];simp
  rw [ah h7,h0 h7,Ml];simp [tJ]
theorem MB (g:Int) (at_:Nat) (note:Bool) (tt f t:Int):∀ l:List au,dQ l→((f,t)∈wJ g at_ l↔(g=f∧(at_:Int)≤t∧t≤at_+bY l)∨tK f t (jd note tt l))
 | [],_=>by
  rw [wJ,jd,Ml,qK]
  constructor
  ·intro e;injection e with e1 e2;exact .inl ⟨e1.symm,by omega,by simp only [bY];omega⟩
  rintro (⟨e,h2,h3⟩|h)
  ·simp only [bY] at h3;rw [e];exact Prod.ext rfl (by simp only;omega)
  exact h.elim
 | x :: l,hl=>by
  obtain ⟨hx,hl⟩:=hl.head;have h1:=YG g at_ note tt f t x hx;have h2:=MB g (at_+n1 x) note tt f t l hl;rw [wJ,jd,jS,h1,h2,QO,hx.n1]
  simp only [bY]
  constructor
  ·rintro ((⟨e,h3,h4⟩|h3)|(⟨e,h3,h4⟩|h3))
   ·exact .inl ⟨e,by omega,by omega⟩
   ·exact .inr (.inl h3)
   ·exact .inl ⟨e,by omega,by omega⟩
   exact .inr (.inr h3)
  rintro (⟨e,h3,h4⟩|(h3|h3))
  ·by_cases hlt:t < at_+dG x
   ·exact .inl (.inl ⟨e,h3,hlt⟩)
   exact .inr (.inl ⟨e,by omega,by omega⟩)
  ·exact .inl (.inr h3)
  exact .inr (.inr h3)
theorem mem_row (note:Bool) (tt f t:Int):∀ x:bD,(∀ c∈x.cells,dQ c.flow)→((f,t)∈Dm x↔tK f t (wM note tt x))
 | .mk h cs,hx=>by
  have hc:=Q7 note tt f t cs hx;rw [Dm,wM];exact hc
theorem Q8 (note:Bool) (tt f t:Int):∀ l:List bD,(∀ r∈l,∀ c∈r.cells,dQ c.flow)→((f,t)∈tJ l↔tK f t (oQ note tt l))
 | [],_=>by rw [tJ,oQ,Ml];simp
 | x :: l,hx=>by
  have h1:=mem_row note tt f t x (hx x gP);have h2:=Q8 note tt f t l (fun r hr=>hx r (iZ _ hr));rw [tJ,oQ,jS,h1,h2,QO]
theorem YE (note:Bool) (tt f t:Int):∀ x:bF,dQ x.flow→((f,t)∈Dj x↔tK f t (wK note tt x))
 | .mk i h fl,hx=>by
  have h1:=MB i 0 note (tt+1) f t fl hx;have hl:=hx.len
  simp only [bF.flow] at hl
  rw [Dj,wK,h1,X8]
  simp only [hl]
  refine or_congr ?_ Iff.rfl
  constructor
  ·rintro ⟨e,h2,h3⟩;exact ⟨e,by omega,by omega⟩
  rintro ⟨e,h2,h3⟩;exact ⟨e,by omega,by omega⟩
theorem Q7 (note:Bool) (tt f t:Int):∀ l:List bF,(∀ c∈l,dQ c.flow)→((f,t)∈zu l↔tK f t (qg note tt l))
 | [],_=>by rw [zu,qg,Ml];simp
 | x :: l,hx=>by
  have h1:=YE note tt f t x (hx x gP);have h2:=Q7 note tt f t l (fun r hr=>hx r (iZ _ hr));rw [zu,qg,jS,h1,h2,QO]
end
mutual
theorem aaL (note:Bool) (t:Int):∀ x:au,((wL note t x).map jf.id).Sublist (Bu x)
 | .mk k c i tx h f r=>by
  have hf:=J6 true t f;have hr:=SS note t r;rw [wL,Bu]
  by_cases h6:k=6
  ·rw [av h6,av (.inl h6),av h6,ah (by omega),jA];exact List.Sublist.cons_cons _ hf
  rw [ah h6,ah h6,jP]
  by_cases h7:k=7
  ·rw [av h7,av h7,av (.inr h7)];exact List.Sublist.cons _ hr
  rw [ah h7];exact List.nil_sublist _
theorem J6 (note:Bool) (t:Int):∀ l:List au,((jd note t l).map jf.id).Sublist (vC l)
 | []=>by rw [jd];exact List.nil_sublist _
 | x :: l=>by
  rw [jd,vC,kL];exact (aaL note t x).append (J6 note t l)
theorem aaM (note:Bool) (t:Int):∀ x:bD,((wM note t x).map jf.id).Sublist (CP x)
 | .mk h cs=>by rw [wM,CP];exact SN note t cs
theorem SS (note:Bool) (t:Int):∀ l:List bD,((oQ note t l).map jf.id).Sublist (Bv l)
 | []=>by rw [oQ];exact List.nil_sublist _
 | x :: l=>by
  rw [oQ,Bv,kL];exact (aaM note t x).append (SS note t l)
theorem aaK (note:Bool) (t:Int):∀ x:bF,((wK note t x).map jf.id).Sublist (CO x)
 | .mk i h f=>by rw [wK,CO];exact List.Sublist.cons_cons _ (J6 note (t+1) f)
theorem SN (note:Bool) (t:Int):∀ l:List bF,((qg note t l).map jf.id).Sublist (Bt l)
 | []=>by rw [qg];exact List.nil_sublist _
 | x :: l=>by
  rw [qg,Bt,kL];exact (aaK note t x).append (SN note t l)
end
structure uI (l:List au):Prop where
 ok:dQ l
 nd:(vC l).Nodup
 pos:∀ i∈vC l,1≤i∧i≤1073741824
theorem uI.of {C:gy} {body note:Bool} {t n:Int} {l:List au} {s':CS} (h:jk C body note t l ⟨n,[]⟩=(0,s')):uI l:=by
 have he:=Ld C body note t l _ _ h;have hn:=he.nd List.nodup_nil;rw [he.eq] at hn;exact ⟨⟨C,body,note,t,_,_,h⟩,by simpa using hn,he.pos⟩
theorem uI.ids {l:List au} (h:uI l):((AX l).map jf.id).Nodup:=by
 have hs:=J6 false 0 l;rw [AX,fu,List.nodup_cons];exact ⟨fun hm=>by have:=h.pos _ (hs.subset hm);dsimp only at this;omega,hs.nodup h.nd⟩
theorem agh {L:List jf} (hn:(L.map jf.id).Nodup) {F:jf} (hF:F∈L):L.find? (fun f=>decide (f.id=F.id))=some F:=by
 induction L with
 | nil=>cases hF
 | cons E L ih =>
  rw [fu,List.nodup_cons] at hn;rw [List.find?_cons]
  rcases kK.1 hF with rfl|hF
  ·simp
  have:E.id≠F.id:=fun e=>hn.1 (e ▸ List.mem_map_of_mem hF);rw [iU this];exact ih hn.2 hF
end
section
open Go.RowKit
def Cb (s:CS) (z:Nat) (r:CR):Prop:=r.2.bO.length≤s.bO.length+z
theorem Cb.and {s:CS} {z y q:Nat} {r:CR} {f:CS→CR} (h:Cb s z r) (hq:z+y≤q) (hf:∀ s,Cb s y (f s)):Cb s q (fU r f):=by
 unfold Cb at *
 unfold fU
 split
 ·omega
 have:=hf r.2
 omega
theorem Cb.zero (s:CS) (e:Int) (q:Nat):Cb s q (e,s):=by unfold Cb;dsimp only;omega
theorem aaU {l:List au} {k:Nat} (hk:k < l.length):bg (l.drop k)=1+dx l[k].dat+bg (l.drop (k+1)):=by
 simp only [bg];rw [kZ hk,fu,eZ]
end
section
open Go.RowKit
structure bP where
 code:Int
 id:Int
 name:ByteArray
 flow:Int
 at_:Int
def bP.dat (x:bP):List Dat:=[li x.code,li x.id,.lf (.string x.name),li x.flow,li x.at_]
abbrev bP.cells (x:bP):List aj:=[vi x.code,vi x.id,.string x.name,vi x.flow,vi x.at_]
abbrev bP.val (x:bP):aj:=.agg #[vi x.code,vi x.id,.string x.name,vi x.flow,vi x.at_]
theorem Uy {G:GH} {x:bP} {cs:List aj} (h:aY G x.dat cs):cs=x.cells:=by
 simp only [bP.dat,aY,ay] at h
 obtain ⟨_,_,rfl,⟨rfl,_⟩,_,_,rfl,⟨rfl,_⟩,_,_,rfl,⟨rfl,_⟩,_,_,rfl,⟨rfl,_⟩,_,_,rfl,⟨rfl,_⟩,rfl⟩:=h
 rfl
theorem abF (G:GH) (x:bP):aY G x.dat x.cells :=
 ⟨_,_,rfl,⟨rfl,rfl⟩,_,_,rfl,⟨rfl,rfl⟩,_,_,rfl,⟨rfl,rfl⟩,_,_,rfl,⟨rfl,rfl⟩,_,_,rfl,⟨rfl,rfl⟩,rfl⟩
mutual
def xS (g:Int) (t:Nat):au→List bP
 | .mk k c i tx _ f r=>(if k=8 then [⟨c,i,tx,g,(t:Int)⟩] else [])++((if k=6 then dX i 0 f else [])++(if k=7 then lH r else []))
/-- The anchors of a flow, and of those in it, in document order. -/
def dX (g:Int):Nat→List au→List bP
 | _,[]=>[]
 | t,x :: l=>xS g t x++dX g (t+n1 x) l
def lH:List bD→List bP
 | []=>[]
 | x :: l=>xU x++lH l
def xU:bD→List bP
 | .mk _ cs=>nX cs
def nX:List bF→List bP
 | []=>[]
 | x :: l=>xR x++nX l
def xR:bF→List bP
 | .mk i _ f=>dX i 0 f
end
theorem NU (g:Int) (t:Nat) (x:au):xS g t x=(if x.kind=8 then [⟨x.code,x.id,x.text,g,(t:Int)⟩] else [])++((if x.kind=6 then dX x.id 0 x.flow else [])++(if x.kind=7 then lH x.rows else [])):=by cases x;rw [xS];rfl
theorem Uq (x:bD):xU x=nX x.cells:=by cases x;rw [xU];rfl
theorem Un (x:bF):xR x=dX x.id 0 x.flow:=by cases x;rw [xR];rfl
mutual
theorem abt (g:Int) (t:Nat):∀ x:au,(xS g t x).length≤dx x.dat
 | .mk k c i tx h fl r=>by
  have h4:=oF (.mk k c i tx h fl r);have hf:=Au i 0 fl;have hr:=NV r;dsimp only [au.text,au.head,au.flow,au.rows] at h4;rw [xS,iM,iM]
  split <;> split <;> split <;> simp only [nZ,List.length_nil] <;> omega
theorem Au (g:Int):∀ (t:Nat) (l:List au),(dX g t l).length≤bg l
 | _,[]=>by simp [dX]
 | t,x :: l=>by
  have h1:=abt g t x;have h2:=Au g (t+n1 x) l;rw [dX,iM]
  simp only [bg,fu,eZ] at *;omega
theorem abu:∀ x:bD,(xU x).length≤dx x.dat
 | .mk h cs=>by
  have h4:=Al (.mk h cs);have hc:=Uo cs;dsimp only [bD.head,bD.cells] at h4;rw [xU];omega
theorem NV:∀ l:List bD,(lH l).length≤iD l
 | []=>by simp [lH]
 | x :: l=>by
  have h1:=abu x;have h2:=NV l;rw [lH,iM]
  simp only [iD,fu,eZ] at *;omega
theorem abr:∀ x:bF,(xR x).length≤dx x.dat
 | .mk i h fl=>by
  have h4:=Aj (.mk i h fl);have hf:=Au i 0 fl;dsimp only [bF.head,bF.flow] at h4;rw [xR];omega
theorem Uo:∀ l:List bF,(nX l).length≤jI l
 | []=>by simp [nX]
 | x :: l=>by
  have h1:=abr x;have h2:=Uo l;rw [nX,iM]
  simp only [jI,fu,eZ] at *;omega
end
theorem Rp (x:au):n1 x+bg x.flow+iD x.rows < dx x.dat:=by
 have h1:=oF x;have h2:=FH x.text
 unfold n1 dG
 split <;> first|omega|(split <;> omega)
def DR (a:bP):AP:=fun args _=>args=[a.val]
def Ti (P:Program) (fv:aj) (Gi:GH) (xs:List AP) (J:Nat→GH→OL→Prop):Prop :=
 ∀ k args G L w,vJ xs k args G→(∀ b o,Gi b=some o→G b=some o)→J k G L→gZ G L w→uG P fv args w (gI w G L fun _ G' L'=>J (k+1) G' L')
end
section
open Go.RowKit
abbrev qC (p:Int × Int):aj:=.agg #[vi p.1,vi p.2]
def lq:Nat→List ((Int × Int) × aj)→List MapEntry
 | _,[]=>[]
 | i,(k,v) :: r=>⟨qC k,v,i⟩ :: lq (i+1) r
theorem YB (x:(Int × Int) × aj):∀ (i:Nat) (l:List ((Int × Int) × aj)),lq i (l++[x])=lq i l++[⟨qC x.1,x.2,i+l.length⟩]
 | _,[]=>rfl
 | i,k :: r=>by
  rw [mG,lq,YB x (i+1) r,lq,mG,nZ,show i+1+r.length=i+(r.length+1) by omega]
def nu (x:Int × Int):List ((Int × Int) × aj)→Option aj
 | []=>none
 | (k,v) :: r=>if k=x then some v else nu x r
theorem ZB {P:Program} {kt:TypeId} (he:Am P kt [0,1]) (w:World) (p q:Int × Int):(Op.equal kt (qC p) (qC q)).run P w=.ok (decide (p=q)) w:=by
 have h1:=RU (P:=P) (w:=w) (d:=9998) (xs:=#[vi p.1,vi p.2]) (ys:=#[vi q.1,vi q.2]) _ he.ok (by rw [he.uX];rfl)
 rw [he.uX] at h1
 have h2:=run_equalIn_struct w 9999 kt #[vi p.1,vi p.2] #[vi q.1,vi q.2] he.und he.held
 show (Op.equalIn 10000 kt (qC p) (qC q)).run P w=_
 rw [h2,h1]
 congr 1
 obtain ⟨a,b⟩:=p
 obtain ⟨c,d⟩:=q
 rw [og]
 simp [jQ]
theorem RS {P:Program} {kt:TypeId} (he:Am P kt [0,1]) (w:World) (e:Bool) (p:Int × Int):(Instr.checkKey e 10000 kt (qC p)).run P w=.ok () w:=by
 show (Instr.checkKey e (9999+1) kt (qC p)).run P w=_
 have hok:=he.ok
 have hfl:=he.uX
 rw [Instr.checkKey]
 simp only [cZ,run_underlying he.und,jT]
 rw [← Array.forIn_toList]
 have hall:∀ f∈(P.fieldsOf kt).toList,f.name ≠ "_"∧P.plainKey f.type=true∧P.underlying f.type=some (.int .i64)∧∃ m,(#[vi p.1,vi p.2]:Array aj)[f.offset]?=some (.int .i64 m):=by
  intro f hf
  have h1:=lJ.1 hok f hf
  simp only [lK,qo] at h1
  refine ⟨h1.1.1,h1.1.2,?_,?_⟩
  ·have h2:=h1.2
   unfold JB at h2
   split at h2
   ·assumption
   ·cases h2
  ·have:f.offset∈[0,1]:=by rw [← hfl];exact List.mem_map_of_mem hf
   simp only [kK,List.not_mem_nil,or_false] at this
   rcases this with h|h
   ·rw [h];exact ⟨p.1,rfl⟩
   ·rw [h];exact ⟨p.2,rfl⟩
 clear hok hfl
 generalize (P.fieldsOf kt).toList=fs at hall
 induction fs with
 | nil=>simp
 | cons f fs ih =>
  obtain ⟨hn,hp,hu,m,hm⟩:=hall f gP
  have p1:=run_part_plain w hp hm
  have p2:=MapKept.run_checkKey (P:=P) (w:=w) (k:=.int .i64 m) hu (by trivial) e 9998
  simp only [List.forIn_cons,cZ,hn,ne_eq,not_false_eq_true,if_true,jT,p1,p2,oZ]
  exact ih fun y hy=>hall y (iZ _ hy)
theorem ZC {P:Program} {kt:TypeId} (he:Am P kt [0,1]) (w:World) (x:Int × Int):∀ (i j:Nat) (l:List ((Int × Int) × aj)),∃ an,(Instr.findAsking kt (qC x) (lq i l) j).run P w=.ok an w∧an.map (·.2)=nu x l
 | _,_,[]=>⟨none,by simp [lq,Instr.findAsking],rfl⟩
 | i,j,(k,v) :: r=>by
  obtain ⟨an,h1,h2⟩:=ZC he w x (i+1) (j+1) r
  by_cases e:k=x
  ·subst e
   exact ⟨some (j,v),by simp [lq,Instr.findAsking,ZB he,cZ],by rw [nu,av rfl];rfl⟩
  ·exact ⟨an,by simp [lq,Instr.findAsking,ZB he,cZ,show ¬ x=k from fun h=>e h.symm,h1],by rw [nu,ah e];exact h2⟩
theorem agd {P:Program} {kt:TypeId} (he:Am P kt [0,1]) (x:aj):∀ (l:List MapEntry) (j:Nat),l≠[]→Instr.findNow (.struct (P.fieldsOf kt)) x l j=none
 | [],_,h=>absurd rfl h
 | e :: l,j,_=>by simp [Instr.findNow,Instr.sameNow]
theorem RY {P:Program} {kt:TypeId} (he:Am P kt [0,1]) (w:World) (x:Int × Int) (l:List ((Int × Int) × aj)):∃ an,(Instr.findKey kt (qC x) (lq 0 l)).run P w=.ok an w∧an.map (·.2)=nu x l:=by
 obtain ⟨an,h1,h2⟩:=ZC he w x 0 0 l
 refine ⟨an,?_,h2⟩
 unfold Instr.findKey
 simp only [cZ,run_underlying he.und,jT]
 cases l with
 | nil=>simp only [lq,Instr.findAsking] at h1 ⊢;simpa [Instr.findNow] using h1
 | cons y l =>
  rw [agd he _ _ _ (by obtain ⟨k,v⟩:=y;simp [lq])]
  exact h1
abbrev CV (l:List ((Int × Int) × aj)):Obj:=.map (lq 0 l).toArray l.length
section
variable {N:Nat} {D:List Deferred} {w0:World} {F:Nat→Prop} {G0 G:GH} {L:OL} {T:List (Nat × aj)}
variable {r:Option Nat} {P:Program} {ops:Array Oper} {Q:Exit→Act→World→Prop} {rest:List Oper} {a:Act} {w:World}
variable {d:Nat} {ty:TypeId} {pos:String} {aM:Array Edge} {g:Option (Nat × Bool)}
theorem alr {t kt et:TypeId} {x y:Operand} {b:Nat} {l:List ((Int × Int) × aj)} {ky:Int × Int} {zv:aj} (hm:P.underlying t=some (.map kt et)) (he:Am P kt [0,1]) (hz:(P.info? et).map (fun i=>i.zero)=some (some zv)) (H:St N D w0 F G0 G L T a w)
  (hw:Region.wanted ⟨some d,.lookup t x y false,ty,pos,aM,g⟩ (yielded ops a.tmps)=true) (hx:ev T x=some (.map (some b))) (hy:ev T y=some (qC ky)) (hb:w.heap[b]?=some (CV l)) (hd:Nat.blt d N=true)
  (k:∀ a',St N D w0 F G0 G L ((d,(nu ky l).getD zv) :: T) a' w→WL r P ops Q rest a' w):WL r P ops Q (⟨some d,.lookup t x y false,ty,pos,aM,g⟩ :: rest) a w:=by
 obtain ⟨an,h2,han⟩:=RY he w ky l
 obtain ⟨inf,hi1,hi2⟩:=lY.1 hz
 refine fq (v:=(nu ky l).getD zv) (w':=w) hw rfl ?_ (k _ (H.put hd _ H.hp))
 have h1:=RS he w (lq 0 l).toArray.isEmpty ky
 replace hb:w.heap[b]?=some (.map (lq 0 l).toArray l.length):=hb
 have h2':(Instr.findKey kt (qC ky) (lq 0 l).toArray.toList).run P w=.ok an w:=by simpa using h2
 generalize (lq 0 l).toArray=es at hb h1 h2'
 rw [← han]
 cases an with
 | none=>simp [execOp,Instr.lookup,H.ev hx,H.ev hy,cZ,mD hm,MapKept.run_getObj_map hb,h1,h2',Result.andThen,zeroValue,BH hi1,hi2]
 | some q=>simp [execOp,Instr.lookup,H.ev hx,H.ev hy,cZ,mD hm,MapKept.run_getObj_map hb,h1,h2',Result.andThen]
theorem ZL {t kt et:TypeId} {x y:Operand} {b:Nat} {l:List ((Int × Int) × aj)} {ky:Int × Int} {zv:aj} (hm:P.underlying t=some (.map kt et)) (he:Am P kt [0,1]) (hz:(P.info? et).map (fun i=>i.zero)=some (some zv)) (H:St N D w0 F G0 G L T a w)
  (hw:Region.wanted ⟨some d,.lookup t x y true,ty,pos,aM,g⟩ (yielded ops a.tmps)=true) (hx:ev T x=some (.map (some b))) (hy:ev T y=some (qC ky)) (hb:w.heap[b]?=some (CV l)) (hd:Nat.blt d N=true)
  (k:∀ a',St N D w0 F G0 G L ((d,.tuple #[(nu ky l).getD zv,.bool (nu ky l).isSome]) :: T) a' w→WL r P ops Q rest a' w):WL r P ops Q (⟨some d,.lookup t x y true,ty,pos,aM,g⟩ :: rest) a w:=by
 obtain ⟨an,h2,han⟩:=RY he w ky l
 obtain ⟨inf,hi1,hi2⟩:=lY.1 hz
 refine fq (v:=.tuple #[(nu ky l).getD zv,.bool (nu ky l).isSome]) (w':=w) hw rfl ?_ (k _ (H.put hd _ H.hp))
 have h1:=RS he w (lq 0 l).toArray.isEmpty ky
 replace hb:w.heap[b]?=some (.map (lq 0 l).toArray l.length):=hb
 have h2':(Instr.findKey kt (qC ky) (lq 0 l).toArray.toList).run P w=.ok an w:=by simpa using h2
 generalize (lq 0 l).toArray=es at hb h1 h2'
 rw [← han]
 cases an with
 | none=>simp [execOp,Instr.lookup,H.ev hx,H.ev hy,cZ,mD hm,MapKept.run_getObj_map hb,h1,h2',Result.andThen,zeroValue,BH hi1,hi2]
 | some q=>simp [execOp,Instr.lookup,H.ev hx,H.ev hy,cZ,mD hm,MapKept.run_getObj_map hb,h1,h2',Result.andThen]
theorem aly {t kt et:TypeId} {x y z:Operand} {b i:Nat} {l:List ((Int × Int) × aj)} {ky:Int × Int} {v:aj} (hm:P.underlying t=some (.map kt et)) (he:Am P kt [0,1]) (H:St N D w0 F G0 G L T a w)
  (hw:Region.wanted ⟨none,.mapUpdate t x y z,ty,pos,aM,g⟩ (yielded ops a.tmps)=true) (hx:ev T x=some (.map (some b))) (hy:ev T y=some (qC ky)) (hzv:ev T z=some v) (hi:L[i]?=some (b,CV l)) (hn:nu ky l=none)
  (k:∀ w',St N D w0 F G0 G (L.set i (b,CV (l++[(ky,v)]))) T a w'→WL r P ops Q rest a w'):WL r P ops Q (⟨none,.mapUpdate t x y z,ty,pos,aM,g⟩ :: rest) a w:=by
 obtain ⟨an,h2,han⟩:=RY he w ky l
 have hnone:an=none:=by
  rw [hn] at han
  cases an with
  | none=>rfl
  | some q=>cases han
 subst hnone
 have hb:w.heap[b]?=some (.map (lq 0 l).toArray l.length):=H.hp.own _ (lI hi)
 have h1:=RS he w false ky
 have h2':(Instr.findKey kt (qC ky) (lq 0 l).toArray.toList).run P w=.ok none w:=by simpa using h2
 have e:(lq 0 l).toArray.push ⟨qC ky,v,l.length⟩=(lq 0 (l++[(ky,v)])).toArray:=by
  rw [YB,List.push_toArray,jh]
 refine SY (w':={ w with heap:=w.heap.setIfInBounds b (.map ((lq 0 l).toArray.push ⟨qC ky,v,l.length⟩) (l.length+1)) }) hw rfl ?_ ?_
 ·generalize (lq 0 l).toArray=es at hb h2'
  simp [execOp,Instr.mapUpdate,H.ev hx,H.ev hy,H.ev hzv,cZ,mD hm,MapKept.run_getObj_map hb,h1,h2',MapKept.run_setObj_map _ hb,Result.andThen]
 ·refine k _ ?_
  have H':=H.move (H.hp.upd hi (aaC (o:=.map ((lq 0 l).toArray.push ⟨qC ky,v,l.length⟩) (l.length+1)) hb))
  rw [e] at H' ⊢
  rw [CV,iM]
  exact H'
end
end
section
open Go.RowKit
theorem Gj {f t:Int} {L:List jf} (h:tK f t L):f∈L.map jf.id:=by
 obtain ⟨F,hF,rfl,-⟩:=h;exact List.mem_map_of_mem hF
theorem Pv {g:Int} {at_:Nat} {l:List au} (h:dQ l) {p:Int × Int} (hp:p∈wJ g at_ l):(g=p.1∧(at_:Int)≤p.2)∨p.1∈vC l:=by
 rcases (MB g at_ false 0 p.1 p.2 l h).1 hp with ⟨h1,h2,-⟩|h1
 ·exact .inl ⟨h1,h2⟩
 exact .inr ((J6 false 0 l).subset (Gj h1))
theorem agz {g:Int} {at_:Nat} {x:au} (h:wQ x) {p:Int × Int} (hp:p∈Dl g at_ x):(g=p.1∧p.2 < at_+dG x)∨p.1∈Bu x:=by
 rcases (YG g at_ false 0 p.1 p.2 x h).1 hp with ⟨h1,-,h2⟩|h1
 ·exact .inl ⟨h1,h2⟩
 exact .inr ((aaL false 0 x).subset (Gj h1))
theorem WQ {l:List bD} (h:∀ r∈l,∀ c∈r.cells,dQ c.flow) {p:Int × Int} (hp:p∈tJ l):p.1∈Bv l:=(SS false 0 l).subset (Gj ((Q8 false 0 p.1 p.2 l h).1 hp))
theorem agA {x:bD} (h:∀ c∈x.cells,dQ c.flow) {p:Int × Int} (hp:p∈Dm x):p.1∈CP x:=(aaM false 0 x).subset (Gj ((mem_row false 0 p.1 p.2 x h).1 hp))
theorem agy {l:List bF} (h:∀ c∈l,dQ c.flow) {p:Int × Int} (hp:p∈zu l):p.1∈Bt l:=(SN false 0 l).subset (Gj ((Q7 false 0 p.1 p.2 l h).1 hp))
theorem agx {x:bF} (h:dQ x.flow) {p:Int × Int} (hp:p∈Dj x):p.1∈CO x:=(aaK false 0 x).subset (Gj ((YE false 0 p.1 p.2 x h).1 hp))
theorem MF (g:Int) (a:Nat):∀ u:Nat,((List.range u).map fun q=>(g,((a+q:Nat):Int))).Nodup
 | 0=>List.nodup_nil
 | u+1=>by
  rw [List.range_succ,kL,List.nodup_append];refine ⟨MF g a u,by simp,fun p hp q hq=>?_⟩;obtain ⟨i,hi,rfl⟩:=List.mem_map.1 hp;have hi:=pq.1 hi
  simp only [fu,qL,qK] at hq
  subst hq;intro e
  injection e with _ e
  omega
mutual
theorem ajQ (g:Int) (at_:Nat):∀ x:au,wQ x→(Bu x).Nodup→g∉Bu x→(Dl g at_ x).Nodup
 | .mk k c i tx h fl r,hx,hn,hg=>by
  have hf:=ME i 0 fl hx.fl;have hr:=YU r hx.rw;have h0:=hx.JQ;have hxf:dQ fl:=hx.fl;have Mj:∀ q∈r,∀ c∈q.cells,dQ c.flow:=hx.rw
  simp only [au.kind,au.rows] at h0
  rw [Bu] at hn hg;rw [Dl]
  by_cases h6:k=6
  ·rw [av (.inl h6),av h6,ah (show ¬ k=7 by omega),jA] at hn hg;rw [av h6,h0 (by omega),tJ,jA]
   simp only [mG,jP,List.nodup_cons,kK,not_or] at hn hg
   rw [List.nodup_append];refine ⟨MF _ _ _,hf hn.2 hn.1,fun p hp q hq e=>?_⟩;subst e;obtain ⟨j,-,rfl⟩:=List.mem_map.1 hp
   rcases Pv hxf hq with ⟨h1,-⟩|h1
   ·exact hg.1 h1.symm
   exact hg.2 h1
  rw [ah h6,jP]
  by_cases h7:k=7
  ·rw [av (.inr h7),ah h6,av h7,jP] at hn hg
   simp only [mG,jP,List.nodup_cons,kK,not_or] at hn hg
   rw [List.nodup_append];refine ⟨MF _ _ _,hr hn.2,fun p hp q hq e=>?_⟩;subst e;obtain ⟨j,-,rfl⟩:=List.mem_map.1 hp;exact hg.2 (WQ Mj hq)
  rw [h0 h7,tJ,jA];exact MF _ _ _
theorem ME (g:Int) (at_:Nat):∀ l:List au,dQ l→(vC l).Nodup→g∉vC l→(wJ g at_ l).Nodup
 | [],_,_,_=>by rw [wJ];simp
 | x :: l,hl,hn,hg=>by
  obtain ⟨hx,hl⟩:=hl.head;rw [vC,List.nodup_append] at hn;rw [vC,jS,not_or] at hg;rw [wJ,List.nodup_append];refine ⟨ajQ g at_ x hx hn.1 hg.1,ME g (at_+n1 x) l hl hn.2.1 hg.2,fun p hp q hq e=>?_⟩;subst e
  rcases agz hx hp with ⟨h1,h2⟩|h1
  ·rcases Pv hl hq with ⟨h3,h4⟩|h3
   ·rw [hx.n1] at h4;push_cast at h4;omega
   exact hg.2 (h1 ▸ h3)
  rcases Pv hl hq with ⟨h3,h4⟩|h3
  ·exact hg.1 (h3 ▸ h1)
  exact hn.2.2 _ h1 _ h3 rfl
theorem ajR:∀ x:bD,(∀ c∈x.cells,dQ c.flow)→(CP x).Nodup→(Dm x).Nodup
 | .mk h cs,hx,hn=>by
  rw [CP] at hn;rw [Dm];exact YT cs hx hn
theorem YU:∀ l:List bD,(∀ r∈l,∀ c∈r.cells,dQ c.flow)→(Bv l).Nodup→(tJ l).Nodup
 | [],_,_=>by rw [tJ];exact List.nodup_nil
 | x :: l,hx,hn=>by
  rw [Bv,List.nodup_append] at hn;rw [tJ,List.nodup_append];exact ⟨ajR x (hx x gP) hn.1,YU l (fun r hr=>hx r (iZ _ hr)) hn.2.1,fun p hp q hq e=>hn.2.2 _ (agA (hx x gP) hp) _ (WQ (fun r hr=>hx r (iZ _ hr)) hq) (by rw [e])⟩
theorem ajP:∀ x:bF,dQ x.flow→(CO x).Nodup→(Dj x).Nodup
 | .mk i h fl,hx,hn=>by
  rw [CO,List.nodup_cons] at hn;rw [Dj];exact ME i 0 fl hx hn.2 hn.1
theorem YT:∀ l:List bF,(∀ c∈l,dQ c.flow)→(Bt l).Nodup→(zu l).Nodup
 | [],_,_=>by rw [zu];exact List.nodup_nil
 | x :: l,hx,hn=>by
  rw [Bt,List.nodup_append] at hn;rw [zu,List.nodup_append];exact ⟨ajP x (hx x gP) hn.1,YT l (fun r hr=>hx r (iZ _ hr)) hn.2.1,fun p hp q hq e=>hn.2.2 _ (agx (hx x gP) hp) _ (agy (fun r hr=>hx r (iZ _ hr)) hq) (by rw [e])⟩
end
theorem uI.vnd {l:List au} (h:uI l):(wJ 0 0 l).Nodup:=ME 0 0 l h.ok h.nd fun hm=>by have:=h.pos _ hm;omega
end
section
open Go.RowKit
theorem bP.eq_iff (a b:bP):(a.code=b.code∧a.id=b.id∧a.name=b.name∧a.flow=b.flow∧a.at_=b.at_)↔a=b:=by cases a;cases b;simp
instance:DecidableEq bP:=fun a b=>decidable_of_iff _ (bP.eq_iff a b)
def mI (l:List bP) (c i:Int):Option bP:=l.find? fun a=>decide (a.code=c∧a.id=i)
theorem WR {l:List bP} {k:Nat} (hk:k < l.length) (c i:Int):mI (l.take (k+1)) c i=(mI (l.take k) c i).or (if l[k].code=c∧l[k].id=i then some l[k] else none):=by
 unfold mI
 rw [jg hk,List.find?_append,List.find?_cons,List.find?_nil]
 by_cases h:l[k].code=c∧l[k].id=i
 ·rw [av h,jy h]
 rw [ah h,iU h]
theorem Yr (p q:Int × Int) (v:aj):∀ l:List ((Int × Int) × aj),nu p (l++[(q,v)])=(nu p l).or (if q=p then some v else none)
 | []=>by
  by_cases h:q=p
  ·simp [nu,h]
  simp [nu,h]
 | (k,u) :: r=>by
  rw [mG,nu,nu]
  by_cases h:k=p
  ·rw [av h,av h];rfl
  rw [ah h,ah h];exact Yr p q v r
def vK (acc:List ((Int × Int) × aj)) (l:List bP):Prop:=∀ p:Int × Int,nu p acc=(mI l p.1 p.2).map bP.val
theorem vK.nil:vK [] []:=fun _=>rfl
theorem vK.new {acc:List ((Int × Int) × aj)} {l:List bP} {k:Nat} (h:vK acc (l.take k)) (hk:k < l.length) (hn:nu (l[k].code,l[k].id) acc=none):vK (acc++[((l[k].code,l[k].id),l[k].val)]) (l.take (k+1)):=by
 intro p;rw [Yr,h p,WR hk]
 by_cases e:(l[k].code,l[k].id)=p
 ·subst e;rw [av rfl,av ⟨rfl,rfl⟩];rw [h] at hn
  cases hf:mI (l.take k) l[k].code l[k].id with
  | none=>rfl
  | some x=>rw [hf] at hn;cases hn
 rw [ah e,ah (fun h=>e (Prod.ext h.1 h.2))]
 cases mI (l.take k) p.1 p.2 <;> rfl
theorem vK.old {acc:List ((Int × Int) × aj)} {l:List bP} {k:Nat} (h:vK acc (l.take k)) (hk:k < l.length) (hn:(nu (l[k].code,l[k].id) acc).isSome=true):vK acc (l.take (k+1)):=by
 intro p;rw [h p,WR hk]
 by_cases e:l[k].code=p.1∧l[k].id=p.2
 ·rw [h,Option.isSome_map] at hn;rw [e.1,e.2] at hn;obtain ⟨x,hx⟩:=Option.isSome_iff_exists.1 hn;rw [hx];rfl
 rw [ah e,Option.or_none]
structure jO where
 id:Int
 name:ByteArray
 ff:Int
 fa:Int
 tf:Int
 ta:Int
def jO.dat (x:jO):List Dat:=[li x.id,.lf (.string x.name),li x.ff,li x.fa,li x.tf,li x.ta]
abbrev jO.cells (x:jO):List aj:=[vi x.id,.string x.name,vi x.ff,vi x.fa,vi x.tf,vi x.ta]
theorem aad {G:GH} {x:jO} {cs:List aj} (h:aY G x.dat cs):cs=x.cells:=by
 simp only [jO.dat,aY,ay] at h
 obtain ⟨_,_,rfl,⟨rfl,_⟩,_,_,rfl,⟨rfl,_⟩,_,_,rfl,⟨rfl,_⟩,_,_,rfl,⟨rfl,_⟩,_,_,rfl,⟨rfl,_⟩,_,_,rfl,⟨rfl,_⟩,rfl⟩:=h
 rfl
theorem aae (G:GH) (x:jO):aY G x.dat x.cells :=
 ⟨_,_,rfl,⟨rfl,rfl⟩,_,_,rfl,⟨rfl,rfl⟩,_,_,rfl,⟨rfl,rfl⟩,_,_,rfl,⟨rfl,rfl⟩,_,_,rfl,⟨rfl,rfl⟩,_,_,rfl,⟨rfl,rfl⟩,rfl⟩
def yw (l:List bP) (c:Int) (a:bP):Int × Int:=match mI l (c+1) a.id with
 | some e=>if e.flow=a.flow∧a.at_ < e.at_ then (e.flow,e.at_) else (a.flow,a.at_+1)
 | none=>(a.flow,a.at_+1)
def zk (l:List bP) (c:Int) (a:bP):jO:=⟨a.id,a.name,a.flow,a.at_+1,(yw l c a).1,(yw l c a).2⟩
def pU (l:List bP) (c:Int) (a:bP):Bool:=decide (a.code=c∧mI l c a.id=some a)
def nP (l:List bP) (c:Int):List jO:=(l.filter (pU l c)).map (zk l c)
theorem Z9 {l m:List bP} {c:Int} {k:Nat} (hk:k < l.length):((l.take (k+1)).filter (pU m c)).map (zk m c)=((l.take k).filter (pU m c)).map (zk m c)++if pU m c l[k]=true then [zk m c l[k]] else []:=by
 rw [jg hk,List.filter_append,kL]
 congr 1
 by_cases h:pU m c l[k]=true
 ·rw [av h,List.filter_cons,av h];rfl
 rw [ah h,List.filter_cons,ah h];rfl
mutual
theorem abK (g:Int) (t:Nat):∀ x:au,wQ x→((xS g t x).map fun a=>(a.flow,a.at_)).Sublist (Dl g t x)
 | .mk k c i tx h fl r,hx=>by
  have hf:=KN i 0 fl hx.fl;have hr:=UC r hx.rw;have h0:=hx.JQ
  simp only [au.kind,au.rows] at h0
  rw [xS,Dl,kL,kL];have hn:=hx.n1
  by_cases h8:k=8
  ·subst h8
   have hu:dG (.mk 8 c i tx h fl r)=1:=by unfold dG;rw [ah (by simp [au.kind])]
   rw [hn,hu,av rfl,ah (by omega),ah (by omega),h0 (by omega),tJ,show List.range 1=[0] from rfl]
   simp
  rw [ah h8,qL,jP];refine List.Sublist.trans ?_ (List.sublist_append_right _ _)
  by_cases h6:k=6
  ·rw [av h6,av h6,ah (by omega),qL,jA];exact hf.trans (List.sublist_append_left _ _)
  rw [ah h6,ah h6,qL,jP,jP]
  by_cases h7:k=7
  ·rw [av h7];exact hr
  rw [ah h7];exact List.nil_sublist _
theorem KN (g:Int):∀ (t:Nat) (l:List au),dQ l→((dX g t l).map fun a=>(a.flow,a.at_)).Sublist (wJ g t l)
 | _,[],_=>by rw [dX];exact List.nil_sublist _
 | t,x :: l,hl=>by
  obtain ⟨hx,hl⟩:=hl.head;rw [dX,wJ,kL,hx.n1];have h2:=KN g (t+n1 x) l hl;rw [hx.n1] at h2;exact (abK g t x hx).append h2
theorem UC:∀ l:List bD,(∀ r∈l,∀ c∈r.cells,dQ c.flow)→((lH l).map fun a=>(a.flow,a.at_)).Sublist (tJ l)
 | [],_=>by rw [lH];exact List.nil_sublist _
 | x :: l,h=>by
  rw [lH,tJ,kL];exact (abL x (h x gP)).append (UC l fun r hr=>h r (iZ _ hr))
theorem abL:∀ x:bD,(∀ c∈x.cells,dQ c.flow)→((xU x).map fun a=>(a.flow,a.at_)).Sublist (Dm x)
 | .mk hd cs,h=>by rw [xU,Dm];exact UA cs h
theorem UA:∀ l:List bF,(∀ c∈l,dQ c.flow)→((nX l).map fun a=>(a.flow,a.at_)).Sublist (zu l)
 | [],_=>by rw [nX];exact List.nil_sublist _
 | x :: l,h=>by
  rw [nX,zu,kL];exact (abJ x (h x gP)).append (UA l fun r hr=>h r (iZ _ hr))
theorem abJ:∀ x:bF,dQ x.flow→((xR x).map fun a=>(a.flow,a.at_)).Sublist (Dj x)
 | .mk i hd fl,h=>by rw [xR,Dj];exact KN i 0 fl h
end
end
section
open Go.RowKit
section
variable {N:Nat} {D:List Deferred} {w0:World} {F:Nat→Prop} {G0 G:GH} {L Lo:OL} {T:List (Nat × aj)}
variable {r:Option Nat} {P:Program} {ops:Array Oper} {Q:Exit→Act→World→Prop} {rest:List Oper} {a:Act} {w:World}
variable {d:Nat} {ty:TypeId} {pos:String} {aM:Array Edge} {g:Option (Nat × Bool)}
end
end
section
open Go.RowKit
theorem OP:∀ args w,(callFunc 34 args).run prog w=.ok (.enter 34 args) w:=enters func34 rfl (by kernel_rfl)
theorem Sk:qJ prog 45 [(0,1),(1,1)] [.int .i64 0,.int .i64 0]:=⟨by kernel_rfl,by kernel_rfl⟩
theorem aah:qJ prog 47 [(0,1),(1,1),(2,1),(3,2)] [.int .i64 0,.int .i64 0,.string ⟨#[]⟩,.int .i64 0,.int .i64 0]:=⟨by kernel_rfl,by kernel_rfl⟩
theorem VF:∀ args w,(callFunc 18 args).run prog w=.ok (.enter 18 args) w:=enters func18 rfl (by kernel_rfl)
def Nv (n:Nat):Prop:=∀ (fv:aj) (Gi:GH) (xs:List AP) (J:Nat→GH→OL→Prop) (G:GH) (L:OL) (w0:World) (j:Nat) (g:Int) (l:List au) (v:aj),
 (∀ b o,Gi b=some o→G b=some o)→Ti prog fv Gi xs J→Dx J→J j G L→gZ G L w0→ay G (.sl 11 (l.map au.dat)) v→dQ l→bg l < n→(∀ i a,(dX g 0 l)[i]?=some a→xs[j+i]?=some (DR a)) →
 Calls prog 34 #[vi g,v,fv] w0 (gI w0 G L fun _ G' L'=>J (j+(dX g 0 l).length) G' L')
set_option maxHeartbeats 4000000 in
theorem abP {n:Nat} (ih:Nv n) (hn:n≤4294967296):Nv (n+1):=by
 intro fv Gi xs J G L w0 j0 g l v hGi hcb wh hJ0 hO hv hok hz hx0;obtain ⟨A,c,rfl,hc1,hc2,hg⟩:=hv.slice;rw [bV] at *;have hll:=Ak l;have hml:maxLen=9223372036854775807:=rfl;refine jZ (N:=83) (T:=[(0,_),(1,_),(2,_)]) func34 rfl ntmps34 rfl rfl hO ?_;intro a H;refine kP H (SR fun _ K1=>ak K1 rfl (SR fun _ K2=>Rm rfl (Rl dZ rfl (Rm rfl (Kz K2 (SB ?_))))));clear H K1 K2;intro a H;skip;refine eU (ι:=Nat × Nat × Nat × OL × GH) (Tc:=[(0,_),(1,_),(2,_),(15,_),(16,_)]) (Lc:=[]) (fun gh=>[(6,vi gh.2.1),(17,vi gh.1)]) (fun gh=>[]++gh.2.2.2.1) (fun gh=>gh.2.2.2.2) (fun gh=>gh.1≤l.length∧(∀ b o,G b=some o→gh.2.2.2.2 b=some o)∧dQ (l.drop gh.1)∧gh.2.1+bg (l.drop gh.1)≤4294967297∧Now xs DR J (j0+(dX g 0 l).length) gh.2.2.1 (dX g gh.2.1 (l.drop gh.1)) gh.2.2.2.2 gh.2.2.2.1) (fun gh=>l.length - gh.1) ((0,0,j0,L,G)) (by exact (H).sub ⟨rfl,rfl,rfl,rfl,rfl,rfl,rfl,aB⟩) ?_ ?_
 ·exact ⟨by omega,fun _ _ h=>h,hok,by dsimp only;rw [vP];omega,⟨hJ0,hx0,rfl⟩⟩
 clear H;intro gh a w hI H;obtain ⟨k,t,j,Lt,g1⟩:=gh;dsimp only at hI H;obtain ⟨hk,hgm,hok1,hat,eP⟩:=hI;dsimp only [lca,bG] at H;refine kP H (SR fun _ K3=>Rc rfl (Kz K3 (SQ fun _ K4=>Cd rfl ?_ ?_))) <;> clear H K3
 ·intro h18 a H
  try have rV:=dT h18
  have hk2:k < l.length:=by omega
  obtain ⟨b,o,pA,pn,pc,dA,dn,dc,yA,yn,yc,fA,fn,fc,rA,rn,rc,rfl,hrow,hhd,hfl,hrw⟩:=vY hk2 hg;replace hrow:=fun j u hj=>aO hgm (hrow j u hj);replace hfl:=hfl.mono hgm;replace hrw:=hrw.mono hgm;have hpart:=(hv.mono hgm).part k (k+1) (by omega) (by rw [bV];omega)
  have he1:((l.map au.dat).drop k).take 1=[l[k]].map au.dat:=by rw [kZ (by simpa using hk2)];simp
  have hc3:¬ c=k:=by omega
  have hrn:=hrw.len;rw [bV] at hrn;subst hrn;have hzs:=aaU hk2;have hzi:=oF l[k];have Gg:=Hu (iF hk2);have Ev:=Rp l[k];rw [kZ hk2] at hok1 eP;obtain ⟨hox,hok2⟩:=hok1.head;have hn1:=hox.n1;rw [dX,NU] at eP;obtain ⟨x,hx⟩:∃ x,x=l[k]:=⟨_,rfl⟩;rw [← hx] at eP hox hrow hhd hfl hrw hzs hzi Gg Ev he1 hn1;have hrl:=E9 x.rows;refine kP H (Kc K4 (SQ fun _ K5=>SB (SR fun _ K6=>Rm rfl (Ri dZ bW rfl rfl ?_))));clear H K4;intro a H;refine bJ bW (cs:=[_,_,_,_,_,_,_,_,_,_,_]) H wn rfl rfl (fun j v hj=>H.hp.aJ (hrow j v hj)) rfl ?_;clear H;intro a H;refine eB bW H wn rfl ?_;clear H;intro b8 a w I4 H;refine kH H (Ra rfl ?_);clear H;intro a H;refine bM bW 0 (vs:=[_,_,_,_,_,_,_,_,_,_,_]) _ H wn rfl rfl rfl rfl rfl rfl rfl rfl ?_;clear H;intro w H;dsimp only [List.set,setRow] at H;refine K6 _ _ ?_;clear K6;refine pE (ι:=Nat × OL × GH) (Tc:=[(0,_),(1,_),(2,_),(6,_),(7,_),(15,_),(16,_),(17,_)]) (Lc:=[(_,_)]) (fun gh=>[]) (fun gh=>[]++gh.2.1) (fun gh=>gh.2.2) (fun gh=>(∀ b o,g1 b=some o→gh.2.2 b=some o)∧Now xs DR J (j0+(dX g 0 l).length) gh.1 (dX g (t+n1 x) (l.drop (k+1))) gh.2.2 gh.2.1) (by exact (H).sub ⟨rfl,rfl,rfl,rfl,rfl,rfl,rfl,rfl,aB⟩) ?_ ?_
  ·skip;refine kP H (SR fun _ K7=>aT gV aH 0 rfl rfl (Kz K7 (SB (SR fun _ K8=>Rc rfl (ak K8 rfl (Cd rfl ?_ ?_)))))) <;> clear H K7 K8
   ·intro dU a H
    try have kr:=dT dU
    rw [av kr,ah (by omega),ah (by omega)] at eP
    simp only [mG,jP] at eP
    refine kP H (SC (Rm rfl (aT D6 aH 0 rfl rfl (aT zL aH 0 rfl rfl (aT pG fV 0 rfl rfl (Rm rfl (Rm rfl ?_)))))));clear H;intro a H;refine jR Sk [_,_] H wn rfl rfl rfl rfl ?_;clear H;intro a H;refine jR aah [_,_,_,_,_] H wn rfl rfl rfl rfl ?_;clear H;intro a H;refine GN (Li:=[_]) (L:=Lt) H wn rfl rfl (hcb _ _ _ _ _ ⟨_,eP.head,rfl⟩ (fun b o h=>hgm b o (hGi b o h)) eP.now (Hp.owns (Li:=[_]) H.hp)) rfl ?_;clear H;intro v37 Tt abo a w agT ahJ H;have sP:=eP.step agT;refine aG ?_;refine ⟨(j+1,abo,Tt),by exact (H).sub ⟨rfl,rfl,rfl,rfl,rfl,rfl,rfl,rfl,aB⟩,?_⟩;(try dsimp only);exact ⟨ahJ,sP⟩
   intro dU a H
   try have kr:=dF dU
   rw [ah kr,jP,nE] at eP;refine kP H (SR fun _ K9=>Rc rfl (ak K9 rfl (Cd rfl ?_ ?_))) <;> clear H K9
   ·intro pI a H
    try have p38:=dT pI
    rw [av p38,ah (by omega),jP] at eP;refine kP H (SC (aT zL aH 0 rfl rfl (aT vX gT 0 rfl rfl (Rm rfl ?_))));clear H;intro a H;refine gY OP (Li:=[_]) (L:=Lt) H wn rfl (ih fv Gi xs J _ _ _ j x.id x.flow _ (fun b o h=>hgm b o (hGi b o h)) hcb wh eP.now (Hp.owns (Li:=[_]) H.hp) hfl hox.fl (by omega) eP.part) rfl ?_;clear H;intro v45 NC abp a w agU Qu H;have sP:=eP.jump agU;refine aG ?_;refine ⟨(j+(dX x.id 0 x.flow).length,abp,NC),by exact (H).sub ⟨rfl,rfl,rfl,rfl,rfl,rfl,rfl,rfl,aB⟩,?_⟩;(try dsimp only);exact ⟨Qu,sP⟩
   intro pI a H
   try have p38:=dF pI
   rw [ah p38,jP] at eP;refine kP H (SR fun _ aQ=>Rc rfl (ak aQ rfl (Cd rfl ?_ ?_))) <;> clear H aQ
   ·intro h46 a H
    try have p46:=dT h46
    rw [av p46] at eP;refine kP H (SR fun _ bH=>aT nG nU 0 rfl rfl (Rl lD rfl (Rm rfl (Kz bH (SB ?_)))));clear H bH;intro a H;skip;refine eU (ι:=Nat × Nat × OL × GH) (Tc:=[(0,_),(1,_),(2,_),(6,_),(7,_),(15,_),(16,_),(17,_),(49,_),(50,_)]) (Lc:=[(_,_)]) (fun gh=>[(51,vi gh.1)]) (fun gh=>[]++gh.2.2.1) (fun gh=>gh.2.2.2) (fun gh=>gh.1≤x.rows.length∧(∀ b o,g1 b=some o→gh.2.2.2 b=some o)∧Now xs DR J (j0+(dX g 0 l).length) gh.2.1 (lH (x.rows.drop gh.1)++dX g (t+n1 x) (l.drop (k+1))) gh.2.2.2 gh.2.2.1) (fun gh=>x.rows.length - gh.1) ((0,j,Lt,g1)) (by exact (H).sub ⟨rfl,rfl,rfl,rfl,rfl,rfl,rfl,rfl,rfl,rfl,rfl,aB⟩) ?_ ?_
    ·exact ⟨by omega,fun _ _ h=>h,eP⟩
    clear H;intro gh a w hI H;obtain ⟨rk,j3,Lt3,g3⟩:=gh;dsimp only at hI H;obtain ⟨Jo,hg3,sP⟩:=hI;dsimp only [lca,bG] at H;refine kP H (SR fun _ bL=>Rc rfl (Kz bL (SQ fun _ bR=>Cd rfl ?_ ?_))) <;> clear H bL
    ·intro lT a H
     try have p52:=dT lT
     have hk3:rk < x.rows.length:=by omega
     obtain ⟨b2,o2,qA,qn,qc,eA,en,ec,zA,zn,zc,cA,cn,cc,rfl,hrow,yL,hcl⟩:=GJ hk3 (hrw.mono hg3).at_;have hcn:=hcl.len;rw [bV] at hcn;subst hcn;have hsz2:=J9 hk3;have hcs:=E5 x.rows[rk].cells;have hoc:=hox.rw _ (iF hk3);rw [kZ hk3] at sP
     simp only [lH,Uq,nE] at sP
     obtain ⟨y,hy⟩:∃ y,y=x.rows[rk]:=⟨_,rfl⟩;rw [← hy] at sP hrow yL hcl hsz2 hcs hoc;refine kP H (Kc bR (SQ fun _ bQ=>SB (SR fun _ dJ=>Ri lD jM rfl rfl ?_)));clear H bR;intro a H;refine bJ jM (cs:=[_,_,_,_,_,_]) H wn rfl rfl (fun j v hj=>H.hp.aJ (hrow j v hj)) rfl ?_;clear H;intro a H;refine eB jM H wn rfl ?_;clear H;intro b10 a w Qi H;refine bM jM 0 (vs:=[_,_,_,_,_,_]) _ H wn rfl rfl rfl rfl rfl rfl rfl rfl ?_;clear H;intro w H;dsimp only [List.set,setRow] at H;refine dJ _ _ ?_;clear dJ;refine kP H (SR fun _ dO=>aT sK tH 0 rfl rfl (Rl oP rfl (Rm rfl (Kz dO (SB ?_)))));clear H dO;intro a H;skip;refine eU (ι:=Nat × Nat × OL × GH) (Tc:=[(0,_),(1,_),(2,_),(6,_),(7,_),(15,_),(16,_),(17,_),(49,_),(50,_),(51,_),(56,_),(57,_)]) (Lc:=[(_,_),(_,_)]) (fun gh=>[(58,vi gh.1)]) (fun gh=>[]++gh.2.2.1) (fun gh=>gh.2.2.2) (fun gh=>gh.1≤y.cells.length∧(∀ b o,g3 b=some o→gh.2.2.2 b=some o)∧Now xs DR J (j0+(dX g 0 l).length) gh.2.1 (nX (y.cells.drop gh.1)++(lH (x.rows.drop (rk+1))++dX g (t+n1 x) (l.drop (k+1)))) gh.2.2.2 gh.2.2.1) (fun gh=>y.cells.length - gh.1) ((0,j3,Lt3,g3)) (by exact (H).sub ⟨rfl,rfl,rfl,rfl,rfl,rfl,rfl,rfl,rfl,rfl,rfl,rfl,rfl,rfl,aB⟩) ?_ ?_
     ·exact ⟨by omega,fun _ _ h=>h,sP⟩
     clear H;intro gh a w hI H;obtain ⟨ck,j4,Lt4,g4⟩:=gh;dsimp only at hI H;obtain ⟨hck,hg4,uq⟩:=hI;dsimp only [lca,bG] at H;refine kP H (SR fun _ dK=>Rc rfl (Kz dK (SQ fun _ eO=>Cd rfl ?_ ?_))) <;> clear H dK
     ·intro iI a H
      try have p59:=dT iI
      have hk4:ck < y.cells.length:=by omega
      obtain ⟨b3,o3,sA,sn,sc,tA,tn,tc,uA,un,uc,gA,gn,gc,rfl,hrow,hch,hcf⟩:=FC hk4 (hcl.mono hg4).at_;have Jt:=J7 hk4;have xC:=hoc _ (iF hk4);rw [kZ hk4] at uq
      simp only [nX,Un,nE] at uq
      refine kP H (Kc eO (SQ fun _ gH=>SB (SR fun _ fE=>Ri oP ku rfl rfl ?_)));clear H eO;intro a H;refine bJ ku (cs:=[_,_,_,_,_,_,_]) H wn rfl rfl (fun j v hj=>H.hp.aJ (hrow j v hj)) rfl ?_;clear H;intro a H;refine eB ku H wn rfl ?_;clear H;intro b12 a w Bg H;refine bM ku 0 (vs:=[_,_,_,_,_,_,_]) _ H wn rfl rfl rfl rfl rfl rfl rfl rfl ?_;clear H;intro w H;dsimp only [List.set,setRow] at H;refine fE _ _ ?_;clear fE;refine kP H (SC (aT D8 aH 0 rfl rfl (aT Cm gT 0 rfl rfl (Rm rfl ?_))));clear H;intro a H;refine gY OP (Li:=[_,_,_]) (L:=Lt4) H wn rfl (ih fv Gi xs J _ _ _ j4 y.cells[ck].id y.cells[ck].flow _ (fun b o h=>hg4 b o (hg3 b o (hgm b o (hGi b o h)))) hcb wh uq.now (Hp.owns (Li:=[_,_,_]) H.hp) hcf xC (by omega) uq.part) rfl ?_;clear H;intro v67 G67 abq a w agV ahP H;have ahX:=uq.jump agV;refine kH H (Kn gH (SC (Rd rfl (Rm rfl ?_))));clear H gH;intro a H;refine aG ?_;refine dh ((ck+1,j4+(dX y.cells[ck].id 0 y.cells[ck].flow).length,abq,G67)) (by exact (H.dP (Pl:=[_,_,_]) (dD:=[_,_]) [1,2] (by decide) rfl).sub ⟨rfl,rfl,rfl,rfl,rfl,rfl,rfl,rfl,rfl,rfl,rfl,rfl,rfl,rfl,aB⟩) ?_ ?_
      ·(try dsimp only);exact ⟨by omega,fun b o h=>ahP b o (hg4 b o h),ahX⟩
      first|omega|(dsimp only;omega)
     intro iI a H
     try have p59:=dF iI
     refine dW ?_;refine bQ _ _ ?_;clear bQ;refine kP H (SC (Rd rfl (Rm rfl ?_)));clear H;intro a H;refine aG ?_;refine dh ((rk+1,j4,Lt4,g4)) (by exact (H.dP (Pl:=[_,_]) (dD:=[_]) [1] (by decide) rfl).sub ⟨rfl,rfl,rfl,rfl,rfl,rfl,rfl,rfl,rfl,rfl,rfl,aB⟩) ?_ ?_
     ·(try dsimp only);exact ⟨by omega,fun b o h=>hg4 b o (hg3 b o h),by rw [ig (by omega),nX,jP] at uq;exact uq⟩
     first|omega|(dsimp only;omega)
    intro lT a H
    try have p52:=dF lT
    refine dW ?_;refine ⟨(j3,Lt3,g3),by exact (H).sub ⟨rfl,rfl,rfl,rfl,rfl,rfl,rfl,rfl,aB⟩,?_⟩;(try dsimp only);exact ⟨hg3,by rw [ig (by omega),lH,jP] at sP;exact sP⟩
   intro h46 a H
   try have p46:=dF h46
   rw [ah p46,jP] at eP;refine fZ ?_;refine ⟨(j,Lt,g1),by exact (H).sub ⟨rfl,rfl,rfl,rfl,rfl,rfl,rfl,rfl,aB⟩,?_⟩;(try dsimp only);exact ⟨fun _ _ h=>h,eP⟩
  clear H;intro gh a w hI H;obtain ⟨j2,Lt2,g2⟩:=gh;dsimp only at hI H;obtain ⟨hg2,ahW⟩:=hI;dsimp only [lca,bG] at H;refine kP H (SR fun _ gL=>Rm rfl (Rm rfl (Rm rfl (Rd rfl ?_))));clear H;intro a H;refine alB dZ bW k (k+1) H wn rfl rfl rfl rfl (by omega) (by omega) (by omega) rfl ?_;clear H;intro a H;rw [ah hc3,Option.map_some,add_lit,Ii] at H;refine s_call VF H wn rfl (Yp _ _ H.ro [x] _ (by have h:=hpart;rw [ah hc3,Option.map_some,add_lit,Ii,he1] at h;exact h.mono hg2) (by show 1+dx x.dat+0≤_;omega)) rfl ?_;clear H;rintro v76 G76 a w ⟨rfl,rfl⟩ - H;rw [ajj] at H;refine kH H (Rm rfl ?_);clear H;intro a H;(iterate 2 refine jc H wn rfl rfl rfl ?_;clear H;intro a H);refine kH H (Ra rfl (ak gL rfl (SC (Rm rfl (Rm rfl (Rd rfl (aU K5 rfl (SC (Rd rfl (Rm rfl ?_))))))))));clear H gL K5;intro a H;refine aG ?_;refine dh ((k+1,t+n1 x,j2,Lt2,g2)) (by exact (H.dP (Pl:=[_]) (dD:=[]) [] (by decide) rfl).sub ⟨rfl,rfl,rfl,rfl,rfl,rfl,rfl,aB⟩) ?_ ?_
  ·(try dsimp only);exact ⟨by omega,fun b o h=>hg2 b o (hgm b o h),hok2,by omega,ahW⟩
  first|omega|(dsimp only;omega)
 intro h18 a H
 try have rV:=dF h18
 refine dW ?_;refine (leave0 H results34 ?_).2;exact H.hp.iy (L':=Lt) (by repeat (first|exact iV _|apply List.Sublist.cons)) (by rw [ig (by omega),dX] at eP;have:=eP.len;simp only [List.length_nil,tQ] at this;rw [← this];exact eP.now)
theorem UE:∀ n:Nat,n≤4294967297→Nv n
 | 0,_=>fun _ _ _ _ _ _ _ _ _ _ _ _ _ _ _ _ _ _ h=>absurd h (by omega)
 | n+1,hn=>abP (UE n (by omega)) (by omega)
end
section
open Go.RowKit
theorem zN {G:GH} {b:Nat} {cs:List aj} {e:TypeId} {q:Nat × Nat} (h:G b=some (.cells cs.toArray e q)) (k:Nat) (ds:List aj) (hd:ds=(cs.drop k).take ds.length) (j:Nat) (v:aj) (hj:ds[j]?=some v):aJ G b (k+j)=some v:=by
 unfold aJ
 rw [h]
 show cs.toArray[k+j]?=some v
 rw [hd,uK] at hj
 split at hj
 ·simpa using hj
 cases hj
end
section
open Go.RowKit
theorem ny:prog.underlying 41=some (.slice 47):=by kernel_rfl
theorem jX:Ty prog 47 5 48 [.int .i64 0,.int .i64 0,.string ⟨#[]⟩,.int .i64 0,.int .i64 0] true:=⟨by kernel_rfl,by kernel_rfl⟩
theorem Ni:Ty prog 41 1 24 [.slice none 0 0] false:=⟨by kernel_rfl,by kernel_rfl⟩
theorem Nj:prog.underlying 129=some (.map 134 47):=by kernel_rfl
theorem IL:cB prog 47 0 0:=⟨by kernel_rfl⟩
theorem Cj:cB prog 47 1 1:=⟨by kernel_rfl⟩
theorem Sj:qJ prog 134 [(0,1),(1,1)] [.int .i64 0,.int .i64 0]:=⟨by kernel_rfl,by kernel_rfl⟩
theorem Nf:Ty prog 134 2 16 [.int .i64 0,.int .i64 0] true:=⟨by kernel_rfl,by kernel_rfl⟩
theorem aeN:∀ args w,(callFunc 35 args).run prog w=.ok (.enter 35 args) w:=enters func35 rfl (by kernel_rfl)
def rE (l:List bP):List aj:=(l.map bP.cells).flatten
theorem abD {l:List bP} {k:Nat} (hk:k < l.length):rE (l.take (k+1))=rE (l.take k)++l[k].cells:=by
 unfold rE
 rw [jg hk,kL,List.flatten_append]
 simp
theorem N7 (G:GH):∀ l:List bP,eY G 5 (l.map bP.dat) (rE l)
 | []=>eY.nil
 | x :: l=>by
  have h1:eY G 5 [x.dat] x.cells:=by
   have:=(eY.nil (G:=G) (sz:=5)).snoc (q:=x.dat) (cs:=x.cells) (abF G x) rfl
   simpa using this
  rw [fu,← List.singleton_append];exact h1.append (N7 G l)
def Ui (bo:Nat) (A:List bP):Nat→GH→OL→Prop:=fun k _ L=>k≤A.length∧∃ v Lo,L=(bo,.cells #[v] 41 (0,0)) :: Lo∧dz 47 5 v k (rE (A.take k)) Lo
theorem ajq (Gi:GH) (bo:Nat) (A:List bP) (hA:A.length≤4294967296):Ti prog (.func (.func 35) #[] #[(aI bo 0)]) Gi (A.map DR) (Ui bo A):=by
 rintro k args G L w0 ⟨p,hp,hargs⟩ hGi ⟨-,v,Lo,rfl,hrw⟩ hO;rw [qm] at hp;obtain ⟨x,hx,rfl⟩:=lY.1 hp;obtain ⟨hk,hxe⟩:=jm.1 hx;have ha:args=[x.val]:=hargs;subst ha;obtain ⟨vA,vc,rfl,-,-⟩:=hrw.shape;have hml:maxLen=9223372036854775807:=rfl;refine lN (caps:=[(aI bo 0)]) aeN ?_;refine jZ (N:=7) (T:=[(0,_),(1,_)]) func35 rfl ntmps35 rfl rfl hO ?_;intro a H;refine dH (fun _ K1=>?_);refine fC (cs:=[_,_,_,_,_]) H wn rfl rfl rfl ?_;clear H;intro b2 a w hb2 H;refine K1 _ _ ?_;clear K1;refine kP H (SC (Ro Ni 1 rfl ?_));clear H;intro a H;refine bJ jX (cs:=[_,_,_,_,_]) H wn rfl rfl (H.hp.dL 0 rfl rfl) rfl ?_;clear H;intro a H;refine gX ny jX [_,_,_,_,_] [_,_,_,_,_] H wn rfl rfl rfl rfl rfl (by intro i q h;match i,h with|0,h=>exact h|n+1,h=>simp at h) rfl rfl ?_;clear H;intro b5 a w hb5 H;refine oz (Li:=[_,_,_]) (Lo:=Lo) (news:=x.cells) ny jX rfl rfl H wn rfl rfl hrw rfl (H.hp.dL 0 rfl rfl) rfl (by omega) (by omega) rfl ?_;clear H;intro v6 Ug a w XK H;obtain ⟨J4,J5,rfl,-,-⟩:=XK.shape;refine bM Ni 2 (vs:=[_]) _ H wn rfl rfl rfl rfl rfl rfl rfl rfl ?_;clear H;intro w H;dsimp only [List.set,setRow] at H;refine aG ?_;refine (leave0 H results35 ?_).2;exact H.hp.iy (L':=(bo,.cells #[.slice J4 (k+1) J5] 41 (0,0)) :: Ug) (by repeat (first|exact iV _|apply List.Sublist.cons)) ⟨hk,_,Ug,rfl,by rw [abD hk,hxe];exact XK⟩
theorem ajr (G:GH) (w0:World) (hG:Hold G w0) (D:nA) (l:List au) (hv:ay G (.sl 11 (l.map au.dat)) (fD D.f)) (hok:dQ l) (hz:bg l≤4294967296) :
  Calls prog 11 #[D.val] w0 (bq w0 G fun u G'=>ay G' (.sl 5 ((dX 0 0 l).map bP.dat)) u):=by
 have hn:=Au 0 0 l;refine eN [(0,_)] func11 rfl ntmps11 rfl rfl hG ?_;intro a H;refine dH (fun _ K1=>?_);refine fC (cs:=[_,_,_,_,_,_,_,_,_,_,_]) H wn rfl rfl rfl ?_;clear H;intro b1 a w hb1 H;refine kH H (ak K1 rfl (SQ fun _ K2=>?_));clear H K1;intro a H;obtain ⟨Ga,hma,hb',H⟩:=H.eu;have hga:=fun j v hj=>zN hb' 0 D.cells rfl j v hj;replace hv:=hv.mono hma;refine oH ?_;refine eB Ni H wn rfl ?_;clear H;intro b3 a w hb3 H;refine kH H (Kn K2 (SR fun _ K3=>Rf Ci rfl (Rg gT rfl (hga 0 _ rfl) ?_)));clear H K2;intro a H;refine qW H wn rfl rfl ?_;clear H;intro a H;refine gY OP (Li:=[]) (L:=[(b3,.cells #[.slice none 0 0] 41 (0,0))]) H wn rfl (UE 4294967297 (by omega) _ Ga ((dX 0 0 l).map DR) (Ui b3 (dX 0 0 l)) _ _ _ 0 0 l _ (fun _ _ h=>h) (ajq Ga b3 (dX 0 0 l) (by omega)) (fun _ _ _ _ _ h=>h) ⟨iB _,_,[],rfl,dz.nil⟩ (Hp.owns (Li:=[]) H.hp) hv hok (by omega) (fun i a h=>by rw [jh,qm,h];rfl)) rfl ?_;clear H;rintro v7 G7 L7 a w ⟨-,v,Lo,rfl,hrw⟩ Bo H;rw [jh,wS] at hrw;dsimp only [List.nil_append] at H;refine K3 _ _ ?_;clear K3;refine kP H (SR fun _ K4=>Ro Ni 0 rfl (ak K4 rfl ?_));clear H K4;intro a H;refine lr H results11 rfl ?_;obtain ⟨Gr,hmr,hrep,H⟩:=St.um (Li:=[_]) H hrw (rows:=(dX 0 0 l).map bP.dat) (by simp) (N7 _ _);exact H.rt hrep
theorem Lb:Am prog 134 [0,1]:=⟨by kernel_rfl,by kernel_rfl,by kernel_rfl,by kernel_rfl,by kernel_rfl⟩
def BS:bP:=⟨0,0,⟨#[]⟩,0,0⟩
theorem Q6 {acc:List ((Int × Int) × aj)} {l:List bP} (h:vK acc l) (p:Int × Int):(nu p acc).getD BS.val=((mI l p.1 p.2).getD BS).val:=by
 rw [h p];cases mI l p.1 p.2 <;> rfl
theorem Ik {G:GH} {A:List bP} {v:Option Addr} {n c k:Nat} (h:ay G (.sl 5 (A.map bP.dat)) (.slice v n c)) (hk:k < A.length):∃ b o,v=some ⟨b,o,none⟩∧∀ j u,A[k].cells[j]?=some u→aJ G b (o+k*5+j)=some u:=by
 obtain ⟨b,o,cs,rfl,hcl,hrow,hr⟩:=h.at_ k A[k].dat (by simp [hk]);obtain rfl:=Uy hr;exact ⟨b,o,rfl,hrow⟩
set_option maxHeartbeats 1000000 in
theorem agn (G:GH) (w0:World) (hG:Hold G w0) (A:List bP) (v:aj) (hv:ay G (.sl 5 (A.map bP.dat)) v) (hl:A.length≤4294967296) :
  Calls prog 51 #[v] w0 (bq w0 G fun u G'=>∃ b acc,u=.map (some b)∧G' b=some (CV acc)∧vK acc A):=by
 obtain ⟨vA,n,c,rfl⟩:=hv.form;have hn:=hv.len;rw [bV] at hn;subst hn;have hml:maxLen=9223372036854775807:=rfl;refine eN [(0,_)] func51 rfl ntmps51 rfl rfl hG ?_;intro a H;refine kP H (SR fun _ K1=>ak K1 rfl (SR fun _ K2=>?_));clear H K1;intro a H;refine EN H wn rfl ?_;clear H;intro b9 a w yH H;refine kH H (ak K2 rfl (SQ fun _ K3=>SR fun _ K4=>Rm rfl (Rl ny rfl (Rm rfl (Kz K4 (SB ?_))))));clear H K2 K4;intro a H;skip;refine eU (ι:=Nat × List ((Int × Int) × aj)) (Tc:=[(3,_),(10,_),(11,_)]) (Lc:=[]) (fun (gh:Nat × List ((Int × Int) × aj))=>[(12,vi gh.1)]) (fun (gh:Nat × List ((Int × Int) × aj))=>[(b9,CV gh.2)]) (fun (gh:Nat × List ((Int × Int) × aj))=>G) (fun (gh:Nat × List ((Int × Int) × aj))=>gh.1≤A.length∧vK gh.2 (A.take gh.1)) (fun (gh:Nat × List ((Int × Int) × aj))=>A.length - gh.1) ((0,[])) (by exact (H).sub ⟨rfl,rfl,rfl,rfl,aB⟩) ?_ ?_
 ·exact ⟨iB _,vK.nil⟩
 clear H;intro gh a w hI H;obtain ⟨k,acc⟩:=gh;dsimp only at hI H;obtain ⟨hk,hfm⟩:=hI;dsimp only [lca,bG] at H;refine kP H (SR fun _ K5=>Rc rfl (Kz K5 (SQ fun _ K6=>Cd rfl ?_ ?_))) <;> clear H K5
 ·intro gB a H
  try have qV:=dT gB
  have hk2:k < A.length:=by omega
  obtain ⟨b,o,rfl,hrow⟩:=Ik hv hk2;refine kP H (Kc K6 (SQ fun _ K7=>SB (SR fun _ K8=>Ri ny jX rfl rfl ?_)));clear H K6;intro a H;refine bJ jX (cs:=A[k].cells) H wn rfl rfl (fun j v hj=>H.hp.aJ (hrow j v hj)) rfl ?_;clear H;intro a H;refine eB jX H wn rfl ?_;clear H;intro b5 a w hb5 H;refine bM jX 0 (vs:=[_,_,_,_,_]) _ H wn rfl rfl rfl rfl rfl rfl rfl rfl ?_;clear H;intro w H;dsimp only [List.set,setRow] at H;refine K8 _ _ ?_;clear K8;refine kP H (SR fun _ K9=>aT IL aH 0 rfl rfl (aT Cj aH 0 rfl rfl ?_));clear H;intro a H;refine jR Sj [_,_] H wn rfl rfl rfl rfl ?_;clear H;intro a H;refine eB Nf H wn rfl ?_;clear H;intro b6 a w hb6 H;refine bM Nf 0 (vs:=[_,_]) _ H wn rfl rfl rfl rfl rfl rfl rfl rfl ?_;clear H;intro w H;dsimp only [List.set,setRow] at H;refine K9 _ _ ?_;clear K9;refine kP H (SR fun _ aQ=>Rm rfl ?_);clear H;intro a H;refine bJ Nf (cs:=[_,_]) H wn rfl rfl (H.hp.dL 0 rfl rfl) rfl ?_;clear H;intro a H;refine ZL (ky:=(A[k].code,A[k].id)) (zv:=BS.val) (l:=acc) Nj Lb (by kernel_rfl) H wn rfl rfl (H.hp.own (b9,CV acc) (by simp)) rfl ?_;clear H;intro a H;rw [Q6 hfm] at H;refine kH H (Rm rfl ?_);clear H;intro a H;(iterate 2 refine jc H wn rfl rfl rfl ?_;clear H;intro a H);refine eB jX H wn rfl ?_;clear H;intro b7 a w Em H;refine bM jX 0 (vs:=[_,_,_,_,_]) _ H wn rfl rfl rfl rfl rfl rfl rfl rfl ?_;clear H;intro w H;dsimp only [List.set,setRow] at H;refine kH H (ak aQ rfl (SR fun _ bH=>Rm rfl (Rn rfl (Kz bH (Cd rfl ?_ ?_))))) <;> clear H aQ bH
  ·intro fH a H
   try have p28:=dT fH
   have hnone:nu (A[k].code,A[k].id) acc=none:=by simpa using fH
   refine kP H (SC (Rm rfl ?_));clear H;intro a H;refine bJ Nf (cs:=[_,_]) H wn rfl rfl (H.hp.dL 1 rfl rfl) rfl ?_;clear H;intro a H;refine bJ jX (cs:=[_,_,_,_,_]) H wn rfl rfl (H.hp.dL 2 rfl rfl) rfl ?_;clear H;intro a H;refine aly (i:=3) (l:=acc) (ky:=(A[k].code,A[k].id)) (v:=A[k].val) Nj Lb H wn rfl rfl rfl rfl hnone ?_;clear H;intro w H;dsimp only [List.set] at H;refine kH H (Kn K7 (SC (Rd rfl (Rm rfl ?_))));clear H K7;intro a H;refine aG ?_;refine dh ((k+1,acc++[((A[k].code,A[k].id),A[k].val)])) (by exact (H.dP (Pl:=[_,_,_,_]) (dD:=[_]) [3] (by decide) rfl).sub ⟨rfl,rfl,rfl,rfl,aB⟩) ?_ ?_
   ·(try dsimp only);exact ⟨by omega,hfm.new hk2 hnone⟩
   first|omega|(dsimp only;omega)
  intro fH a H
  try have p28:=dF fH
  refine kP H (Kc K7 (SC (Rd rfl (Rm rfl ?_))));clear H K7;intro a H;refine aG ?_;refine dh ((k+1,acc)) (by exact (H.dP (Pl:=[_,_,_,_]) (dD:=[_]) [3] (by decide) rfl).sub ⟨rfl,rfl,rfl,rfl,aB⟩) ?_ ?_
  ·(try dsimp only);exact ⟨by omega,hfm.old hk2 (by simpa using fH)⟩
  first|omega|(dsimp only;omega)
 intro gB a H
 try have qV:=dF gB
 obtain rfl:k=A.length:=by omega
 rw [wS] at hfm;refine dW ?_;refine K3 _ _ ?_;clear K3;refine kP H (SR fun _ bL=>Rm rfl (ak bL rfl ?_));clear H bL;intro a H;refine lr H results51 rfl ?_;obtain ⟨Gr,hmr,hbr,H⟩:=H.eu;exact H.rt ⟨_,acc,rfl,hbr,hfm⟩
end
section
open Go.RowKit
def jG (xs:Array aj) (o:Nat × Nat):Option (Int × Int × List UInt8):=match o.2 with
 | 0=>(jQ xs o.1).map fun n=>(n,0,[])
 | 1=>match xs[o.1]? with|some (.string s)=>some (0,0,s.toList)|_=>none
 | _=>match jQ xs o.1,jQ xs (o.1+1) with|some a,some b=>some (a,b,[])|_,_=>none
def Zb (P:Program) (t:TypeId):Bool:=!P.stoodInHeld t && decide ((P.fieldsOf t).toList.map (·.offset)=[0,1]) && ((P.fieldsOf t).toList.all fun f=>decide (f.name ≠ "_") && P.plainKey f.type && JB (P.underlying f.type)) && decide (P.cellsOf t=2) && (P.info? t).isSome
def yT (P:Program) (t:TypeId):Nat:=match P.underlying t with|some (.int .i64)=>0|some .string=>1|some (.struct _)=>2|_=>3
def RA (P:Program) (t:TypeId):Bool:=match yT P t with|0=>P.plainKey t|1=>P.plainKey t|2=>Zb P t|_=>false
structure Kg (P:Program) (t:TypeId) (fM:List (Nat × Nat)):Prop where
 und:P.underlying t=some (.struct (P.fieldsOf t))
 held:P.stoodInHeld t=false
 guard:P.eqGuardType P.depth t=false
 uX:(P.fieldsOf t).toList.map (fun f=>(f.offset,yT P f.type))=fM
 ok:(P.fieldsOf t).toList.all (fun f=>decide (f.name ≠ "_") && RA P f.type)=true
theorem amI {P:Program} {t:TypeId} {fs:Array Field} (h:P.underlying t=some (.struct fs)):P.underlying t=some (.struct (P.fieldsOf t)):=by
 rw [h]
 simp [Program.fieldsOf,h]
theorem ZF {P:Program} (w:World) {t:TypeId} {fs:Array Field} (hu:P.underlying t=some (.struct fs)) {i:TypeInfo} (hi:P.info? t=some i) (hc:P.cellsOf t=2) (xs:Array aj) (off:Nat):(part t xs off).run P w=.ok (.agg (xs.extract off (off+2))) w:=by
 unfold part
 simp [isAgg,cZ,run_underlying hu,run_sizeOf w hi,hc]
theorem LC {xs:Array aj} {o:Nat} {n:Int} (h:jQ xs o=some n):xs[o]?=some (.int .i64 n):=by
 unfold jQ at h
 split at h
 ·rename_i hx;cases h;exact hx
 ·cases h
theorem WS {xs:Array aj} {off:Nat} {a b:Int} (h1:jQ xs off=some a) (h2:jQ xs (off+1)=some b):jQ (xs.extract off (off+2)) 0=some a∧jQ (xs.extract off (off+2)) 1=some b:=by
 have e1:=LC h1
 have e2:=LC h2
 have hl:off+1 < xs.size:=(Array.getElem?_eq_some_iff.1 e2).1
 constructor
 ·unfold jQ
  rw [Array.getElem?_extract,av (by omega),tQ,e1]
 ·unfold jQ
  rw [Array.getElem?_extract,av (by omega),e2]
theorem RX {P:Program} {w:World} {d:Nat} {xs ys:Array aj}:∀ fs:List Field,fs.all (fun f=>decide (f.name ≠ "_") && RA P f.type)=true →
  (fs.map (fun f=>(f.offset,yT P f.type))).all (fun o=>(jG xs o).isSome && (jG ys o).isSome)=true→(Op.eqFields (d+2) xs ys fs).run P w=.ok ((fs.map (fun f=>(f.offset,yT P f.type))).all fun o=>jG xs o == jG ys o) w
 | [],_,_=>by simp [Op.eqFields]
 | f :: fs,h1,h2=>by
  simp only [List.all_cons,lK,qo,fu] at h1 h2
  obtain ⟨⟨hn,hk⟩,h1⟩:=h1
  obtain ⟨⟨hx,hy⟩,h2⟩:=h2
  have ih:=RX (w:=w) (d:=d) fs (by simpa using h1) h2
  have fin:∀ (x y:aj) (r:Bool),(part f.type xs f.offset).run P w=.ok x w→(part f.type ys f.offset).run P w=.ok y w→(Op.equalIn (d+2) f.type x y).run P w=.ok r w→(jG xs (f.offset,yT P f.type) == jG ys (f.offset,yT P f.type))=r →
    (Op.eqFields (d+2) xs ys (f :: fs)).run P w=.ok (((f :: fs).map (fun f=>(f.offset,yT P f.type))).all fun o=>jG xs o == jG ys o) w:=by
   intro x y r p1 p2 p3 p4
   simp only [Op.eqFields,hn,ne_eq,not_false_eq_true,if_true,cZ,p1,p2,jT,p3,fu,List.all_cons,p4]
   cases r with
   | true=>simp [ih,List.all_map]
   | false=>simp
  unfold RA at hk
  rcases hkd:yT P f.type with _|_|_|n
  ·rw [hkd] at hk hx hy
   have hu:P.underlying f.type=some (.int .i64):=by unfold yT at hkd;split at hkd <;> first|assumption|cases hkd
   obtain ⟨m,hm⟩:∃ m,jQ xs f.offset=some m:=by cases h:jQ xs f.offset with|some m=>exact ⟨m,rfl⟩|none=>simp [jG,h] at hx
   obtain ⟨m2,hm2⟩:∃ m,jQ ys f.offset=some m:=by cases h:jQ ys f.offset with|some m=>exact ⟨m,rfl⟩|none=>simp [jG,h] at hy
   refine fin _ _ _ (run_part_plain w hk (LC hm)) (run_part_plain w hk (LC hm2)) (run_equalIn_int w (d+1) f.type .i64 .i64 m m2 hu) ?_
   rw [hkd,og]
   simp [jG,hm,hm2]
  ·rw [hkd] at hk hx hy
   have hu:P.underlying f.type=some .string:=by unfold yT at hkd;split at hkd <;> first|assumption|cases hkd
   obtain ⟨m,hm⟩:∃ m,xs[f.offset]?=some (.string m):=by
    simp only [jG] at hx
    split at hx
    ·rename_i s hs;exact ⟨s,hs⟩
    ·cases hx
   obtain ⟨m2,hm2⟩:∃ m,ys[f.offset]?=some (.string m):=by
    simp only [jG] at hy
    split at hy
    ·rename_i s hs;exact ⟨s,hs⟩
    ·cases hy
   refine fin _ _ _ (run_part_plain w hk hm) (run_part_plain w hk hm2) (run_equalIn_string w (d+1) f.type m m2 hu) ?_
   rw [hkd,og]
   simp [jG,hm,hm2]
  ·rw [hkd] at hk hx hy
   obtain ⟨gs,hu⟩:∃ gs,P.underlying f.type=some (.struct gs):=by
    unfold yT at hkd
    split at hkd
    ·cases hkd
    ·cases hkd
    ·rename_i gs hg;exact ⟨gs,hg⟩
    ·cases hkd
   simp only [Zb,lK,tV,qo] at hk
   obtain ⟨⟨⟨⟨k1,k2⟩,k3⟩,k4⟩,k5⟩:=hk
   obtain ⟨inf,Xj⟩:=Option.isSome_iff_exists.1 k5
   obtain ⟨a,b,ha,hb⟩:∃ a b,jQ xs f.offset=some a∧jQ xs (f.offset+1)=some b:=by
    simp only [jG] at hx
    split at hx
    ·rename_i a b h1 h2;exact ⟨a,b,h1,h2⟩
    ·cases hx
   obtain ⟨a',b',ha',hb'⟩:∃ a b,jQ ys f.offset=some a∧jQ ys (f.offset+1)=some b:=by
    simp only [jG] at hy
    split at hy
    ·rename_i a b h1 h2;exact ⟨a,b,h1,h2⟩
    ·cases hy
   obtain ⟨e1,e2⟩:=WS ha hb
   obtain ⟨e3,e4⟩:=WS ha' hb'
   have hq:=RU (P:=P) (w:=w) (d:=d) (xs:=xs.extract f.offset (f.offset+2)) (ys:=ys.extract f.offset (f.offset+2)) _ (by simpa only [lJ,lK,qo] using k3) (by rw [k2];simp [e1,e2,e3,e4])
   rw [k2] at hq
   refine fin _ _ _ (ZF w hu Xj k4 xs f.offset) (ZF w hu Xj k4 ys f.offset) ((run_equalIn_struct w (d+1) f.type _ _ (amI hu) k1).trans hq) ?_
   rw [hkd,og]
   simp [jG,ha,hb,ha',hb',e1,e2,e3,e4]
  ·rw [hkd] at hk;cases hk
section
variable {N:Nat} {D:List Deferred} {w0:World} {F:Nat→Prop} {G0 G:GH} {L:List (Nat × Obj)} {T:List (Nat × aj)}
variable {r:Option Nat} {P:Program} {ops:Array Oper} {Q:Exit→Act→World→Prop} {rest:List Oper} {a:Act} {w:World}
variable {d:Nat} {ty:TypeId} {pos:String} {aM:Array Edge} {g:Option (Nat × Bool)}
theorem R6 {t yt:TypeId} {fM:List (Nat × Nat)} (he:Kg P t fM) {x y:Operand} {xs ys:Array aj} (H:St N D w0 F G0 G L T a w) (hw:Region.wanted ⟨some d,.binOp .eql t x y yt,ty,pos,aM,g⟩ (yielded ops a.tmps)=true) (hx:ev T x=some (.agg xs)) (hy:ev T y=some (.agg ys))
  (hi:fM.all (fun o=>(jG xs o).isSome && (jG ys o).isSome)=true) (hd:Nat.blt d N=true)
  (k:∀ a',St N D w0 F G0 G L ((d,.bool (fM.all fun o=>jG xs o == jG ys o)) :: T) a' w→WL r P ops Q rest a' w):WL r P ops Q (⟨some d,.binOp .eql t x y yt,ty,pos,aM,g⟩ :: rest) a w:=by
 have h1:=RX (P:=P) (w:=w) (d:=9997) (xs:=xs) (ys:=ys) _ he.ok (by rw [he.uX];exact hi)
 rw [he.uX] at h1
 refine fq (v:=.bool (fM.all fun o=>jG xs o == jG ys o)) (w':=w) hw rfl ?_ (k _ (H.put hd _ H.hp))
 simp only [execOp,H.ev hx,H.ev hy,cZ,run_eqGuard_agg w .eql t x y xs ys he.guard,jT,run_eql_struct,run_equalIn_struct w 9999 t xs ys he.und he.held,h1]
 rfl
theorem alv {t yt:TypeId} {fM:List (Nat × Nat)} (he:Kg P t fM) {x y:Operand} {xs ys:Array aj} (H:St N D w0 F G0 G L T a w) (hw:Region.wanted ⟨some d,.binOp .neq t x y yt,ty,pos,aM,g⟩ (yielded ops a.tmps)=true) (hx:ev T x=some (.agg xs)) (hy:ev T y=some (.agg ys))
  (hi:fM.all (fun o=>(jG xs o).isSome && (jG ys o).isSome)=true) (hd:Nat.blt d N=true)
  (k:∀ a',St N D w0 F G0 G L ((d,.bool (!(fM.all fun o=>jG xs o == jG ys o))) :: T) a' w→WL r P ops Q rest a' w):WL r P ops Q (⟨some d,.binOp .neq t x y yt,ty,pos,aM,g⟩ :: rest) a w:=by
 have h1:=RX (P:=P) (w:=w) (d:=9997) (xs:=xs) (ys:=ys) _ he.ok (by rw [he.uX];exact hi)
 rw [he.uX] at h1
 refine fq (v:=.bool (!(fM.all fun o=>jG xs o == jG ys o))) (w':=w) hw rfl ?_ (k _ (H.put hd _ H.hp))
 simp only [execOp,H.ev hx,H.ev hy,cZ,run_eqGuard_agg w .neq t x y xs ys he.guard,jT,run_neq_struct,run_equalIn_struct w 9999 t xs ys he.und he.held,h1]
 rfl
end
end
section
open Go.RowKit
theorem uF:prog.underlying 49=some (.slice 55):=by kernel_rfl
theorem jD:Ty prog 55 6 56 [.int .i64 0,.string ⟨#[]⟩,.int .i64 0,.int .i64 0,.int .i64 0,.int .i64 0] true:=⟨by kernel_rfl,by kernel_rfl⟩
theorem aeb:∀ args w,(callFunc 11 args).run prog w=.ok (.enter 11 args) w:=enters func11 rfl (by kernel_rfl)
theorem aeT:∀ args w,(callFunc 51 args).run prog w=.ok (.enter 51 args) w:=enters func51 rfl (by kernel_rfl)
theorem Ws:cB prog 47 2 2:=⟨by kernel_rfl⟩
theorem xq:cB prog 47 3 3:=⟨by kernel_rfl⟩
theorem BQ:Ty prog 45 2 16 [.int .i64 0,.int .i64 0] true:=⟨by kernel_rfl,by kernel_rfl⟩
theorem JX:qJ prog 55 [(0,1),(1,1),(2,2),(4,2)] [.int .i64 0,.string ⟨#[]⟩,.int .i64 0,.int .i64 0,.int .i64 0,.int .i64 0]:=⟨by kernel_rfl,by kernel_rfl⟩
theorem uT:cB prog 55 2 2:=⟨by kernel_rfl⟩
theorem sJ:cB prog 45 1 1:=⟨by kernel_rfl⟩
theorem Ck:cB prog 55 3 4:=⟨by kernel_rfl⟩
theorem AU:cB prog 45 0 0:=⟨by kernel_rfl⟩
mutual
theorem abw (g:Int) (t:Nat):∀ (x:au) (a:bP),a∈xS g t x→0≤a.at_∧a.at_≤(t+dx x.dat:Nat)
 | .mk k c i tx h fl r,a,ha=>by
  have h4:=oF (.mk k c i tx h fl r);dsimp only [au.text,au.head,au.flow,au.rows] at h4;rw [xS] at ha
  rcases jS.1 ha with ha|ha
  ·split at ha
   ·rw [qK.1 ha];dsimp only;omega
   cases ha
  rcases jS.1 ha with ha|ha
  ·split at ha
   ·have:=Ih i 0 fl a ha;omega
   cases ha
  split at ha
  ·have:=Us r a ha;omega
  cases ha
theorem Ih (g:Int):∀ (t:Nat) (l:List au) (a:bP),a∈dX g t l→0≤a.at_∧a.at_≤(t+bg l:Nat)
 | _,[],a,ha=>by rw [dX] at ha;cases ha
 | t,x :: l,a,ha=>by
  have h1:=Rp x;rw [dX] at ha
  have hz:dx x.dat+bg l≤bg (x :: l):=by simp only [bg,fu,eZ];omega
  rcases jS.1 ha with ha|ha
  ·have:=abw g t x a ha;omega
  have:=Ih g (t+n1 x) l a ha;omega
theorem Us:∀ (l:List bD) (a:bP),a∈lH l→0≤a.at_∧a.at_≤(iD l:Nat)
 | [],a,ha=>by rw [lH] at ha;cases ha
 | x :: l,a,ha=>by
  rw [lH] at ha
  have hz:dx x.dat+iD l≤iD (x :: l):=by simp only [iD,fu,eZ];omega
  rcases jS.1 ha with ha|ha
  ·have:=abx x a ha;omega
  have:=Us l a ha;omega
theorem abx:∀ (x:bD) (a:bP),a∈xU x→0≤a.at_∧a.at_≤(dx x.dat:Nat)
 | .mk h cs,a,ha=>by
  have h4:=Al (.mk h cs);dsimp only [bD.head,bD.cells] at h4;rw [xU] at ha;have:=Ur cs a ha
  omega
theorem Ur:∀ (l:List bF) (a:bP),a∈nX l→0≤a.at_∧a.at_≤(jI l:Nat)
 | [],a,ha=>by rw [nX] at ha;cases ha
 | x :: l,a,ha=>by
  rw [nX] at ha
  have hz:dx x.dat+jI l≤jI (x :: l):=by simp only [jI,fu,eZ];omega
  rcases jS.1 ha with ha|ha
  ·have:=abv x a ha;omega
  have:=Ur l a ha;omega
theorem abv:∀ (x:bF) (a:bP),a∈xR x→0≤a.at_∧a.at_≤(dx x.dat:Nat)
 | .mk i h fl,a,ha=>by
  have h4:=Aj (.mk i h fl);dsimp only [bF.head,bF.flow] at h4;rw [xR] at ha;have:=Ih i 0 fl a ha
  omega
end
theorem afu:Kg prog 47 [(0,0),(1,0),(2,1),(3,2)]:=⟨by kernel_rfl,by kernel_rfl,by kernel_rfl,by kernel_rfl,by kernel_rfl⟩
theorem Oc {a b:ByteArray} (h:a.toList=b.toList):a=b:=by
 rw [ByteArray.toList_eq,ByteArray.toList_eq] at h
 cases a;cases b
 simpa using h
theorem abG (x y:bP):([(0,0),(1,0),(2,1),(3,2)].all fun o=>jG (#[vi x.code,vi x.id,.string x.name,vi x.flow,vi x.at_]:Array aj) o == jG (#[vi y.code,vi y.id,.string y.name,vi y.flow,vi y.at_]:Array aj) o)=decide (x=y):=by
 rw [og,decide_eq_true_iff,← bP.eq_iff]
 simp [jG,jQ]
 intro _ _ _ _;exact ⟨Oc,fun h=>by rw [h]⟩
theorem abH {acc:List ((Int × Int) × aj)} {A:List bP} {c:Int} {x:bP} (_h:vK acc A) (hc:¬ ¬ x.code=c) (hm:x∈A):(!decide ((mI A c x.id).getD BS=x))=!pU A c x:=by
 have hc:=mW.1 hc
 have hs:(mI A c x.id).isSome=true:=by
  unfold mI
  rw [List.find?_isSome];exact ⟨x,hm,by simp [hc]⟩
 obtain ⟨y,hy⟩:=Option.isSome_iff_exists.1 hs
 unfold pU
 rw [hy]
 simp [hc]
theorem FM {A:List bP} {c:Int} {x:bP} (h:match mI A (c+1) x.id with|some e=>¬ (e.flow=x.flow∧x.at_ < e.at_)|none=>True):yw A c x=(x.flow,x.at_+1):=by
 unfold yw
 cases hf:mI A (c+1) x.id with
 | none=>rfl
 | some e=>rw [hf] at h;dsimp only;rw [ah h]
theorem VU {A:List bP} {c:Int} {x e:bP} (h:mI A (c+1) x.id=some e∧e.flow=x.flow∧x.at_ < e.at_):yw A c x=(e.flow,e.at_):=by
 unfold yw
 rw [h.1];dsimp only;rw [av h.2]
def EO (l:List jO):List aj:=(l.map jO.cells).flatten
theorem Z7 (l:List jO) (x:jO):EO (l++[x])=EO l++x.cells:=by
 unfold EO
 rw [kL,List.flatten_append]
 simp
theorem Si (G:GH):∀ l:List jO,eY G 6 (l.map jO.dat) (EO l)
 | []=>eY.nil
 | x :: l=>by
  have h1:eY G 6 [x.dat] x.cells:=by
   have:=(eY.nil (G:=G) (sz:=6)).snoc (q:=x.dat) (cs:=x.cells) (aae G x) rfl
   simpa using this
  rw [fu,← List.singleton_append];exact h1.append (Si G l)
def rX (A:List bP) (c:Int) (k:Nat):List jO:=((A.take k).filter (pU A c)).map (zk A c)
theorem M5 {A:List bP} {c:Int} {k:Nat} (hk:k < A.length) (h:pU A c A[k]=false):rX A c (k+1)=rX A c k:=by
 unfold rX;rw [Z9 hk,ah (by rw [h];decide),jA]
theorem Z8 {A:List bP} {c:Int} {k:Nat} (hk:k < A.length) (h:pU A c A[k]=true):rX A c (k+1)=rX A c k++[zk A c A[k]]:=by
 unfold rX;rw [Z9 hk,av h]
theorem Sg (A:List bP) (c:Int) (k:Nat) (hk:k≤A.length):(rX A c k).length≤k:=by
 unfold rX
 rw [bV];exact Nat.le_trans (List.length_filter_le ..) (by rw [List.length_take];omega)
theorem acu {P:Program} {f:FuncId} {args:Array aj} {w0:World} {G:GH} {e sz n:Nat} {xs:List aj} {rows:List (List Dat)} (hG:Hold G w0) (h:Calls P f args w0 (gI w0 G [] fun u _ L'=>dz e sz u n xs L')) (hl:rows.length=n) (hc:∀ G',eY G' sz rows xs) :
  Calls P f args w0 (bq w0 G fun u G'=>ay G' (.sl sz rows) u):=by
 intro cs;obtain ⟨e1,w',fr,⟨v,G',L',rfl,hch,hrow⟩,h2,h3,h4⟩:=h cs;have hp0:Hp w0 (fun k=>k < w0.heap.size) G G ([]++[]) w0:=⟨rfl,rfl,rfl,bT _,fun _ h=>h,fun _ _=>rfl,hG,fun _ _ h=>h,fun _ _ h=>.inl h,fun _ h=>(by cases h),fun _ h=>(by cases h),fun _ h=>(by cases h),List.Pairwise.nil⟩;have hp1:=hp0.change hch;rw [jP] at hp1;refine ⟨_,w',fr,?_,h2,h3,h4⟩
 rcases hrow.2 with ⟨rfl,h5,rfl⟩|⟨b,cap,cur,rfl,rfl,h5,h6,h7,h8⟩
 ·refine hp1.ret ?_;have:rows=[]:=List.eq_nil_of_length_eq_zero (by omega);subst this
  simp only [ay]
  exact ⟨none,0,by simp,by simp,by simp [maxLen],fun h=>absurd rfl h⟩
 exact (hp1.giveUp 0 rfl).ret (ay.eT (GH.KJ G' b _) hl h5 h6 h8 (hc _))
set_option maxHeartbeats 4000000 in
theorem amk (G:GH) (w0:World) (hO:gZ G [] w0) (D:nA) (l:List au) (hv:ay G (.sl 11 (l.map au.dat)) (fD D.f)) (hok:dQ l) (hz:bg l≤1073741824) (code:Int) (hc:0≤code∧code≤100) :
  Calls prog 37 #[D.val,vi code] w0 (gI w0 G [] fun u _ L'=>dz 55 6 u (nP (dX 0 0 l) code).length (EO (nP (dX 0 0 l) code)) L'):=by
 have hn:=Au 0 0 l;have Ej:=Ih 0 0 l;have hml:maxLen=9223372036854775807:=rfl;obtain ⟨A,hA⟩:∃ A,A=dX 0 0 l:=⟨_,rfl⟩;rw [← hA] at hn Ej ⊢;refine jZ (N:=96) (T:=[(0,_),(1,_)]) func37 rfl ntmps37 rfl rfl hO ?_;intro a H;refine dH (fun _ K1=>?_);refine fC (cs:=[_,_,_,_,_,_,_,_,_,_,_]) H wn rfl rfl rfl ?_;clear H;intro b2 a w hb2 H;refine kH H (ak K1 rfl (SQ fun _ K2=>?_));clear H K1;intro a H;obtain ⟨Ga,hma,hb',H⟩:=H.eu;have hga:=fun j v hj=>zN hb' 0 D.cells rfl j v hj;replace hv:=hv.mono hma;refine oH ?_;refine bJ rY (cs:=D.cells) H wn rfl rfl (fun j v hj=>H.hp.aJ (hga j v hj)) rfl ?_;clear H;intro a H;refine s_call aeb H wn rfl (ajr _ _ H.ro D l hv hok (by omega)) rfl ?_;clear H;rintro v14 Hy a w hr Qs H;rw [← hA] at hr;obtain ⟨vA,n14,c14,rfl⟩:=hr.form;have Xu:=hr.len;rw [bV] at Xu;subst Xu;refine kH H (aU K2 rfl (SR fun _ K3=>Rm rfl ?_));clear H K2;intro a H;refine s_call aeT H wn rfl (agn _ _ H.ro A _ hr (by omega)) rfl ?_;clear H;rintro v16 ru a w ⟨bm,acc,rfl,FZ,hfm⟩ qR H;replace hr:=hr.mono qR;refine kH H (ak K3 rfl (SR fun _ K4=>ak K4 rfl (SQ fun _ K5=>SR fun _ K6=>Rm rfl (Rl ny rfl (Rm rfl (Kz K6 (SB ?_)))))));clear H K3 K4 K6;intro a H;skip;refine eU (ι:=Nat × aj × OL × GH) (Tc:=[(1,_),(6,_),(17,_),(18,_)]) (Lc:=[]) (fun gh=>[(7,gh.2.1),(19,vi gh.1)]) (fun gh=>[]++gh.2.2.1) (fun gh=>gh.2.2.2) (fun gh=>gh.1≤A.length∧dz 55 6 gh.2.1 (rX A code gh.1).length (EO (rX A code gh.1)) gh.2.2.1∧(∀ b o,ru b=some o→gh.2.2.2 b=some o)) (fun gh=>A.length - gh.1) ((0,.slice none 0 0,[],ru)) (by exact (H).sub ⟨rfl,rfl,rfl,rfl,rfl,rfl,aB⟩) ?_ ?_
 ·exact ⟨iB _,dz.nil,fun _ _ h=>h⟩
 clear H;intro gh a w hI H;obtain ⟨k,v7,Lo,g⟩:=gh;dsimp only at hI H;obtain ⟨hk,hrw,hgm⟩:=hI;have hsl:=Sg A code k hk;obtain ⟨v7A,v7c,rfl,-,-⟩:=hrw.shape;dsimp only [lca,bG] at H;refine kP H (SR fun _ K7=>Rc rfl (Kz K7 (SQ fun _ K8=>Cd rfl ?_ ?_))) <;> clear H K7
 ·intro h20 a H
  try have BF:=dT h20
  have hk2:k < A.length:=by omega
  obtain ⟨b,o,rfl,hrow⟩:=Ik (hr.mono hgm) hk2;obtain ⟨ha0,ha1⟩:=Ej A[k] (iF hk2);have hbg:=hgm _ _ FZ;refine kP H (Kc K8 (SQ fun _ K9=>SB (SR fun _ aQ=>Ri ny jX rfl rfl ?_)));clear H K8;intro a H;refine bJ jX (cs:=A[k].cells) H wn rfl rfl (fun j v hj=>H.hp.aJ (hrow j v hj)) rfl ?_;clear H;intro a H;refine eB jX H wn rfl ?_;clear H;intro b9 a w yH H;refine bM jX 0 (vs:=[_,_,_,_,_]) _ H wn rfl rfl rfl rfl rfl rfl rfl rfl ?_;clear H;intro w H;dsimp only [List.set,setRow] at H;refine aQ _ _ ?_;clear aQ;refine bK (fun _ bH=>?_);refine bK (fun _ bL=>?_)
  by_cases c0:¬ A[k].code=code
  ·skip;refine dI hmx [[],[0],[],[0,1,2],(ra 0 4),(ra 0 5),(ra 0 5),(ra 0 5),[0,1,2,3,4,7],[0,1,2,3,4,6,7,8],(ra 0 10),(ra 0 5),(ra 0 12),(ra 0 13)] [] (by kernel_rfl) [_,vi A[k].code,_,_,_,undef,undef,undef,undef,undef,undef,undef,undef,_] H (aD (Z0 rfl (Rf IL rfl)) (Z1 0 23 rfl (Ro aH 0 rfl)) (Z0 rfl (Rm rfl)) (Z2 1 24 2 25 rfl (Rc rfl)) (aD (Z1 3 26 rfl (Rm rfl)) (aK (j:=4) (by kernel_rfl) (fun _ _ _ _ _ h=>h) rfl rfl rfl rfl rfl (fun _ _ h=>aL h (aF (aA c0))) rfl (fun _=>rfl)) (aK (j:=4) (by kernel_rfl) (fun _ _ _ _ _ h=>h) rfl rfl rfl rfl rfl (fun _ _ h=>aL h (aF (aA c0))) rfl (fun _=>rfl)) (aK (j:=4) (by kernel_rfl) (fun _ _ _ _ _ h=>h) rfl rfl rfl rfl rfl (fun _ _ h=>aL h (aF (aA c0))) rfl (fun _=>rfl)) (aD (aK (j:=4) (by kernel_rfl) (fun _ _ _ _ _ h=>h) rfl rfl rfl rfl rfl (fun _ _ h=>aL h (aF (aA c0))) rfl (fun _=>rfl)) (aK (j:=4) (by kernel_rfl) (fun _ _ _ _ _ h=>h) rfl rfl rfl rfl rfl (fun _ _ h=>aL h (aF (aA c0))) rfl (fun _=>rfl)) (aK (j:=4) (by kernel_rfl) (fun _ _ _ _ _ h=>h) rfl rfl rfl rfl rfl (fun _ _ h=>aL h (aF (aA c0))) rfl (fun _=>rfl)) (aK (j:=4) (by kernel_rfl) (fun _ _ _ _ _ h=>h) rfl rfl rfl rfl rfl (fun _ _ h=>aL h (aF (aA c0))) rfl (fun _=>rfl)) (aZ (aK (j:=4) (by kernel_rfl) (fun _ _ _ _ _ h=>h) rfl rfl rfl rfl rfl (fun _ _ h=>aL h (aF (aA c0))) rfl (fun _=>rfl)) (aZ (Z2 4 27 12 35 rfl (Pt (aA c0) rfl)) cu))))) ?_
   clear H;intro a w G vZ H hv;have H:=H.aP (hv 13 36 rfl rfl) rfl;clear hv;refine aG ⟨rfl,?_⟩;refine bL _ _ ?_;clear bL;refine xY H rfl rfl ?_;refine dW ?_;refine K9 _ _ ?_;clear K9;refine kP H (SC (Rd rfl (Rm rfl ?_)));clear H;intro a H;refine aG ?_;refine dh ((k+1,_,Lo,_)) (by exact (H.dP (Pl:=[_]) (dD:=[]) [] (by decide) rfl).sub ⟨rfl,rfl,rfl,rfl,rfl,rfl,aB⟩) ?_ ?_
   ·(try dsimp only);exact ⟨by omega,by rw [M5 hk2 (by first|(simp [pU,c0];done)|(simpa using mJ))];exact hrw,fun b o h=>vZ b o (hgm b o h)⟩
   first|omega|(dsimp only;omega)
  skip;refine dI hmx [[],[0],[],[0,1,2],(ra 0 4),(ra 0 5),(ra 0 5),(ra 0 5),[0,1,2,3,4,7],[0,1,2,3,4,6,7,8],(ra 0 10),(ra 0 5),(ra 0 12),(ra 0 13)] [] (by kernel_rfl) [_,vi A[k].code,_,_,_,_,_,_,vi A[k].id,.agg #[vi code,vi A[k].id],((mI A code A[k].id).getD BS).val,A[k].val,.bool (!pU A code A[k]),_] H (aD (Z0 rfl (Rf IL rfl)) (Z1 0 23 rfl (Ro aH 0 rfl)) (Z0 rfl (Rm rfl)) (Z2 1 24 2 25 rfl (Rc rfl)) (aD (Z1 3 26 rfl (Rm rfl)) (Z1 4 27 rfl (YM (aN c0) rfl)) (Z1 4 27 rfl (YM (aN c0) rfl)) (Z1 4 27 rfl (YF Cj (aN c0) rfl)) (aD (Z2 7 30 4 27 rfl (YO aH 0 (aN c0) rfl)) ?_ ?_ ?_ (aZ ?_ (aZ (Z2 4 27 12 35 rfl (Pf (aN c0) rfl)) cu))))) ?_
  ·refine nD 6 29 8 31 4 27 rfl rfl fun _ a w G1 hG HT H fin=>?_;refine jR Sj [_,_] H (wg H rfl rfl (aN c0)) rfl rfl rfl rfl ?_;clear H;intro a H;exact fin H iJ rfl
  ·refine nD 5 28 9 32 4 27 rfl rfl fun _ a w G1 hG HT H fin=>?_;refine alr (ky:=(code,A[k].id)) (zv:=BS.val) (l:=acc) Nj Lb (by kernel_rfl) H (wg H rfl rfl (aN c0)) rfl rfl (H.ro _ _ (hG _ _ hbg)) rfl ?_;clear H;intro a H;rw [Q6 hfm] at H;exact fin H iJ rfl
  ·refine dB 4 27 rfl rfl fun _ a w G1 hG HT H fin=>?_;refine bJ jX (cs:=[_,_,_,_,_]) H (wg H rfl rfl (aN c0)) rfl rfl (H.hp.dL 0 rfl rfl) rfl ?_;clear H;intro a H;exact fin H iJ rfl
  ·refine nD 10 33 11 34 4 27 rfl rfl fun _ a w G1 hG HT H fin=>?_;refine alv afu H (wg H rfl rfl (aN c0)) rfl rfl rfl rfl ?_;clear H;intro a H;rw [abG] at H;exact fin H iJ (by show _=_;first|rfl|exact aF (abH hfm c0 (iF hk2)))
  clear H;intro a w G vZ H hv;have H:=H.aP (hv 13 36 rfl rfl) rfl;clear hv;refine aG ⟨rfl,?_⟩;refine bL _ _ ?_;clear bL;refine kS H rfl ?_ ?_
  ·intro mJ
   try have p36:=dT mJ
   refine dW ?_;refine K9 _ _ ?_;clear K9;refine kP H (SC (Rd rfl (Rm rfl ?_)));clear H;intro a H;refine aG ?_;refine dh ((k+1,_,Lo,_)) (by exact (H.dP (Pl:=[_]) (dD:=[]) [] (by decide) rfl).sub ⟨rfl,rfl,rfl,rfl,rfl,rfl,aB⟩) ?_ ?_
   ·(try dsimp only);exact ⟨by omega,by rw [M5 hk2 (by first|(simp [pU,c0];done)|(simpa using mJ))];exact hrw,fun b o h=>vZ b o (hgm b o h)⟩
   first|omega|(dsimp only;omega)
  intro mJ
  try have p36:=dF mJ
  have hst:pU A code A[k]=true:=by simpa using mJ
  refine kP H (Kc bH (SR fun _ bR=>aT Cj aH 0 rfl rfl (aT Ws fV 0 rfl rfl (Rf xq rfl ?_))));clear H bH;intro a H;refine bJ BQ (cs:=[_,_]) H wn rfl rfl (H.hp.dL 0 rfl rfl) rfl ?_;clear H;intro a H;refine kH H (Rf xq rfl ?_);clear H;intro a H;refine bJ BQ (cs:=[_,_]) H wn rfl rfl (H.hp.dL 0 rfl rfl) rfl ?_;clear H;intro a H;refine jR JX [_,_,_,_,_,_] H wn rfl rfl rfl rfl ?_;clear H;intro a H;refine eB jD H wn rfl ?_;clear H;intro b10 a w Qi H;refine bM jD 0 (vs:=[_,_,_,_,_,_]) _ H wn rfl rfl rfl rfl rfl rfl rfl rfl ?_;clear H;intro w H;dsimp only [List.set,setRow] at H;refine bR _ _ ?_;clear bR;refine kP H (SR fun _ bQ=>Rf uT rfl (aT sJ aH 0 rfl rfl (Rd rfl (Rf uT rfl (Rf sJ rfl ?_)))));clear H;intro a H;refine bM aH 0 (vs:=[_]) _ H wn rfl rfl rfl rfl rfl rfl rfl rfl ?_;clear H;intro w H;dsimp only [List.set,setRow] at H;refine bQ _ _ ?_;clear bQ;refine kP H (SR fun _ dJ=>Rf Ck rfl (aT sJ aH 0 rfl rfl (Rd rfl (Rf Ck rfl (Rf sJ rfl ?_)))));clear H;intro a H;refine bM aH 0 (vs:=[_]) _ H wn rfl rfl rfl rfl rfl rfl rfl rfl ?_;clear H;intro w H;dsimp only [List.set,setRow] at H;refine dJ _ _ ?_;clear dJ;refine pE (ι:=Int × Int) (Tc:=[(1,_),(6,_),(7,_),(10,_),(17,_),(18,_),(19,_)]) (Lc:=[(_,_)]) (fun gh=>[]) (fun gh=>[(b10,.cells #[vi A[k].id,.string A[k].name,vi A[k].flow,vi (A[k].at_+1),vi gh.1,vi gh.2] 55 (0,0))]++Lo) (fun gh=>G) (fun gh=>(gh.1,gh.2)=yw A code A[k]) (by exact (H.dP (Pl:=[_,_]) (dD:=[_,_]) [1,0] (by decide) rfl).sub ⟨rfl,rfl,rfl,rfl,rfl,rfl,rfl,aB⟩) ?_ ?_
  ·skip;refine kP H (SR fun _ dO=>Rm rfl (Rm rfl (Rd rfl (aT Cj aH 1 rfl rfl ?_))));clear H;intro a H;refine jR Sj [_,_] H wn rfl rfl rfl rfl ?_;clear H;intro a H;refine ZL (ky:=(code+1,A[k].id)) (zv:=BS.val) (l:=acc) Nj Lb (by kernel_rfl) H wn rfl rfl (H.ro _ _ (vZ _ _ hbg)) rfl ?_;clear H;intro a H;rw [Q6 hfm,show (nu (code+1,A[k].id) acc).isSome=(mI A (code+1) A[k].id).isSome by rw [hfm,Option.isSome_map]] at H;obtain ⟨E,hE⟩:∃ E,E=mI A (code+1) A[k].id:=⟨_,rfl⟩;dsimp only at H;rw [← hE] at H;obtain ⟨q,hq⟩:∃ q,q=E.getD BS:=⟨_,rfl⟩;rw [← hq] at H;refine kH H (Rm rfl ?_);clear H;intro a H;(iterate 2 refine jc H wn rfl rfl rfl ?_;clear H;intro a H);refine eB jX H wn rfl ?_;clear H;intro b11 a w LP H;refine bM jX 0 (vs:=[_,_,_,_,_]) _ H wn rfl rfl rfl rfl rfl rfl rfl rfl ?_;clear H;intro w H;dsimp only [List.set,setRow] at H;refine kH H (ak dO rfl (SR fun _ dK=>Rm rfl (Rm rfl (Sp 69 rfl ?_ ?_)))) <;> clear H dO
   ·intro jq a H
    try have p69:=dT jq
    refine kH H (YF xq jq rfl (YF AU jq rfl (YO aH 0 jq rfl (YF xq jq rfl (YF AU jq rfl (YO aH 2 jq rfl (YC jq rfl (Pt jq rfl (Rm rfl (Sp 78 rfl ?_ ?_)))))))))) <;> clear H
    ·intro ng a H
     try have RH:=dT ng
     refine kH H (YF xq ng rfl (YF sJ ng rfl (YO aH 0 ng rfl (YF xq ng rfl (YF sJ ng rfl (YO aH 2 ng rfl (YC ng rfl (Pt ng rfl (Kz dK (Cd rfl ?_ ?_)))))))))) <;> clear H dK
     ·intro Ee a H
      refine kP H (SC (Rf xq rfl ?_));clear H;intro a H;refine bJ BQ (cs:=[_,_]) H wn rfl rfl (H.hp.dL 0 rfl rfl) rfl ?_;clear H;intro a H;refine kH H (Rf Ck rfl ?_);clear H;intro a H;refine bM BQ 1 (vs:=[_,_]) _ H wn rfl rfl rfl rfl rfl rfl rfl rfl ?_;clear H;intro w H;dsimp only [List.set,setRow] at H;refine aG ?_;refine ⟨(q.flow,q.at_),by exact (H.dP (Pl:=[_,_,_]) (dD:=[_,_]) [2,1] (by decide) rfl).sub ⟨rfl,rfl,rfl,rfl,rfl,rfl,rfl,aB⟩,?_⟩;(try dsimp only);obtain ⟨e,he⟩:=Option.isSome_iff_exists.1 jq
      have hqe:q=e:=by rw [hq,he];rfl
      rw [hqe] at ng Ee ⊢;exact (VU ⟨by rw [← hE,he],oG ng,oG Ee⟩).symm
     intro Ee a H
     try have p86:=dF Ee
     refine fZ ?_;refine ⟨(A[k].flow,A[k].at_+1),by exact (H.dP (Pl:=[_,_,_]) (dD:=[_,_]) [2,1] (by decide) rfl).sub ⟨rfl,rfl,rfl,rfl,rfl,rfl,rfl,aB⟩,?_⟩;(try dsimp only);refine (FM ?_).symm;rw [← hE]
     cases hE2:E with
     | none=>trivial
     | some e =>
      have hqe:q=e:=by rw [hq,hE2];rfl
      dsimp only;rw [← hqe];rintro ⟨f1,f2⟩
      first|exact absurd f2 (of_decide_eq_false Ee)|exact absurd f1 (of_decide_eq_false ng)|(rw [hE2] at jq;cases jq)
    intro ng a H
    try have RH:=dF ng
    refine kH H (bC ng rfl (aR ng rfl (aR ng rfl (Pf ng rfl (Kz dK (Cf rfl rfl ?_))))));clear H dK;intro a H;refine fZ ?_;refine ⟨(A[k].flow,A[k].at_+1),by exact (H.dP (Pl:=[_,_,_]) (dD:=[_,_]) [2,1] (by decide) rfl).sub ⟨rfl,rfl,rfl,rfl,rfl,rfl,rfl,aB⟩,?_⟩;(try dsimp only);refine (FM ?_).symm;rw [← hE]
    cases hE2:E with
    | none=>trivial
    | some e =>
     have hqe:q=e:=by rw [hq,hE2];rfl
     dsimp only;rw [← hqe];rintro ⟨f1,f2⟩
     first|exact absurd f2 (of_decide_eq_false Ee)|exact absurd f1 (of_decide_eq_false ng)|(rw [hE2] at jq;cases jq)
   intro jq a H
   try have p69:=dF jq
   refine kH H (bC jq rfl (aR jq rfl (aR jq rfl (Pf jq rfl (Rm rfl (bC rfl rfl (aR rfl rfl (aR rfl rfl (Pf rfl rfl (Kz dK (Cf rfl rfl ?_)))))))))));clear H dK;intro a H;refine fZ ?_;refine ⟨(A[k].flow,A[k].at_+1),by exact (H.dP (Pl:=[_,_,_]) (dD:=[_,_]) [2,1] (by decide) rfl).sub ⟨rfl,rfl,rfl,rfl,rfl,rfl,rfl,aB⟩,?_⟩;(try dsimp only);refine (FM ?_).symm;rw [← hE]
   cases hE2:E with
   | none=>trivial
   | some e =>
    have hqe:q=e:=by rw [hq,hE2];rfl
    dsimp only;rw [← hqe];rintro ⟨f1,f2⟩
    first|exact absurd f2 (of_decide_eq_false Ee)|exact absurd f1 (of_decide_eq_false ng)|(rw [hE2] at jq;cases jq)
  clear H;intro gh a w hI H;obtain ⟨tf,ta⟩:=gh;dsimp only at hI H;have hend:=hI;dsimp only [lca,bG] at H;refine kP H (SC (Rm rfl ?_));clear H;intro a H;refine bJ jD (cs:=[_,_,_,_,_,_]) H wn rfl rfl (H.hp.dL 1 rfl rfl) rfl ?_;clear H;intro a H;refine gX uF jD [_,_,_,_,_,_] [_,_,_,_,_,_] H wn rfl rfl rfl rfl rfl (by intro i q h;match i,h with|0,h=>exact h|n+1,h=>simp at h) rfl rfl ?_;clear H;intro b92 a w anF H;refine oz (Li:=[_,_,_]) (Lo:=Lo) (news:=[vi A[k].id,.string A[k].name,vi A[k].flow,vi (A[k].at_+1),vi tf,vi ta]) uF jD rfl rfl H wn rfl rfl hrw rfl (H.hp.dL 0 rfl rfl) rfl (by omega) (by omega) rfl ?_;clear H;intro v93 abl a w XL H;rw [show [vi A[k].id,Value.string A[k].name,vi A[k].flow,vi (A[k].at_+1),vi tf,vi ta]=(zk A code A[k]).cells by simp only [zk,jO.cells,← hend]] at XL;refine kH H (aU K9 rfl (SC (Rd rfl (Rm rfl ?_))));clear H K9;intro a H;refine aG ?_;refine dh ((k+1,v93,abl,_)) (by exact (H.dP (Pl:=[_,_,_]) (dD:=[]) [] (by decide) rfl).sub ⟨rfl,rfl,rfl,rfl,rfl,rfl,aB⟩) ?_ ?_
  ·(try dsimp only);exact ⟨by omega,by rw [Z8 hk2 hst,iM,Z7];exact XL,fun b o h=>vZ b o (hgm b o h)⟩
  first|omega|(dsimp only;omega)
 intro h20 a H
 try have BF:=dF h20
 obtain rfl:k=A.length:=by omega
 have hall:rX A code A.length=nP A code:=by unfold rX nP;rw [wS]
 rw [hall] at hrw;refine dW ?_;refine K5 _ _ ?_;clear K5;exact kP H (SR fun _ eO=>Rm rfl (ak eO rfl (LR results37 rfl fun H=>H.hp.eX (by rw [hall];exact hrw))))
theorem aku {G:GH} {w:World} (h:Hold G w):gZ G [] w:=⟨h,fun _ h=>(by cases h),fun _ h=>(by cases h),List.Pairwise.nil⟩
theorem aml (G:GH) (w0:World) (hG:Hold G w0) (D:nA) (l:List au) (hv:ay G (.sl 11 (l.map au.dat)) (fD D.f)) (hok:dQ l) (hz:bg l≤1073741824) (code:Int) (hc:0≤code∧code≤100) :
  Calls prog 37 #[D.val,vi code] w0 (bq w0 G fun u G'=>ay G' (.sl 6 ((nP (dX 0 0 l) code).map jO.dat)) u) :=
 acu hG (amk G w0 (aku hG) D l hv hok hz code hc) (by simp) fun _=>Si _ _
end
end Go.Proofs.YteopmoocmoigcaaGreat
