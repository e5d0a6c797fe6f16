/-
  What the claim stands on, part 5: Ml16 Dn Ms16 Fd16 Par It Div Rc Nrm Pas L14 L14b L14c L14d L14e Sl Kt K16 Rws Itm Its Rvs Chd Sm16 So16.
-/
import Derived.Test.YteopmoocmoigcaaGreatWvd
namespace Go.Proofs.YteopmoocmoigcaaGreat
open Go.Proofs.Tryz
section
open Go.RowKit
theorem M5:∀ args w,(callFunc 12 args).run prog w=.ok (.enter 12 args) w:=enters func12 rfl (by kernel_rfl)
theorem TV:∀ args w,(callFunc 36 args).run prog w=.ok (.enter 36 args) w:=enters func36 rfl (by kernel_rfl)
theorem Yz (G:GH) (w0:World) (hG:Hold G w0) (x:ay) (i2 i3:Int) (p i5 i6 d l f r:aj) (hs:x.text.size < 4611686018427387904) :
  Calls prog 36 #[.agg #[vi x.kind,vi i2,vi i3,.string x.text,p,i5,i6,d,l,f,r]] w0 (bF w0 G fun v G'=>v=vi (eD x:Nat)∧G=G'):=by
 refine eN [(0,_)] func36 rfl ntmps36 rfl rfl hG ?_;intro a H;refine dH (fun _ K1=>?_);refine fq (cs:=[_,_,_,_,_,_,_,_,_,_,_]) H wn rfl rfl rfl ?_;clear H;intro b1 a w hb1 H;refine kH H (ak K1 rfl (SQ fun _ K2=>SR fun _ K3=>aW jD aH 0 rfl rfl (Rc rfl (Kz K3 (Cd rfl ?_ ?_))))) <;> clear H K1 K3
 ·intro h7 a H
  try have p7:=dT h7
  refine kP H (SR fun _ K4=>aW tZ gG 0 rfl rfl ?_);clear H;intro a H;refine s_call Nh H wn rfl (MN _ _ H.ro _ hs) rfl ?_;clear H;rintro v11 _ a w ⟨rfl,rfl⟩ - H;refine kH H (Rm rfl ?_);clear H;intro a H;(iterate 2 refine jN H wn rfl rfl rfl ?_;clear H;intro a H);exact kH H (Ra rfl (ak K4 rfl (SR fun _ K5=>Rm rfl (ak K5 rfl (LR results36 rfl fun H=>H.rt ⟨by unfold eD;rw [au p7],rfl⟩)))))
 intro h7 a H
 try have p7:=dF h7
 exact kP H (Kc K2 (SR fun _ K6=>ak K6 rfl (LR results36 rfl fun H=>H.rt ⟨by unfold eD;rw [ah p7];rfl,rfl⟩)))
theorem aao {G:GH} {l:List bX} {xs:List aj} (h:fD G 5 (l.map bX.dat) xs):xs=qK l:=by
 obtain ⟨css,rfl,h2,h3⟩:=h;rw [bU] at h2
 have e:css=l.map bX.cells:=by
  apply List.ext_getElem?
  intro j;rw [qp]
  by_cases hj:j < l.length
  ·have h4:=(h3 j l[j].dat css[j] (by simp [hj]) (gY (by omega))).1;rw [gY hj,gY (by omega),Sq h4];rfl
  rw [List.getElem?_eq_none (by omega),List.getElem?_eq_none (by omega)];rfl
 rw [e];rfl
theorem Sn (a b:List bX):qK (a++b)=qK a++qK b:=by unfold qK;rw [lG,List.flatten_append]
abbrev vN (v:aj) (A:List bX) (Lo:OL):Prop:=dJ 47 5 v A.length (qK A) Lo
theorem vN.one {v:aj} {A:List bX} {Lo:OL} (a:bX) (h:dJ 47 5 v (A.length+1) (qK A++a.cells) Lo):vN v (A++[a]) Lo:=by
 show dJ _ 5 v (A++[a]).length (qK (A++[a])) Lo
 rw [lF,Sn]
 have e:qK [a]=a.cells:=by simp [qK]
 rw [e];exact h
theorem vN.app {G:GH} {v:aj} {A B:List bX} {n:Nat} {news:List aj} {Lo:OL} (h:dJ 47 5 v (A.length+n) (qK A++news) Lo) (hn:B.length=n) (hc:fD G 5 (B.map bX.dat) news):vN v (A++B) Lo:=by
 show dJ _ 5 v (A++B).length (qK (A++B)) Lo
 rw [lF,Sn,hn,← aao hc];exact h
def Md (m:Nat):Prop:=∀ (G:GH) (w0:World),Hold G w0→∀ (g:Int) (l:List ay) (u:aj),av G (.sl 11 (l.map ay.dat)) u→dX l→bq l < m →
 Calls prog 12 #[u,vi g] w0 (bF w0 G fun r G'=>av G' (.sl 5 ((dB g 0 l).map bX.dat)) r)
set_option maxHeartbeats 4000000 in
theorem aip {m:Nat} (ih:Md m) (hm:m≤1073741824):Md (m+1):=by
 intro G w0 hG g l u hu hok hz;obtain ⟨A,c,rfl,hc1,hc2,hgu⟩:=hu.slice;rw [bU] at *;have hll:=zF l;have hln:=yE g 0 l;have hml:maxLen=9223372036854775807:=rfl;refine eN [(0,_),(1,_)] func12 rfl ntmps12 rfl rfl hG ?_;intro a H;refine kP H (SR fun _ K1=>ak K1 rfl (SR fun _ K2=>ak K2 rfl (SR fun _ K3=>ak K3 rfl (SQ fun _ K4=>SR fun _ K5=>ak K5 rfl (SB ?_)))));clear H K1 K2 K3 K5;intro a H;skip;refine eU (ι:=Nat × Nat × aj × List bX × OL × GH) (Tc:=[(0,_),(1,_)]) (Lc:=[]) (fun gh=>[(5,gh.2.2.1),(6,vi gh.2.1),(7,vi gh.1)]) (fun gh=>[]++gh.2.2.2.2.1) (fun gh=>gh.2.2.2.2.2) (fun gh=>gh.1≤l.length∧vN gh.2.2.1 gh.2.2.2.1 gh.2.2.2.2.1∧gh.2.2.2.1++dB g gh.2.1 (l.drop gh.1)=dB g 0 l∧dX (l.drop gh.1)∧gh.2.1+bq (l.drop gh.1)≤4294967297∧(∀ b o,G b=some o→gh.2.2.2.2.2 b=some o)) (fun gh=>l.length - gh.1) ((0,0,.slice none 0 0,[],[],G)) (by exact (H).sub ⟨rfl,rfl,rfl,rfl,rfl,aD⟩) ?_ ?_
 ·exact ⟨ig _,dJ.nil,rfl,hok,by dsimp only;rw [uR];omega,fun _ _ h=>h⟩
 clear H;intro gh a w hI H;obtain ⟨k,t,v5,A1,Lo,g1⟩:=gh;dsimp only at hI H;obtain ⟨hk,hr1,hX,hok1,hat,hg1⟩:=hI
 have hl1:A1.length≤bq l:=by have:=aF List.length hX;rw [lF] at this;omega
 obtain ⟨v5A,v5c,rfl,-,-⟩:=hr1.shape;dsimp only [lca,bD] at H;refine kP H (SQ fun _ K6=>SR fun _ K7=>Rm rfl (Rm rfl (Rl fU rfl (Rc rfl (Kz K7 (Cd rfl ?_ ?_)))))) <;> clear H K7
 ·intro dN a H
  try have mH:=dT dN
  have hk2:k < l.length:=by omega
  obtain ⟨b,o,pA,pn,pc,dA,dn,dc,yA,yn,yc,fA,fn,fc,rA,rn,rc,rfl,hrow,hhd,hfl,hrw⟩:=wX hk2 hgu;replace hrow:=fun j u hj=>aM hg1 (hrow j u hj);replace hfl:=hfl.mono hg1;replace hrw:=hrw.mono hg1;have hrn:=hrw.len;rw [bU] at hrn;subst hrn;have hzs:=Y8 hk2;have hzi:=nU l[k];have DF:=Ei (iM hk2);have Dz:=PO l[k];rw [kS hk2] at hX hok1;obtain ⟨hox,hok2⟩:=hok1.head;rw [dB,Mk,hox.n1] at hX;rw [hox.n1] at Dz;obtain ⟨x,hx⟩:∃ x,x=l[k]:=⟨_,rfl⟩;rw [← hx] at hX hox hrow hhd hfl hrw hzs hzi DF Dz;have hrl:=FT x.rows;refine kP H (Kc K6 (SQ fun _ K8=>SB (SR fun _ K9=>Rm rfl (Rm rfl (Ri fU dx rfl rfl ?_)))));clear H K6;intro a H;refine bK dx (cs:=[vi x.kind,vi x.code,vi x.id,.string x.text,.slice pA pn pc,vi x.head.marks.ins,vi x.head.marks.move,.slice dA dn dc,.slice yA yn yc,.slice fA fn fc,.slice rA x.rows.length rc]) H wn rfl rfl (fun j v hj=>H.hp.aL (hrow j v hj)) rfl ?_;clear H;intro a H;refine eZ dx H wn rfl ?_;clear H;intro b8 a w Hf H;refine bM dx 0 (vs:=[_,_,_,_,_,_,_,_,_,_,_]) _ H wn rfl rfl rfl rfl rfl rfl rfl rfl ?_;clear H;intro w H;dsimp only [List.set,setRow] at H;refine K9 _ _ ?_;clear K9;refine qy (ι:=aj × List bX × OL) (Tc:=[(0,_),(1,_),(6,_),(7,_),(8,_)]) (Lc:=[(_,_)]) (fun gh=>[(5,gh.1)]) (fun gh=>[]++gh.2.2) (fun gh=>g1) (fun gh=>vN gh.1 gh.2.1 gh.2.2∧gh.2.1=A1++(if x.kind=8 then [⟨x.code,x.id,x.text,g,(t:Int)⟩] else [])) (by exact (H).sub ⟨rfl,rfl,rfl,rfl,rfl,aD⟩) ?_ ?_
  ·skip;refine kP H (SR fun _ aT=>aW jD aH 0 rfl rfl (Rc rfl (Kz aT (Cd rfl ?_ ?_)))) <;> clear H aT
   ·intro h23 a H
    try have rW:=dT h23
    refine kP H (SC (Rm rfl (aW CY aH 0 rfl rfl (aW yO aH 0 rfl rfl (aW tZ gG 0 rfl rfl (Rm rfl (Rm rfl ?_)))))));clear H;intro a H;refine ku Qv [_,_] H wn rfl rfl rfl rfl ?_;clear H;intro a H;refine ku Ym [_,_,_,_,_] H wn rfl rfl rfl rfl ?_;clear H;intro a H;refine gU mX jP [_,_,_,_,_] [_,_,_,_,_] H wn rfl rfl rfl rfl rfl (by intro i q h;match i,h with|0,h=>exact h|n+1,h=>simp at h) rfl rfl ?_;clear H;intro b35 a w alJ H;refine oN (Li:=[_,_]) (Lo:=Lo) (news:=[vi x.code,vi x.id,.string x.text,vi g,vi t]) mX jP rfl rfl H wn rfl rfl hr1 rfl (H.hp.eF 0 rfl rfl) rfl (by omega) (by omega) rfl ?_;clear H;intro v36 ZU a w agJ H;refine kH H (Ra rfl ?_);clear H;intro a H;refine aI ?_;refine ⟨(v36,A1++[⟨x.code,x.id,x.text,g,(t:Int)⟩],ZU),by exact (H.dV (Pl:=[_,_]) (dz:=[_]) [1] (by decide) rfl).sub ⟨rfl,rfl,rfl,rfl,rfl,rfl,aD⟩,?_⟩;(try dsimp only);exact ⟨vN.one ⟨x.code,x.id,x.text,g,(t:Int)⟩ agJ,by rw [au rW]⟩
   intro h23 a H
   try have rW:=dF h23
   refine fT ?_;refine ⟨(_,A1,Lo),by exact (H).sub ⟨rfl,rfl,rfl,rfl,rfl,rfl,aD⟩,?_⟩;(try dsimp only);exact ⟨hr1,by rw [ah rW,oF]⟩
  clear H;intro gh a w hI H;obtain ⟨v2,A2,Jh⟩:=gh;dsimp only at hI H;obtain ⟨hr2,hX2⟩:=hI
  have hl2:A2.length≤bq l+1:=by rw [hX2,lF];split <;> simp only [nV,List.length_nil] <;> omega
  obtain ⟨v2A,v2c,rfl,-,-⟩:=hr2.shape;dsimp only [lca,bD] at H;refine qy (ι:=aj × List bX × OL × GH) (Tc:=[(0,_),(1,_),(6,_),(7,_),(8,_)]) (Lc:=[(_,_)]) (fun gh=>[(5,gh.1)]) (fun gh=>[]++gh.2.2.1) (fun gh=>gh.2.2.2) (fun gh=>vN gh.1 gh.2.1 gh.2.2.1∧gh.2.1=A2++(if x.kind=6 then dB x.id 0 x.flow else [])∧gh.2.1.length≤bq l+1∧(∀ b o,g1 b=some o→gh.2.2.2 b=some o)) (by exact (H).sub ⟨rfl,rfl,rfl,rfl,rfl,aD⟩) ?_ ?_
  ·skip;refine kP H (SR fun _ bC=>aW jD aH 0 rfl rfl (Rc rfl (Kz bC (Cd rfl ?_ ?_)))) <;> clear H bC
   ·intro kU a H
    try have p39:=dT kU
    refine kP H (SC (Rm rfl (aW wW gW 0 rfl rfl (aW yO aH 0 rfl rfl ?_))));clear H;intro a H;refine s_call M5 H wn rfl (ih _ _ H.ro x.id x.flow _ hfl hox.fl (by omega)) rfl ?_;clear H;rintro v45 LY a w E8 OJ H;obtain ⟨A45,n45,c45,rfl⟩:=E8.form;have hn45:=E8.len;rw [bU] at hn45;have alV:=yE x.id 0 x.flow;refine XP (Li:=[_]) (Lo:=Jh) mX jP rfl rfl H wn rfl rfl hr2 E8 (by omega) (by omega) rfl ?_;clear H;intro v46 CF amu a w agL afU H;refine kH H (Ra rfl ?_);clear H;intro a H;refine aI ?_;refine ⟨(v46,A2++dB x.id 0 x.flow,CF,LY),by exact (H).sub ⟨rfl,rfl,rfl,rfl,rfl,rfl,aD⟩,?_⟩;(try dsimp only);exact ⟨vN.app agL hn45.symm afU,by rw [au p39],by have:=aF List.length hX;simp only [hX2,lF,au p39,ah (show ¬ x.kind=8 by omega),List.length_nil] at this ⊢;omega,OJ⟩
   intro kU a H
   try have p39:=dF kU
   refine fT ?_;refine ⟨(_,A2,Jh,g1),by exact (H).sub ⟨rfl,rfl,rfl,rfl,rfl,rfl,aD⟩,?_⟩;(try dsimp only);exact ⟨hr2,by rw [ah p39,oF],hl2,fun _ _ h=>h⟩
  clear H;intro gh a w hI H;obtain ⟨v3,A3,ZT,g2⟩:=gh;dsimp only at hI H;obtain ⟨hr3,Dj,hl3,hg2⟩:=hI;obtain ⟨v3A,v3c,rfl,-,-⟩:=hr3.shape;dsimp only [lca,bD] at H;refine kP H (SQ fun _ bJ=>SR fun _ bT=>ak bT rfl (SB ?_));clear H bT;intro a H;skip;refine eU (ι:=Nat × aj × List bX × OL × GH) (Tc:=[(0,_),(1,_),(6,_),(7,_),(8,_)]) (Lc:=[(_,_)]) (fun gh=>[(5,gh.2.1),(9,vi gh.1)]) (fun gh=>[]++gh.2.2.2.1) (fun gh=>gh.2.2.2.2) (fun gh=>gh.1≤x.rows.length∧vN gh.2.1 gh.2.2.1 gh.2.2.2.1∧gh.2.2.1++mM (x.rows.drop gh.1)=A3++mM x.rows∧(∀ b o,g2 b=some o→gh.2.2.2.2 b=some o)) (fun gh=>x.rows.length - gh.1) ((0,_,A3,ZT,g2)) (by exact (H).sub ⟨rfl,rfl,rfl,rfl,rfl,rfl,rfl,aD⟩) ?_ ?_
  ·exact ⟨ig _,hr3,rfl,fun _ _ h=>h⟩
  clear H;intro gh a w hI H;obtain ⟨rk,v4,A4,R3,g3⟩:=gh;dsimp only at hI H;obtain ⟨HY,hr4,rO,hg3⟩:=hI;obtain ⟨v4A,v4c,rfl,-,-⟩:=hr4.shape;dsimp only [lca,bD] at H;refine kP H (SQ fun _ bS=>SR fun _ dD=>Rm rfl (aW oH oQ 0 rfl rfl (Rl lS rfl (Rc rfl (Kz dD (Cd rfl ?_ ?_)))))) <;> clear H dD
  ·intro jl a H
   try have p51:=dT jl
   have hk3:rk < x.rows.length:=by omega
   obtain ⟨b2,o2,qA,qn,qc,eA,en,ec,zA,zn,zc,cA,cn,cc,rfl,hrow2,xJ,hcl⟩:=Fx hk3 ((hrw.mono hg2).mono hg3).at_;have hcn:=hcl.len;rw [bU] at hcn;subst hcn;have r5:aL g3 b2 (o2+rk*6+5)=some (.slice cA x.rows[rk].cells.length cc):=hrow2 5 _ rfl;have hsz2:=IQ hk3;have hcs:=FR x.rows[rk].cells;have hoc:=hox.rw _ (iM hk3);have har:=Ml x.rows;rw [kS hk3,mM,Si] at rO;obtain ⟨y,hy⟩:∃ y,y=x.rows[rk]:=⟨_,rfl⟩;rw [← hy] at r5 rO hrow2 xJ hcl hsz2 hcs hoc;refine kP H (Kc bS (SQ fun _ dM=>SB (SR fun _ cZ=>ak cZ rfl (SB ?_))));clear H bS cZ;intro a H;skip;refine eU (ι:=Nat × aj × List bX × OL × GH) (Tc:=[(0,_),(1,_),(6,_),(7,_),(8,_),(9,_)]) (Lc:=[(_,_)]) (fun gh=>[(5,gh.2.1),(10,vi gh.1)]) (fun gh=>[]++gh.2.2.2.1) (fun gh=>gh.2.2.2.2) (fun gh=>gh.1≤y.cells.length∧vN gh.2.1 gh.2.2.1 gh.2.2.2.1∧gh.2.2.1++(pF (y.cells.drop gh.1)++mM (x.rows.drop (rk+1)))=A4++(pF y.cells++mM (x.rows.drop (rk+1)))∧(∀ b o,g3 b=some o→gh.2.2.2.2 b=some o)) (fun gh=>y.cells.length - gh.1) ((0,_,A4,R3,g3)) (by exact (H).sub ⟨rfl,rfl,rfl,rfl,rfl,rfl,rfl,rfl,aD⟩) ?_ ?_
   ·exact ⟨ig _,hr4,rfl,fun _ _ h=>h⟩
   clear H;intro gh a w hI H;obtain ⟨ck,v5',A5,R4,g4⟩:=gh;dsimp only at hI H;obtain ⟨hck,O1,ES,hg4⟩:=hI;have Fv:=aM hg4 r5
   have hl5:A5.length≤bq l+1+gZ x.rows:=by
    have h1:=aF List.length ES;have h2:=aF List.length rO
    simp only [lF] at h1 h2
    omega
   obtain ⟨IC,IE,rfl,-,-⟩:=O1.shape;dsimp only [lca,bD] at H;refine kP H (SQ fun _ dW=>SR fun _ fZ=>Rm rfl (aW oH oQ 0 rfl rfl (Rm rfl (Ri lS jV rfl rfl (Rf uf rfl (Rg uI rfl Fv (Rl oV rfl (Rc rfl (Kz fZ (Cd rfl ?_ ?_)))))))))) <;> clear H fZ
   ·intro Db a H
    try have p62:=dT Db
    have hk4:ck < y.cells.length:=by omega
    obtain ⟨b3,o3,sA,sn,sc,tA,tn,tc,uA,un,uc,gA,gn,gc,rfl,hrow3,hch,hcf⟩:=EC hk4 (hcl.mono hg4).at_;have H7:=IJ hk4;have Dr:=hoc _ (iM hk4);have hlz:=yE y.cells[ck].id 0 y.cells[ck].flow;rw [kS hk4,pF,Sd,nW] at ES;obtain ⟨z,hzy⟩:∃ z,z=y.cells[ck]:=⟨_,rfl⟩;rw [← hzy] at ES hrow3 hch hcf H7 Dr hlz;refine kP H (Kc dW (SQ fun _ eG=>SB ?_));clear H dW;intro a H
    have nk:∀ (bH:Nat) (v:aj) (G G':GH),(∀ k o,G k=some o→G' k=some o)→(fun (bH:Nat) (v:aj) (G:GH)=>match bH with|0=>v=.slice IC A5.length IE|1=>v=(aJ b8 10)|2=>v=.slice (some ⟨b2,o2,none⟩) x.rows.length rc|3=>v=vi rk|4=>v=(aJ b2 (o2+rk*6))|5=>v=(aJ b2 (o2+rk*6+5))|6=>v=.slice (some ⟨b3,o3,none⟩) y.cells.length cc|7=>v=vi ck|8=>v=(aJ b3 (o3+ck*7))|9=>v=(aJ b3 (o3+ck*7+6))|10=>v=.slice gA gn gc|11=>v=(aJ b8 10)|12=>v=.slice (some ⟨b2,o2,none⟩) x.rows.length rc|13=>v=vi rk|14=>v=(aJ b2 (o2+rk*6))|15=>v=(aJ b2 (o2+rk*6+5))|16=>v=.slice (some ⟨b3,o3,none⟩) y.cells.length cc|17=>v=vi ck|18=>v=(aJ b3 (o3+ck*7))|19=>v=(aJ b3 (o3+ck*7+0))|20=>v=vi z.id|21=>av G (.sl 5 ((dB z.id 0 z.flow).map bX.dat)) v|_=>True) bH v G→(fun (bH:Nat) (v:aj) (G:GH)=>match bH with|0=>v=.slice IC A5.length IE|1=>v=(aJ b8 10)|2=>v=.slice (some ⟨b2,o2,none⟩) x.rows.length rc|3=>v=vi rk|4=>v=(aJ b2 (o2+rk*6))|5=>v=(aJ b2 (o2+rk*6+5))|6=>v=.slice (some ⟨b3,o3,none⟩) y.cells.length cc|7=>v=vi ck|8=>v=(aJ b3 (o3+ck*7))|9=>v=(aJ b3 (o3+ck*7+6))|10=>v=.slice gA gn gc|11=>v=(aJ b8 10)|12=>v=.slice (some ⟨b2,o2,none⟩) x.rows.length rc|13=>v=vi rk|14=>v=(aJ b2 (o2+rk*6))|15=>v=(aJ b2 (o2+rk*6+5))|16=>v=.slice (some ⟨b3,o3,none⟩) y.cells.length cc|17=>v=vi ck|18=>v=(aJ b3 (o3+ck*7))|19=>v=(aJ b3 (o3+ck*7+0))|20=>v=vi z.id|21=>av G (.sl 5 ((dB z.id 0 z.flow).map bX.dat)) v|_=>True) bH v G':=by
     intro bH v G G' hm h
     match bH,h with
     | 0,h=>exact h
     | 1,h=>exact h
     | 2,h=>exact h
     | 3,h=>exact h
     | 4,h=>exact h
     | 5,h=>exact h
     | 6,h=>exact h
     | 7,h=>exact h
     | 8,h=>exact h
     | 9,h=>exact h
     | 10,h=>exact h
     | 11,h=>exact h
     | 12,h=>exact h
     | 13,h=>exact h
     | 14,h=>exact h
     | 15,h=>exact h
     | 16,h=>exact h
     | 17,h=>exact h
     | 18,h=>exact h
     | 19,h=>exact h
     | 20,h=>exact h
     | 21,h=>exact av.mono hm h
     | 22,h=>exact trivial
     | 23,h=>exact trivial
     | _+24,h=>exact trivial
    refine yJ (hmx) [[],[],[1],[],[1,2,3],(ra 1 4),(ra 1 5),[],(ra 1 7),(ra 1 8),(ra 1 9),[],[11],[],[11,12,13],(ra 11 4),(ra 11 5),[],(ra 11 7),(ra 11 8),(ra 11 9),(ra 1 20),(ra 0 22),(ra 0 23)] [22,23] (by kernel_rfl) (by kernel_rfl) (fun (bH:Nat) (v:aj) (G:GH)=>match bH with|0=>v=.slice IC A5.length IE|1=>v=(aJ b8 10)|2=>v=.slice (some ⟨b2,o2,none⟩) x.rows.length rc|3=>v=vi rk|4=>v=(aJ b2 (o2+rk*6))|5=>v=(aJ b2 (o2+rk*6+5))|6=>v=.slice (some ⟨b3,o3,none⟩) y.cells.length cc|7=>v=vi ck|8=>v=(aJ b3 (o3+ck*7))|9=>v=(aJ b3 (o3+ck*7+6))|10=>v=.slice gA gn gc|11=>v=(aJ b8 10)|12=>v=.slice (some ⟨b2,o2,none⟩) x.rows.length rc|13=>v=vi rk|14=>v=(aJ b2 (o2+rk*6))|15=>v=(aJ b2 (o2+rk*6+5))|16=>v=.slice (some ⟨b3,o3,none⟩) y.cells.length cc|17=>v=vi ck|18=>v=(aJ b3 (o3+ck*7))|19=>v=(aJ b3 (o3+ck*7+0))|20=>v=vi z.id|21=>av G (.sl 5 ((dB z.id 0 z.flow).map bX.dat)) v|_=>True) nk H ?_ ?_
    ·clear H;refine aG ?_ ?_ ?_ ?_ (aG ?_ ?_ ?_ ?_ (aG ?_ ?_ ?_ ?_ (aG ?_ ?_ ?_ ?_ (aG ?_ ?_ ?_ ?_ (aG ?_ ?_ (bN rfl) (bN rfl) bZ)))))
     ·refine bW [] rfl trivial (by kernel_rfl) nk rfl rfl ?_;intro bg a w G1 hG HT H fin;exact kH H (Rm rfl fun _ H=>fin H iJ rfl)
     ·refine bW [] rfl trivial (by kernel_rfl) nk rfl rfl ?_;intro bg a w G1 hG HT H fin;exact kH H (Rf oH rfl fun _ H=>fin H iJ rfl)
     ·refine bW [(1,66,_)] rfl ⟨fun _ _ h=>h,aD⟩ (by kernel_rfl) nk rfl rfl ?_;intro bg a w G1 hG HT H fin;exact kH H (Ro oQ 0 rfl fun _ H=>fin H iJ rfl)
     ·refine bW [] rfl trivial (by kernel_rfl) nk rfl rfl ?_;intro bg a w G1 hG HT H fin;exact kH H (Rm rfl fun _ H=>fin H iJ rfl)
     ·refine bW [(2,67,_),(3,68,_)] rfl ⟨fun _ _ h=>h,fun _ _ h=>h,aD⟩ (by kernel_rfl) nk rfl rfl ?_;intro bg a w G1 hG HT H fin;exact kH H (Ri lS jV rfl rfl fun _ H=>fin H iJ rfl)
     ·refine bW [(4,69,_)] rfl ⟨fun _ _ h=>h,aD⟩ (by kernel_rfl) nk rfl rfl ?_;intro bg a w G1 hG HT H fin;exact kH H (Rf uf rfl fun _ H=>fin H iJ rfl)
     ·refine bW [(5,70,_)] rfl ⟨fun _ _ h=>h,aD⟩ (by kernel_rfl) nk rfl rfl ?_;intro bg a w G1 hG HT H fin;exact kH H (Rg uI rfl (aM hG Fv) fun _ H=>fin H iJ rfl)
     ·refine bW [] rfl trivial (by kernel_rfl) nk rfl rfl ?_;intro bg a w G1 hG HT H fin;exact kH H (Rm rfl fun _ H=>fin H iJ rfl)
     ·refine bW [(6,71,_),(7,72,_)] rfl ⟨fun _ _ h=>h,fun _ _ h=>h,aD⟩ (by kernel_rfl) nk rfl rfl ?_;intro bg a w G1 hG HT H fin;exact kH H (Ri oV kN rfl rfl fun _ H=>fin H iJ rfl)
     ·refine bW [(8,73,_)] rfl ⟨fun _ _ h=>h,aD⟩ (by kernel_rfl) nk rfl rfl ?_;intro bg a w G1 hG HT H fin;exact kH H (Rf CZ rfl fun _ H=>fin H iJ rfl)
     ·refine bW [(9,74,_)] rfl ⟨fun _ _ h=>h,aD⟩ (by kernel_rfl) nk rfl rfl ?_;intro bg a w G1 hG HT H fin;exact kH H (Rg gW rfl (aM hG (hrow3 6 _ rfl)) fun _ H=>fin H iJ rfl)
     ·refine bW [] rfl trivial (by kernel_rfl) nk rfl rfl ?_;intro bg a w G1 hG HT H fin;exact kH H (Rf oH rfl fun _ H=>fin H iJ rfl)
     ·refine bW [(11,76,_)] rfl ⟨fun _ _ h=>h,aD⟩ (by kernel_rfl) nk rfl rfl ?_;intro bg a w G1 hG HT H fin;exact kH H (Ro oQ 0 rfl fun _ H=>fin H iJ rfl)
     ·refine bW [] rfl trivial (by kernel_rfl) nk rfl rfl ?_;intro bg a w G1 hG HT H fin;exact kH H (Rm rfl fun _ H=>fin H iJ rfl)
     ·refine bW [(12,77,_),(13,78,_)] rfl ⟨fun _ _ h=>h,fun _ _ h=>h,aD⟩ (by kernel_rfl) nk rfl rfl ?_;intro bg a w G1 hG HT H fin;exact kH H (Ri lS jV rfl rfl fun _ H=>fin H iJ rfl)
     ·refine bW [(14,79,_)] rfl ⟨fun _ _ h=>h,aD⟩ (by kernel_rfl) nk rfl rfl ?_;intro bg a w G1 hG HT H fin;exact kH H (Rf uf rfl fun _ H=>fin H iJ rfl)
     ·refine bW [(15,80,_)] rfl ⟨fun _ _ h=>h,aD⟩ (by kernel_rfl) nk rfl rfl ?_;intro bg a w G1 hG HT H fin;exact kH H (Rg uI rfl (aM hG Fv) fun _ H=>fin H iJ rfl)
     ·refine bW [] rfl trivial (by kernel_rfl) nk rfl rfl ?_;intro bg a w G1 hG HT H fin;exact kH H (Rm rfl fun _ H=>fin H iJ rfl)
     ·refine bW [(16,81,_),(17,82,_)] rfl ⟨fun _ _ h=>h,fun _ _ h=>h,aD⟩ (by kernel_rfl) nk rfl rfl ?_;intro bg a w G1 hG HT H fin;exact kH H (Ri oV kN rfl rfl fun _ H=>fin H iJ rfl)
     ·refine bW [(18,83,_)] rfl ⟨fun _ _ h=>h,aD⟩ (by kernel_rfl) nk rfl rfl ?_;intro bg a w G1 hG HT H fin;exact kH H (Rf EN rfl fun _ H=>fin H iJ rfl)
     ·refine bW [(19,84,_)] rfl ⟨fun _ _ h=>h,aD⟩ (by kernel_rfl) nk rfl rfl ?_;intro bg a w G1 hG HT H fin;exact kH H (Rg aH rfl (aM hG (hrow3 0 _ rfl)) fun _ H=>fin H iJ rfl)
     refine bW [(10,75,_),(20,85,_)] rfl ⟨fun _ _ h=>h,fun _ _ h=>h,aD⟩ (by kernel_rfl) nk rfl rfl ?_;intro bg a w G1 hG HT H fin;refine s_call M5 H wn rfl (ih _ _ H.ro z.id z.flow _ (hcf.mono hG) Dr (by omega)) rfl ?_;clear H;rintro v86 G86 a w E9 afv H;exact fin H afv (E9)
    clear H;intro a w G afe H hv;have H:=H.aQ (hv 0 65 rfl rfl) rfl;obtain ⟨u86,ahd,E9⟩:=hv 21 86 (by decide) rfl;(try dsimp only at E9);obtain ⟨A86,n86,c86,rfl⟩:=E9.form;have VA:=E9.len;rw [bU] at VA;have H:=H.iY ahd;clear hv;refine XP (Li:=[_]) (Lo:=R4) mX jP rfl rfl H wn rfl rfl O1 E9 (by omega) (by omega) rfl ?_;clear H;intro v87 ZY amv a w agN afV H;refine kH H (Ra rfl ?_);clear H;intro a H;refine aI ⟨rfl,?_⟩;refine eG _ _ ?_;clear eG;refine kP H (SC (Rm rfl (Rd rfl (Ra rfl ?_))));clear H;intro a H;refine aI ?_;refine cK ((ck+1,v87,A5++dB z.id 0 z.flow,ZY,_)) (by exact (H).sub ⟨rfl,rfl,rfl,rfl,rfl,rfl,rfl,rfl,aD⟩) ?_ ?_
    ·(try dsimp only);exact ⟨by omega,vN.app agN VA.symm afV,by rw [← ES,nW],fun b o h=>afe b o (hg4 b o h)⟩
    first|omega|(dsimp only;omega)
   intro Db a H
   try have p62:=dF Db
   refine dQ ?_;refine dM _ _ ?_;clear dM;refine kP H (SC (Rm rfl (Rd rfl (Ra rfl ?_))));clear H;intro a H;refine aI ?_;refine cK ((rk+1,_,A5,R4,g4)) (by exact (H).sub ⟨rfl,rfl,rfl,rfl,rfl,rfl,rfl,aD⟩) ?_ ?_
   ·(try dsimp only);rw [iq (by omega),pF,jX] at ES;exact ⟨by omega,O1,ES.trans rO,fun b o h=>hg4 b o (hg3 b o h)⟩
   first|omega|(dsimp only;omega)
  intro jl a H
  try have p51:=dF jl
  refine dQ ?_;refine bJ _ _ ?_;clear bJ;refine kP H (SC (Rm rfl ?_));clear H;intro a H;refine bK dx (cs:=[_,_,_,_,_,_,_,_,_,_,_]) H wn rfl rfl (H.hp.eF 0 rfl rfl) rfl ?_;clear H;intro a H;refine s_call TV H wn rfl (Yz _ _ H.ro x _ _ _ _ _ _ _ _ _ (by omega)) rfl ?_;clear H;rintro v90 _ a w ⟨rfl,rfl⟩ - H;refine kH H (Rd rfl (aV K8 rfl (SC (Rm rfl (Rd rfl (Ra rfl ?_))))));clear H K8;intro a H;refine aI ?_;refine cK ((k+1,t+eD x,_,A4,R3,g3)) (by exact (H.dV (Pl:=[_]) (dz:=[]) [] (by decide) rfl).sub ⟨rfl,rfl,rfl,rfl,rfl,aD⟩) ?_ ?_
  ·try dsimp only
   have agI:(if x.kind=7 then mM x.rows else [])=mM x.rows:=by
    by_cases h7:x.kind=7
    ·rw [au h7]
    rw [ah h7,hox.Io h7];rfl
   rw [iq (by omega),mM,oF] at rO;exact ⟨by omega,hr4,by rw [rO,Dj,hX2,← hX,agI];simp only [nW],hok2,by omega,fun b o h=>hg3 b o (hg2 b o (hg1 b o h))⟩
  first|omega|(dsimp only;omega)
 intro dN a H
 try have mH:=dF dN
 refine dQ ?_;refine K4 _ _ ?_;clear K4;refine kP H (SR fun _ gq=>Rm rfl (ak gq rfl ?_));clear H gq;intro a H;refine lr H results12 rfl ?_;rw [iq (by omega),dB,oF] at hX;obtain ⟨Gr,hmr,hrep,H⟩:=St.uh (Li:=[]) H hr1 (rows:=A1.map bX.dat) (by simp) (Mt _ _);exact H.rt (by rw [← hX];exact hrep)
theorem W9:∀ m:Nat,m≤1073741825→Md m
 | 0,_=>fun _ _ _ _ _ _ _ _ h=>absurd h (by omega)
 | m+1,hm=>aip (W9 m (by omega)) (by omega)
def vv (A:List bX) (c i:Int):Int:=match A.findIdx? (fun a=>decide (a.code=c∧a.id=i)) with|some k=>k|none=>-1
theorem UM (G:GH) (w0:World) (hG:Hold G w0) (A:List bX) (v:aj) (c i:Int) (hv:av G (.sl 5 (A.map bX.dat)) v) (hl:A.length≤4294967296) :
  Calls prog 38 #[v,vi c,vi i] w0 (bF w0 G fun u G'=>u=vi (vv A c i)∧G=G'):=by
 obtain ⟨vA,n,cc,rfl⟩:=hv.form;have hn:=hv.len;rw [bU] at hn;subst hn;refine eN [(0,_),(1,_),(2,_)] func38 rfl ntmps38 rfl rfl hG ?_;intro a H;refine kP H (SR fun _ K1=>ak K1 rfl (SQ fun _ K2=>SR fun _ K3=>ak K3 rfl (SB ?_)));clear H K1 K3;intro a H;skip;refine eU (ι:=Nat) (Tc:=[(0,_),(1,_),(2,_)]) (Lc:=[]) (fun gh=>[(7,vi gh)]) (fun gh=>[]) (fun gh=>G) (fun gh=>gh≤A.length∧(A.take gh).findIdx? (fun a=>decide (a.code=c∧a.id=i))=none) (fun gh=>A.length - gh) (0) (by exact (H).sub ⟨rfl,rfl,rfl,rfl,aD⟩) ?_ ?_
 ·exact ⟨by omega,rfl⟩
 clear H;intro gh a w hI H;obtain ⟨k,hgh⟩:∃ x,x=gh:=⟨_,rfl⟩;subst hgh;obtain ⟨hk,hno⟩:=hI;dsimp only [lca,bD] at H;refine kP H (SQ fun _ K4=>SR fun _ K5=>Rm rfl (Rm rfl (Rl mX rfl (Rc rfl (Kz K5 (Cd rfl ?_ ?_)))))) <;> clear H K5
 ·intro h11 a H
  try have nM:=dT h11
  have hk2:k < A.length:=by omega
  obtain ⟨b,o,rfl,hrow⟩:=Gg hv hk2;refine kP H (Kc K4 (SQ fun _ K6=>SB (SR fun _ K7=>Rm rfl (Rm rfl (Ri mX jP rfl rfl (Rf GU rfl (Rg aH rfl (hrow 0 _ rfl) (Rm rfl (Rc rfl (Rm rfl (Sp 21 rfl ?_ ?_))))))))))) <;> clear H K4
  ·intro h21 a H
   try have qb:=dT h21
   refine kH H (YM h21 rfl (YM h21 rfl (YI mX jP h21 rfl rfl (YF Bp h21 rfl (YR aH h21 rfl (hrow 1 _ rfl) (YM h21 rfl (YC h21 rfl (Pt h21 rfl (Kz K7 (Cd rfl ?_ ?_)))))))))) <;> clear H K7
   ·intro iD a H
    try have p29:=dT iD
    exact kP H (SR fun _ K8=>Rm rfl (ak K8 rfl (LR results38 rfl fun H=>H.rt ⟨by unfold vv;rw [uF hk2 hno (by simp_all)],rfl⟩)))
   intro iD a H
   try have p29:=dF iD
   refine kP H (Kc K6 (SC (Rm rfl (Rd rfl (Ra rfl ?_)))));clear H K6;intro a H;refine aI ?_;refine cK ((k+1)) (by exact (H).sub ⟨rfl,rfl,rfl,rfl,aD⟩) ?_ ?_
   ·exact ⟨by omega,Aw hk2 hno (by simp_all)⟩
   first|omega|(dsimp only;omega)
  intro h21 a H
  try have qb:=dF h21
  refine kH H (aY h21 rfl (aS h21 rfl (aS h21 rfl (Pf h21 rfl (Kz K7 (Cf rfl rfl (Kc K6 (SC (Rm rfl (Rd rfl (Ra rfl ?_)))))))))));clear H K7 K6;intro a H;refine aI ?_;refine cK ((k+1)) (by exact (H).sub ⟨rfl,rfl,rfl,rfl,aD⟩) ?_ ?_
  ·exact ⟨by omega,Aw hk2 hno (by simp_all)⟩
  first|omega|(dsimp only;omega)
 intro h11 a H
 try have nM:=dF h11
 refine dQ ?_;refine K2 _ _ ?_;clear K2;exact kP H (SR fun _ K9=>ak K9 rfl (LR results38 rfl fun H=>H.rt ⟨by rw [show A.take k=A from jQ (by omega)] at hno;unfold vv;rw [hno],rfl⟩))
end
section
open Go.RowKit
section
variable {N:Nat} {D:List Deferred} {w0:World} {F:Nat→Prop} {G0 G G1 G2:GH} {L L1 L2:OL} {T Xs:List (Nat × aj)}
variable {r:Option Nat} {P:Program} {Q:Exit→Act→World→Prop} {l:List Oper} {a a':Act} {w w':World}
theorem aaF {id:Nat} (hm:P.follows .mixedOrders=true) (bQ:List (List Nat)) (B:List Nat) (hk:yL l bQ=true) (hB:zu l bQ B=true) (m1 m2:Nat) (agt:B.contains m1=false) (Vw:B.contains m2=false) (h12:(bQ.getD m2 []).contains m1=true) (hne:Nat.beq m1 m2=false) (PU PV:Obj) (pr:Nat→Nat→aj→GH→Prop)
  (hp1:∀ b b' i v G,Nat.beq i m1=false→(bQ.getD i []).contains m1=false→pr b i v G→pr b' i v G)
  (H:St N D w0 F G0 G L T a w)
  (hstep:allI (fun i o=>∀ b L' S a w G1,(∀ x,x∈L→x∈L')→B.contains i=false→Nat.beq i m1=false→Nat.beq i m2=false→S i=false→(∀ j∈bQ.getD i [],S j=true)→(∀ k o,G k=some o→G1 k=some o)→St N D w0 F G0 G1 L' T a w→(∀ i d,S i=true→dZ l i=some d→∃ v,a.tmps[d]?=some v∧pr b i v G1) →
   WL r P l.toArray (fun e a' w'=>e=.normal∧DX N D w0 F G0 G L' T l (pr b) (dP S i) a' w') [o] a w) 0 l)
  (OP:∀ o S a w G1,l[m1]?=some o→S m1=false→(∀ j∈bQ.getD m1 [],S j=true)→(∀ k o,G k=some o→G1 k=some o)→St N D w0 F G0 G1 L T a w→(∀ b i d,i≠m1→S i=true→dZ l i=some d→∃ v,a.tmps[d]?=some v∧pr b i v G1) →
   WL r P l.toArray (fun e a' w'=>e=.normal∧∃ b,DX N D w0 F G0 G ((b,PU) :: L) T l (pr b) (dP S m1) a' w') [o] a w)
  (OQ:∀ o b S a w G1,l[m2]?=some o→S m2=false→(∀ j∈bQ.getD m2 [],S j=true)→(∀ k o,G k=some o→G1 k=some o)→St N D w0 F G0 G1 ((b,PU) :: L) T a w→(∀ i d,S i=true→dZ l i=some d→∃ v,a.tmps[d]?=some v∧pr b i v G1) →
   WL r P l.toArray (fun e a' w'=>e=.normal∧DX N D w0 F G0 G ((b,PV) :: L) T l (pr b) (dP S m2) a' w') [o] a w)
  (hend:∀ b a w G1,(∀ k o,G k=some o→G1 k=some o)→St N D w0 F G0 G1 ((b,PV) :: L) T a w→(∀ i d,B.contains i=false→dZ l i=some d→∃ v,a.tmps[d]?=some v∧pr b i v G1)→WL r P l.toArray (fun e a w=>e=.normal∧Q .normal a w) (qE l B) a w)
  (Hu:Nat.blt m2 l.length=true):WP r P (.region id l.toArray true) Q a w:=by
 have hne':m1≠m2:=fun e=>by subst e;rw [Nat.beq_refl] at hne;cases hne
 refine SV hm bQ B hk hB (fun S a w=>(S m2=true→S m1=true)∧∃ b L',L'=(bif S m2 then (b,PV) :: L else bif S m1 then (b,PU) :: L else L)∧DX N D w0 F G0 G L' T l (pr b) S a w)
  ⟨fun h=>h,0,L,rfl,G,fun _ _ h=>h,H.move H.hp.drew,fun _ _ h=>absurd (show false=true from h) (by decide)⟩ ?_ ?_
 ·rintro i o S a w ho hb bE lZ hdesc ⟨Hw,b,L',hL,G1,hG,HS,hv⟩
  have hsub:∀ x,x∈L→x∈L':=fun x hx=>by
   rw [hL]
   cases S m2 with
   | true=>exact jZ _ hx
   | false=>cases S m1 with
    | true=>exact jZ _ hx
    | false=>exact hx
  have hno:∀ j,j < l.length→S j=true→(bQ.getD j []).contains i=false:=fun j hjl hj=>by
   cases hc:(bQ.getD j []).contains i with
   | false=>rfl
   | true =>
    have:=hdesc j hjl (by simpa using hc)
    rw [this] at hj;cases hj
  by_cases h1:i=m1
  ·subst h1
   have hs2:S m2=false:=by
    cases hs:S m2 with
    | false=>rfl
    | true=>rw [Hw hs] at bE;cases bE
   rw [hs2,bE] at hL
   subst hL
   have h:=OP o S a w G1 ho bE lZ hG HS fun b' j d hj hSj hd=>by
    obtain ⟨v,hv1,hv2⟩:=hv j d hSj hd
    exact ⟨v,hv1,hp1 b b' j v _ (vW hj) (hno j (vZ hd) hSj) hv2⟩
   refine qI (fun e a' w' ⟨he,b',hD⟩=>⟨he,fun _=>au rfl,b',_,?_,hD⟩) h
   rw [show dP S i i=true from au rfl,show dP S i m2=S m2 from ah (fun e=>hne' e.symm),hs2]
   rfl
  ·by_cases h2:i=m2
   ·subst h2
    have hs1:S m1=true:=lZ m1 (by simpa using h12)
    rw [bE,hs1] at hL
    subst hL
    have h:=OQ o b S a w G1 ho bE lZ hG HS hv
    refine qI (fun e a' w' ⟨he,hD⟩=>⟨he,fun _=>by rw [show dP S i m1=S m1 from ah hne'];exact hs1,b,_,?_,hD⟩) h
    rw [show dP S i i=true from au rfl]
    rfl
   ·have h:=Ey hstep i o ho
    rw [kT] at h
    have e1:dP S i m1=S m1:=ah (fun e=>h1 e.symm)
    have e2:dP S i m2=S m2:=ah (fun e=>h2 e.symm)
    refine qI (fun e a' w' ⟨he,hD⟩=>⟨he,by rw [e1,e2];exact Hw,b,L',?_,hD⟩) (h b L' S a w G1 hsub hb (vW h1) (vW h2) bE lZ hG HS hv)
    rw [e1,e2];exact hL
 ·rintro S a w hall hnB ⟨Hw,b,L',hL,G1,hG,HS,hv⟩
  have hs2:S m2=true:=hall m2 (Eq.mp Nat.blt_eq Hu) Vw
  rw [hs2] at hL
  subst hL
  exact hend b a w G1 hG HS fun j d hb hd=>hv j d (hall j (vZ hd) hb) hd
end
end
section
open Go.RowKit
theorem TY:∀ args w,(callFunc 38 args).run prog w=.ok (.enter 38 args) w:=enters func38 rfl (by kernel_rfl)
theorem Wx {A:List bX} {p:bX→Bool}:match A.findIdx? p with|some k=>∃ hk:k < A.length,A.find? p=some A[k]|none=>A.find? p=none:=by
 cases h:A.findIdx? p with
 | none =>
  dsimp only;rw [List.find?_eq_none];intro x hx;have:=List.findIdx?_eq_none_iff.1 h x hx
  simp [this]
 | some k =>
  obtain ⟨hk,h1,h2⟩:=List.findIdx?_eq_some_iff_getElem.1 h;refine ⟨hk,?_⟩;rw [List.find?_eq_some_iff_getElem];exact ⟨h1,k,hk,rfl,fun j hj=>by simpa using h2 j hj⟩
theorem Pq {A:List bX} {c i:Int} (h:¬ 0≤vv A c i):mQ A c i=none:=by
 have:=Wx (A:=A) (p:=fun a=>decide (a.code=c∧a.id=i))
 unfold vv at h
 cases hk:A.findIdx? (fun a=>decide (a.code=c∧a.id=i)) with
 | none=>rw [hk] at this;exact this
 | some k=>rw [hk] at h;exact absurd (Int.natCast_nonneg k) h
theorem Wv {A:List bX} {c i:Int} (h:0≤vv A c i):∃ (j:Nat) (hj:j < A.length),vv A c i=j∧mQ A c i=some A[j]:=by
 have:=Wx (A:=A) (p:=fun a=>decide (a.code=c∧a.id=i))
 unfold vv at h ⊢
 cases hk:A.findIdx? (fun a=>decide (a.code=c∧a.id=i)) with
 | none=>rw [hk] at h;exact absurd h (by decide)
 | some k=>rw [hk] at this;obtain ⟨hj,e⟩:=this;exact ⟨k,hj,rfl,e⟩
theorem Pp {A:List bX} (hnd:A.Nodup) {c:Int} {k:Nat} (hk:k < A.length) (hc:A[k].code=c):(!decide (vv A c A[k].id=(k:Int)))=!oM A c A[k]:=by
 have hmem:0≤vv A c A[k].id:=by
  unfold vv
  cases hi:A.findIdx? (fun a=>decide (a.code=c∧a.id=A[k].id)) with
  | none =>
   have:=List.findIdx?_eq_none_iff.1 hi A[k] (iM hk)
   simp [hc] at this
  | some j=>exact Int.natCast_nonneg j
 obtain ⟨j,hj,e1,e2⟩:=Wv hmem
 unfold oM
 rw [e1,e2]
 congr 1
 rw [nX,decide_eq_true_iff,decide_eq_true_iff]
 constructor
 ·intro e
  obtain rfl:j=k:=by omega
  exact ⟨hc,rfl⟩
 rintro ⟨-,e⟩;have:=(List.getElem_inj hnd).1 (Option.some.inj e)
 omega
set_option maxHeartbeats 4000000 in
theorem Xb (G:GH) (w0:World) (hG:Hold G w0) (A:List bX) (v:aj) (code:Int) (hv:av G (.sl 5 (A.map bX.dat)) v) (hl:A.length≤1073741824) (hnd:A.Nodup) (Dl:∀ a∈A,0≤a.at_∧a.at_≤4294967296) (hc:0≤code∧code≤100) :
  Calls prog 15 #[v,vi code] w0 (bF w0 G fun u G'=>av G' (.sl 6 ((jq A code).map fP.dat)) u):=by
 obtain ⟨vA,n,cc,rfl⟩:=hv.form;have hn:=hv.len;rw [bU] at hn;subst hn;have hml:maxLen=9223372036854775807:=rfl;refine eN [(0,_),(1,_)] func15 rfl ntmps15 rfl rfl hG ?_;intro a H;refine kP H (SR fun _ K1=>ak K1 rfl (SR fun _ K2=>ak K2 rfl (SQ fun _ K3=>SR fun _ K4=>ak K4 rfl (SB ?_))));clear H K1 K2 K4;intro a H;skip;refine eU (ι:=Nat × aj × OL × GH) (Tc:=[(0,_),(1,_)]) (Lc:=[]) (fun gh=>[(5,gh.2.1),(6,vi gh.1)]) (fun gh=>[]++gh.2.2.1) (fun gh=>gh.2.2.2) (fun gh=>gh.1≤A.length∧dJ 55 6 gh.2.1 (ru A code gh.1).length (D9 (ru A code gh.1)) gh.2.2.1∧(∀ b o,G b=some o→gh.2.2.2 b=some o)) (fun gh=>A.length - gh.1) ((0,.slice none 0 0,[],G)) (by exact (H).sub ⟨rfl,rfl,rfl,rfl,aD⟩) ?_ ?_
 ·exact ⟨ig _,dJ.nil,fun _ _ h=>h⟩
 clear H;intro gh a w hI H;obtain ⟨k,v5,Lo,g⟩:=gh;dsimp only at hI H;obtain ⟨hk,hrw,hgm⟩:=hI;have hsl:=Qs A code k hk;obtain ⟨v5A,v5c,rfl,-,-⟩:=hrw.shape;dsimp only [lca,bD] at H;refine kP H (SQ fun _ K5=>SR fun _ K6=>Rm rfl (Rm rfl (Rl mX rfl (Rc rfl (Kz K6 (Cd rfl ?_ ?_)))))) <;> clear H K6
 ·intro h12 a H
  try have pX:=dT h12
  have hk2:k < A.length:=by omega
  obtain ⟨b,o,rfl,hrow⟩:=Gg (hv.mono hgm) hk2;obtain ⟨ha0,ha1⟩:=Dl A[k] (iM hk2);refine kP H (Kc K5 (SQ fun _ K7=>SB (SQ fun _ K8=>SR fun _ K9=>Rm rfl (Rm rfl (Ri mX jP rfl rfl (Rf GU rfl (Rg aH rfl (hrow 0 _ rfl) (Rm rfl (Rc rfl (Rm rfl (Sp 22 rfl ?_ ?_))))))))))) <;> clear H K5
  ·intro h22 a H
   try have iA:=dT h22
   refine kH H (aY h22 rfl (aY h22 rfl (aS h22 rfl (aS h22 rfl (Pt h22 rfl (Kz K9 (Ct rfl rfl ?_)))))));clear H K9;intro a H;refine dQ ?_;refine K7 _ _ ?_;clear K7;refine kP H (SC (Rm rfl (Rd rfl (Ra rfl ?_))));clear H;intro a H;refine aI ?_;refine cK ((k+1,_,Lo,g)) (by exact (H).sub ⟨rfl,rfl,rfl,rfl,aD⟩) ?_ ?_
   ·(try dsimp only);exact ⟨by omega,by rw [Lb hk2 (by first|(simp [oM,iA];done)|(have:=Pp hnd hk2 (jJ.1 iA);simp_all))];exact hrw,hgm⟩
   first|omega|(dsimp only;omega)
  intro h22 a H
  try have iA:=dF h22
  refine kH H (YM h22 rfl (YM h22 rfl (YM h22 rfl (YM h22 rfl (YI mX jP h22 rfl rfl (YF Bp h22 rfl (YR aH h22 rfl (hrow 1 _ rfl) ?_)))))));clear H;intro a H;refine s_call TY H (wg H rfl rfl h22) rfl (UM _ _ H.ro A _ code A[k].id (hv.mono hgm) (by omega)) rfl ?_;clear H;rintro v30 _ a w ⟨rfl,rfl⟩ - H;refine kH H (YM h22 rfl (YC h22 rfl (Pf h22 rfl (Kz K9 (Cd rfl ?_ ?_))))) <;> clear H K9
  ·intro ND a H
   try have p33:=dT ND
   refine dQ ?_;refine K7 _ _ ?_;clear K7;refine kP H (SC (Rm rfl (Rd rfl (Ra rfl ?_))));clear H;intro a H;refine aI ?_;refine cK ((k+1,_,Lo,g)) (by exact (H).sub ⟨rfl,rfl,rfl,rfl,aD⟩) ?_ ?_
   ·(try dsimp only);exact ⟨by omega,by rw [Lb hk2 (by first|(simp [oM,iA];done)|(have:=Pp hnd hk2 (jJ.1 iA);simp_all))];exact hrw,hgm⟩
   first|omega|(dsimp only;omega)
  intro ND a H
  try have p33:=dF ND
  have hst:oM A code A[k]=true:=by
   have h1:A[k].code=code:=by first|exact jJ.1 iA|simp_all
   have h2:=Pp hnd hk2 h1
   have h3:vv A code A[k].id=(k:Int):=by simp_all
   rw [jY h3] at h2
   simpa using h2
  refine fT ?_;refine K8 _ _ ?_;clear K8;refine bG (fun _ aT=>?_)
  have rU:∀ (dU bH:Nat) (v:aj) (G G':GH),(∀ k o,G k=some o→G' k=some o)→(fun (dU bH:Nat) (v:aj) (G:GH)=>match bH with|0=>v=.slice (some ⟨b,o,none⟩) A.length cc|1=>v=vi k|2=>v=(aJ b (o+k*5))|3=>v=(aJ b (o+k*5+1))|4=>v=vi A[k].id|5=>v=.slice (some ⟨b,o,none⟩) A.length cc|6=>v=vi k|7=>v=(aJ b (o+k*5))|8=>v=(aJ b (o+k*5+2))|9=>v=.string A[k].name|10=>v=.slice (some ⟨b,o,none⟩) A.length cc|11=>v=vi k|12=>v=(aJ b (o+k*5))|13=>v=(aJ b (o+k*5+3))|14=>v=.agg #[vi A[k].flow,vi A[k].at_]|15=>v=.agg #[vi A[k].id,.string A[k].name,vi A[k].flow,vi A[k].at_,vi 0,vi 0]|16=>v=(aJ dU 0)|_=>True) dU bH v G→(fun (dU bH:Nat) (v:aj) (G:GH)=>match bH with|0=>v=.slice (some ⟨b,o,none⟩) A.length cc|1=>v=vi k|2=>v=(aJ b (o+k*5))|3=>v=(aJ b (o+k*5+1))|4=>v=vi A[k].id|5=>v=.slice (some ⟨b,o,none⟩) A.length cc|6=>v=vi k|7=>v=(aJ b (o+k*5))|8=>v=(aJ b (o+k*5+2))|9=>v=.string A[k].name|10=>v=.slice (some ⟨b,o,none⟩) A.length cc|11=>v=vi k|12=>v=(aJ b (o+k*5))|13=>v=(aJ b (o+k*5+3))|14=>v=.agg #[vi A[k].flow,vi A[k].at_]|15=>v=.agg #[vi A[k].id,.string A[k].name,vi A[k].flow,vi A[k].at_,vi 0,vi 0]|16=>v=(aJ dU 0)|_=>True) dU bH v G':=by
   intro dU bH v G G' hm h
   match bH,h with
   | 0,h=>exact h
   | 1,h=>exact h
   | 2,h=>exact h
   | 3,h=>exact h
   | 4,h=>exact h
   | 5,h=>exact h
   | 6,h=>exact h
   | 7,h=>exact h
   | 8,h=>exact h
   | 9,h=>exact h
   | 10,h=>exact h
   | 11,h=>exact h
   | 12,h=>exact h
   | 13,h=>exact h
   | 14,h=>exact h
   | 15,h=>exact h
   | 16,h=>exact h
   | 17,h=>exact trivial
   | _+18,h=>exact trivial
  refine aaF (hmx) [[],[],[0,1],[0,1,2],(ra 0 4),[],[],[5,6],[5,6,7],(ra 5 4),[],[],[10,11],[10,11,12],(ra 10 4),(ra 0 15),[],(ra 0 17)] [] (by kernel_rfl) (by kernel_rfl) 16 17 (by decide) (by decide) (by decide) (by decide) (.cells #[vi 0,.string ⟨#[]⟩,vi 0,vi 0,vi 0,vi 0] 55 (0,0)) (.cells #[vi A[k].id,.string A[k].name,vi A[k].flow,vi A[k].at_,vi 0,vi 0] 55 (0,0)) (fun (dU bH:Nat) (v:aj) (G:GH)=>match bH with|0=>v=.slice (some ⟨b,o,none⟩) A.length cc|1=>v=vi k|2=>v=(aJ b (o+k*5))|3=>v=(aJ b (o+k*5+1))|4=>v=vi A[k].id|5=>v=.slice (some ⟨b,o,none⟩) A.length cc|6=>v=vi k|7=>v=(aJ b (o+k*5))|8=>v=(aJ b (o+k*5+2))|9=>v=.string A[k].name|10=>v=.slice (some ⟨b,o,none⟩) A.length cc|11=>v=vi k|12=>v=(aJ b (o+k*5))|13=>v=(aJ b (o+k*5+3))|14=>v=.agg #[vi A[k].flow,vi A[k].at_]|15=>v=.agg #[vi A[k].id,.string A[k].name,vi A[k].flow,vi A[k].at_,vi 0,vi 0]|16=>v=(aJ dU 0)|_=>True) (fun b b' i v G hi hc h=>by match i,hi,hc,h with|0,_,_,h=>exact h|1,_,_,h=>exact h|2,_,_,h=>exact h|3,_,_,h=>exact h|4,_,_,h=>exact h|5,_,_,h=>exact h|6,_,_,h=>exact h|7,_,_,h=>exact h|8,_,_,h=>exact h|9,_,_,h=>exact h|10,_,_,h=>exact h|11,_,_,h=>exact h|12,_,_,h=>exact h|13,_,_,h=>exact h|14,_,_,h=>exact h|15,_,_,h=>exact h|16,hi,_,_=>exact absurd hi (by decide)|17,_,hc,_=>exact absurd hc (by decide)|_+18,_,_,_=>exact trivial) H ?_ ?_ ?_ ?_ (by kernel_rfl)
  ·clear H;refine aG ?_ ?_ ?_ ?_ (aG ?_ ?_ ?_ ?_ (aG ?_ ?_ ?_ ?_ (aG ?_ ?_ ?_ ?_ (aU ?_ (aU ?_ bZ)))))
   ·intro dU mK bg a w G1 mD _ _ _ bE hc hG HT hv;have H:=HT;clear bE;have Hb:=H.full;have H:=Hb;clear hc;refine kH H (Rm rfl ?_);clear H;intro a H;refine aI ⟨rfl,?_⟩;exact iP (by kernel_rfl) (rU dU) rfl rfl HT Hb hG hv (fun _ _ h=>h) (rfl) H
   ·intro dU mK bg a w G1 mD _ _ _ bE hc hG HT hv;have H:=HT;clear bE;have Hb:=H.full;have H:=Hb;clear hc;refine kH H (Rm rfl ?_);clear H;intro a H;refine aI ⟨rfl,?_⟩;exact iP (by kernel_rfl) (rU dU) rfl rfl HT Hb hG hv (fun _ _ h=>h) (rfl) H
   ·intro dU mK bg a w G1 mD _ _ _ bE hc hG HT hv;have H:=HT;clear bE;have H:=H.aQ (hv 0 34 (hc 0 (by decide)) rfl) rfl;have H:=H.aQ (hv 1 35 (hc 1 (by decide)) rfl) rfl;have Hb:=H.full;have H:=Hb;clear hc;refine kH H (Ri mX jP rfl rfl ?_);clear H;intro a H;refine aI ⟨rfl,?_⟩;exact iP (by kernel_rfl) (rU dU) rfl rfl HT Hb hG hv (fun _ _ h=>h) (rfl) H
   ·intro dU mK bg a w G1 mD _ _ _ bE hc hG HT hv;have H:=HT;clear bE;have H:=H.aQ (hv 2 36 (hc 2 (by decide)) rfl) rfl;have Hb:=H.full;have H:=Hb;clear hc;refine kH H (Rf Bp rfl ?_);clear H;intro a H;refine aI ⟨rfl,?_⟩;exact iP (by kernel_rfl) (rU dU) rfl rfl HT Hb hG hv (fun _ _ h=>h) (rfl) H
   ·intro dU mK bg a w G1 mD _ _ _ bE hc hG HT hv;have H:=HT;clear bE;have H:=H.aQ (hv 3 37 (hc 3 (by decide)) rfl) rfl;have Hb:=H.full;have H:=Hb;clear hc;refine kH H (Rg aH rfl (aM hG (hrow 1 _ rfl)) ?_);clear H;intro a H;refine aI ⟨rfl,?_⟩;exact iP (by kernel_rfl) (rU dU) rfl rfl HT Hb hG hv (fun _ _ h=>h) (rfl) H
   ·intro dU mK bg a w G1 mD _ _ _ bE hc hG HT hv;have H:=HT;clear bE;have Hb:=H.full;have H:=Hb;clear hc;refine kH H (Rm rfl ?_);clear H;intro a H;refine aI ⟨rfl,?_⟩;exact iP (by kernel_rfl) (rU dU) rfl rfl HT Hb hG hv (fun _ _ h=>h) (rfl) H
   ·intro dU mK bg a w G1 mD _ _ _ bE hc hG HT hv;have H:=HT;clear bE;have Hb:=H.full;have H:=Hb;clear hc;refine kH H (Rm rfl ?_);clear H;intro a H;refine aI ⟨rfl,?_⟩;exact iP (by kernel_rfl) (rU dU) rfl rfl HT Hb hG hv (fun _ _ h=>h) (rfl) H
   ·intro dU mK bg a w G1 mD _ _ _ bE hc hG HT hv;have H:=HT;clear bE;have H:=H.aQ (hv 5 39 (hc 5 (by decide)) rfl) rfl;have H:=H.aQ (hv 6 40 (hc 6 (by decide)) rfl) rfl;have Hb:=H.full;have H:=Hb;clear hc;refine kH H (Ri mX jP rfl rfl ?_);clear H;intro a H;refine aI ⟨rfl,?_⟩;exact iP (by kernel_rfl) (rU dU) rfl rfl HT Hb hG hv (fun _ _ h=>h) (rfl) H
   ·intro dU mK bg a w G1 mD _ _ _ bE hc hG HT hv;have H:=HT;clear bE;have H:=H.aQ (hv 7 41 (hc 7 (by decide)) rfl) rfl;have Hb:=H.full;have H:=Hb;clear hc;refine kH H (Rf UD rfl ?_);clear H;intro a H;refine aI ⟨rfl,?_⟩;exact iP (by kernel_rfl) (rU dU) rfl rfl HT Hb hG hv (fun _ _ h=>h) (rfl) H
   ·intro dU mK bg a w G1 mD _ _ _ bE hc hG HT hv;have H:=HT;clear bE;have H:=H.aQ (hv 8 42 (hc 8 (by decide)) rfl) rfl;have Hb:=H.full;have H:=Hb;clear hc;refine kH H (Rg gG rfl (aM hG (hrow 2 _ rfl)) ?_);clear H;intro a H;refine aI ⟨rfl,?_⟩;exact iP (by kernel_rfl) (rU dU) rfl rfl HT Hb hG hv (fun _ _ h=>h) (rfl) H
   ·intro dU mK bg a w G1 mD _ _ _ bE hc hG HT hv;have H:=HT;clear bE;have Hb:=H.full;have H:=Hb;clear hc;refine kH H (Rm rfl ?_);clear H;intro a H;refine aI ⟨rfl,?_⟩;exact iP (by kernel_rfl) (rU dU) rfl rfl HT Hb hG hv (fun _ _ h=>h) (rfl) H
   ·intro dU mK bg a w G1 mD _ _ _ bE hc hG HT hv;have H:=HT;clear bE;have Hb:=H.full;have H:=Hb;clear hc;refine kH H (Rm rfl ?_);clear H;intro a H;refine aI ⟨rfl,?_⟩;exact iP (by kernel_rfl) (rU dU) rfl rfl HT Hb hG hv (fun _ _ h=>h) (rfl) H
   ·intro dU mK bg a w G1 mD _ _ _ bE hc hG HT hv;have H:=HT;clear bE;have H:=H.aQ (hv 10 44 (hc 10 (by decide)) rfl) rfl;have H:=H.aQ (hv 11 45 (hc 11 (by decide)) rfl) rfl;have Hb:=H.full;have H:=Hb;clear hc;refine kH H (Ri mX jP rfl rfl ?_);clear H;intro a H;refine aI ⟨rfl,?_⟩;exact iP (by kernel_rfl) (rU dU) rfl rfl HT Hb hG hv (fun _ _ h=>h) (rfl) H
   ·intro dU mK bg a w G1 mD _ _ _ bE hc hG HT hv;have H:=HT;clear bE;have H:=H.aQ (hv 12 46 (hc 12 (by decide)) rfl) rfl;have Hb:=H.full;have H:=Hb;clear hc;refine kH H (Rf wu rfl ?_);clear H;intro a H;refine aI ⟨rfl,?_⟩;exact iP (by kernel_rfl) (rU dU) rfl rfl HT Hb hG hv (fun _ _ h=>h) (rfl) H
   ·intro dU mK bg a w G1 mD _ _ _ bE hc hG HT hv;have H:=HT;clear bE;have H:=H.aQ (hv 13 47 (hc 13 (by decide)) rfl) rfl;have Hb:=H.full;have H:=Hb;clear hc;refine bK wK (cs:=[vi A[k].flow,vi A[k].at_]) H wn rfl rfl (fun j v hj=>H.hp.aL (aM hG (by match j,hj with|0,hj=>exact hrow 3 v hj|1,hj=>exact hrow 4 v hj))) rfl ?_;clear H;intro a H;refine aI ⟨rfl,?_⟩;exact iP (by kernel_rfl) (rU dU) rfl rfl HT Hb hG hv (fun _ _ h=>h) (rfl) H
   ·intro dU mK bg a w G1 mD _ _ _ bE hc hG HT hv;have H:=HT;clear bE;have H:=H.aQ (hv 4 38 (hc 4 (by decide)) rfl) rfl;have H:=H.aQ (hv 9 43 (hc 9 (by decide)) rfl) rfl;have H:=H.aQ (hv 14 48 (hc 14 (by decide)) rfl) rfl;have Hb:=H.full;have H:=Hb;clear hc;refine ku Ld [_,_,_,_,_,_] H wn rfl rfl rfl rfl ?_;clear H;intro a H;refine aI ⟨rfl,?_⟩;exact iP (by kernel_rfl) (rU dU) rfl rfl HT Hb hG hv (fun _ _ h=>h) (rfl) H
   ·intro _ _ _ _ _ _ _ _ hB;exact absurd hB (by decide)
   intro _ _ _ _ _ _ _ _ _ hB;exact absurd hB (by decide)
  ·clear H;intro o_ bg a w G1 uD _ hc hG HT hv;obtain rfl:_=o_:=Option.some.inj uD;clear uD;have H:=HT;have Hb:=H.full;have H:=Hb;clear hc;refine eZ jr H wn rfl ?_;clear H;intro b7 a w Dn H;refine aI ⟨rfl,b7,?_⟩;exact MS (by kernel_rfl) rfl HT Hb hG (fun j e h1 h2 h3=>hv _ j e h1 h2 h3) (rfl) H
  ·clear H;intro o_ dU bg a w G1 uD _ hc hG HT hv;obtain rfl:_=o_:=Option.some.inj uD;clear uD;have H:=HT;have H:=H.aQ (hv 16 7 (hc 16 (by decide)) rfl) rfl;have H:=H.aQ (hv 15 49 (hc 15 (by decide)) rfl) rfl;have Hb:=H.full;have H:=Hb;clear hc;refine bM jr 0 (vs:=[_,_,_,_,_,_]) _ H wn rfl rfl rfl rfl rfl rfl rfl rfl ?_;clear H;intro w H;dsimp only [List.set,setRow] at H;refine aI ⟨rfl,?_⟩;exact abV rfl HT hG hv H
  clear H;intro b7 a w G gM H hv;have H:=H.aQ (hv 16 7 rfl rfl) rfl;clear hv;refine aI ⟨rfl,?_⟩;refine aT _ _ ?_;clear aT;refine kP H (SR fun _ bC=>Rf pQ rfl (aW jK aH 0 rfl rfl (Rd rfl (Rf pQ rfl (Rf jK rfl ?_)))));clear H;intro a H;refine bM aH 0 (vs:=[_]) _ H wn rfl rfl rfl rfl rfl rfl rfl rfl ?_;clear H;intro w H;dsimp only [List.set,setRow] at H;refine bC _ _ ?_;clear bC;refine kP H (SR fun _ bJ=>Rf pQ rfl ?_);clear H;intro a H;refine bK wK (cs:=[_,_]) H wn rfl rfl (H.hp.eF 0 rfl rfl) rfl ?_;clear H;intro a H;refine kH H (Rf Aa rfl ?_);clear H;intro a H;refine bM wK 0 (vs:=[_,_]) _ H wn rfl rfl rfl rfl rfl rfl rfl rfl ?_;clear H;intro w H;dsimp only [List.set,setRow] at H;refine bJ _ _ ?_;clear bJ;refine qy (ι:=Int × Int × GH) (Tc:=[(0,_),(1,_),(5,_),(6,_),(7,_)]) (Lc:=[]) (fun gh=>[]) (fun gh=>[(b7,.cells #[vi A[k].id,.string A[k].name,vi A[k].flow,vi (A[k].at_+1),vi gh.1,vi gh.2.1] 55 (0,0))]++Lo) (fun gh=>gh.2.2) (fun gh=>(gh.1,gh.2.1)=zW A code A[k]∧(∀ b o,g b=some o→gh.2.2 b=some o)) (by exact (H).sub ⟨rfl,rfl,rfl,rfl,rfl,aD⟩) ?_ ?_
  ·skip;refine kP H (SR fun _ bT=>Rm rfl (Rm rfl (Rd rfl (Rm rfl (Rm rfl (Ri mX jP rfl rfl (Rf Bp rfl (Rg aH rfl (aM gM (hrow 1 _ rfl)) ?_))))))));clear H;intro a H;refine s_call TY H wn rfl (UM _ _ H.ro A _ (code+1) A[k].id ((hv.mono hgm).mono gM) (by omega)) rfl ?_;clear H;rintro v67 _ a w ⟨rfl,rfl⟩ - H;obtain ⟨K,hK⟩:∃ K,K=vv A (code+1) A[k].id:=⟨_,rfl⟩;rw [← hK] at H;obtain ⟨q,hq⟩:∃ q,q=(mQ A (code+1) A[k].id).getD Bc:=⟨_,rfl⟩
   have hrow':0≤K→∃ j:Nat,K=j∧j < A.length∧mQ A (code+1) A[k].id=some q∧∀ i u,q.cells[i]?=some u→aL G b (o+j*5+i)=some u:=by
    intro h0;rw [hK] at h0;obtain ⟨j,hj,e1,e2⟩:=Wv h0
    have hqe:q=A[j]:=by rw [hq,e2];rfl
    obtain ⟨b2,o2,e3,hrow2⟩:=Gg ((hv.mono hgm).mono gM) hj
    injection e3 with e3
    injection e3 with e4 e5 _
    subst e4;subst e5;exact ⟨j,by rw [hK,e1],hj,by rw [hqe];exact e2,by rw [hqe];exact hrow2⟩
   refine kH H (ak bT rfl (SQ fun _ bS=>?_));clear H bT;intro a H;have hjj:=hrow'
   by_cases c0:0≤K
   ·skip
    by_cases c1:q.flow=A[k].flow
    ·skip;refine dI hmx [[],[0],[0,1],[0,1,2],[0,1,2],(ra 0 5),(ra 0 6),(ra 0 7),(ra 0 8),[0,1,2],[0,1,2,9],[0,1,2,9,10],(ra 0 12),(ra 0 13),(ra 0 14),(ra 0 15),(ra 0 15),(ra 0 17),(ra 0 18),(ra 0 19),(ra 0 20),(ra 0 15),(ra 0 15++[21]),(ra 0 15++[21,22]),(ra 0 24),(ra 0 25)] [] (by kernel_rfl) [_,_,_,_,_,(aJ b (o+K.toNat*5)),_,_,vi q.flow,_,_,vi A[k].flow,_,_,_,_,_,(aJ b (o+K.toNat*5)),_,_,vi q.at_,_,_,vi (A[k].at_+1),_,_] H (aG (Z0 rfl (Rm rfl)) (Z1 0 68 rfl (Rc rfl)) (Z1 1 69 rfl (Rm rfl)) (Z1 2 70 rfl (YM (aC c0) rfl)) (aG (Z1 2 70 rfl (YM (aC c0) rfl)) ?_ (Z2 5 73 2 70 rfl (YF wu (aC c0) rfl)) (Z2 6 74 2 70 rfl (YF pO (aC c0) rfl)) (aG ?_ (Z1 2 70 rfl (YF pQ (aC c0) rfl)) (Z2 9 77 2 70 rfl (YF pO (aC c0) rfl)) (Z2 10 78 2 70 rfl (YO aH 0 (aC c0) rfl)) (aG (Z3 8 76 11 79 2 70 rfl (YC (aC c0) rfl)) (Z2 2 70 12 80 rfl (Pt (aC c0) rfl)) (Z1 13 81 rfl (Rm rfl)) (Z1 14 82 rfl (YM (aC c1) rfl)) (aG (Z1 14 82 rfl (YM (aC c1) rfl)) ?_ (Z2 17 85 14 82 rfl (YF wu (aC c1) rfl)) (Z2 18 86 14 82 rfl (YF jK (aC c1) rfl)) (aG ?_ (Z1 14 82 rfl (YF pQ (aC c1) rfl)) (Z2 21 89 14 82 rfl (YF jK (aC c1) rfl)) (Z2 22 90 14 82 rfl (YO aH 0 (aC c1) rfl)) (aU (Z3 20 88 23 91 14 82 rfl (YC (aC c1) rfl)) (aU (Z2 14 82 24 92 rfl (Pt (aC c1) rfl)) bZ)))))))) ?_
     ·refine pE 3 71 4 72 2 70 rfl rfl fun _ a w G1 hG HT H fin=>?_;obtain ⟨j,e1,hj,e2,xK⟩:=hrow' c0;refine zl mX jP K.toNat H (wg H rfl rfl (aC c0)) rfl rfl (by omega) (by omega) rfl ?_;clear H;intro a H;exact fin H iJ rfl
     ·refine dG 7 75 2 70 rfl rfl fun _ a w G1 hG HT H fin=>?_;obtain ⟨j,e1,hj,e2,xK⟩:=hrow' c0;exact kH H (YR aH (aC c0) rfl (aM hG (by have:=xK 3 _ rfl;rw [e1];exact this)) fun _ H=>fin H iJ rfl)
     ·refine pE 15 83 16 84 14 82 rfl rfl fun _ a w G1 hG HT H fin=>?_;obtain ⟨j,e1,hj,e2,xK⟩:=hrow' c0;refine zl mX jP K.toNat H (wg H rfl rfl (aC c1)) rfl rfl (by omega) (by omega) rfl ?_;clear H;intro a H;exact fin H iJ rfl
     ·refine dG 19 87 14 82 rfl rfl fun _ a w G1 hG HT H fin=>?_;obtain ⟨j,e1,hj,e2,xK⟩:=hrow' c0;exact kH H (YR aH (aC c1) rfl (aM hG (by have:=xK 4 _ rfl;rw [e1];exact this)) fun _ H=>fin H iJ rfl)
     clear H;intro a w G ni H hv;have H:=H.aQ (hv 25 93 rfl rfl) rfl;clear hv;refine aI ⟨rfl,?_⟩;refine bS _ _ ?_;clear bS;refine lW H rfl ?_ ?_
     ·intro Dg
      try have p93:=dT Dg
      refine kP H (SC (Rm rfl (Rm rfl ?_)));clear H;intro a H;obtain ⟨j,e1,hj,e2,xK⟩:=hrow' c0;refine zl mX jP j H wn rfl rfl e1 hj rfl ?_;clear H;intro a H;refine kH H (Rf wu rfl ?_);clear H;intro a H;refine bK wK (cs:=[vi q.flow,vi q.at_]) H wn rfl rfl (fun i v hi=>H.hp.aL (aM ni (by match i,hi with|0,hi=>exact xK 3 v hi|1,hi=>exact xK 4 v hi))) rfl ?_;clear H;intro a H;refine kH H (Rf Aa rfl ?_);clear H;intro a H;refine bM wK 0 (vs:=[_,_]) _ H wn rfl rfl rfl rfl rfl rfl rfl rfl ?_;clear H;intro w H;dsimp only [List.set,setRow] at H;refine aI ?_;refine ⟨(q.flow,q.at_,_),by exact (H).sub ⟨rfl,rfl,rfl,rfl,rfl,aD⟩,?_⟩;(try dsimp only);obtain ⟨j,e1,hj,e2,-⟩:=hrow' c0;exact ⟨(Ui ⟨e2,c1,by have:=rF Dg;omega⟩).symm,fun b o h=>ni b o (gM b o h)⟩
     intro Dg
     try have p93:=dF Dg
     refine fT ?_;refine ⟨(A[k].flow,A[k].at_+1,_),by exact (H).sub ⟨rfl,rfl,rfl,rfl,rfl,aD⟩,?_⟩;(try dsimp only);refine ⟨(EJ ?_).symm,fun b o h=>ni b o (gM b o h)⟩
     by_cases h0:0≤K
     ·obtain ⟨j,e1,hj,e2,-⟩:=hrow' h0;rw [e2];dsimp only;rintro ⟨f1,f2⟩
      first|exact absurd f1 c1|(have:=of_decide_eq_false Dg;omega)|exact absurd h0 c0
     rw [Pq (by rw [← hK];exact h0)];trivial
    skip;refine dI hmx [[],[0],[0,1],[0,1,2],[0,1,2],(ra 0 5),(ra 0 6),(ra 0 7),(ra 0 8),[0,1,2],[0,1,2,9],[0,1,2,9,10],(ra 0 12),(ra 0 13),(ra 0 14),(ra 0 15),(ra 0 15),(ra 0 17),(ra 0 18),(ra 0 19),(ra 0 20),(ra 0 15),(ra 0 15++[21]),(ra 0 15++[21,22]),(ra 0 24),(ra 0 25)] [] (by kernel_rfl) [_,_,_,_,_,(aJ b (o+K.toNat*5)),_,_,vi q.flow,_,_,vi A[k].flow,_,_,_,undef,undef,undef,undef,undef,undef,undef,undef,undef,undef,_] H (aG (Z0 rfl (Rm rfl)) (Z1 0 68 rfl (Rc rfl)) (Z1 1 69 rfl (Rm rfl)) (Z1 2 70 rfl (YM (aC c0) rfl)) (aG (Z1 2 70 rfl (YM (aC c0) rfl)) ?_ (Z2 5 73 2 70 rfl (YF wu (aC c0) rfl)) (Z2 6 74 2 70 rfl (YF pO (aC c0) rfl)) (aG ?_ (Z1 2 70 rfl (YF pQ (aC c0) rfl)) (Z2 9 77 2 70 rfl (YF pO (aC c0) rfl)) (Z2 10 78 2 70 rfl (YO aH 0 (aC c0) rfl)) (aG (Z3 8 76 11 79 2 70 rfl (YC (aC c0) rfl)) (Z2 2 70 12 80 rfl (Pt (aC c0) rfl)) (Z1 13 81 rfl (Rm rfl)) (aN (j:=14) (by kernel_rfl) (fun _ _ _ _ _ h=>h) rfl rfl rfl rfl rfl (fun _ _ h=>aO h (aB (aK c1))) rfl (fun _=>rfl)) (aG (aN (j:=14) (by kernel_rfl) (fun _ _ _ _ _ h=>h) rfl rfl rfl rfl rfl (fun _ _ h=>aO h (aB (aK c1))) rfl (fun _=>rfl)) (aN (j:=14) (by kernel_rfl) (fun _ _ _ _ _ h=>h) rfl rfl rfl rfl rfl (fun _ _ h=>aO h (aB (aK c1))) rfl (fun _=>rfl)) (aN (j:=14) (by kernel_rfl) (fun _ _ _ _ _ h=>h) rfl rfl rfl rfl rfl (fun _ _ h=>aO h (aB (aK c1))) rfl (fun _=>rfl)) (aN (j:=14) (by kernel_rfl) (fun _ _ _ _ _ h=>h) rfl rfl rfl rfl rfl (fun _ _ h=>aO h (aB (aK c1))) rfl (fun _=>rfl)) (aG (aN (j:=14) (by kernel_rfl) (fun _ _ _ _ _ h=>h) rfl rfl rfl rfl rfl (fun _ _ h=>aO h (aB (aK c1))) rfl (fun _=>rfl)) (aN (j:=14) (by kernel_rfl) (fun _ _ _ _ _ h=>h) rfl rfl rfl rfl rfl (fun _ _ h=>aO h (aB (aK c1))) rfl (fun _=>rfl)) (aN (j:=14) (by kernel_rfl) (fun _ _ _ _ _ h=>h) rfl rfl rfl rfl rfl (fun _ _ h=>aO h (aB (aK c1))) rfl (fun _=>rfl)) (aN (j:=14) (by kernel_rfl) (fun _ _ _ _ _ h=>h) rfl rfl rfl rfl rfl (fun _ _ h=>aO h (aB (aK c1))) rfl (fun _=>rfl)) (aU (aN (j:=14) (by kernel_rfl) (fun _ _ _ _ _ h=>h) rfl rfl rfl rfl rfl (fun _ _ h=>aO h (aB (aK c1))) rfl (fun _=>rfl)) (aU (Z2 14 82 24 92 rfl (Pf (aK c1) rfl)) bZ)))))))) ?_
    ·refine pE 3 71 4 72 2 70 rfl rfl fun _ a w G1 hG HT H fin=>?_;obtain ⟨j,e1,hj,e2,xK⟩:=hrow' c0;refine zl mX jP K.toNat H (wg H rfl rfl (aC c0)) rfl rfl (by omega) (by omega) rfl ?_;clear H;intro a H;exact fin H iJ rfl
    ·refine dG 7 75 2 70 rfl rfl fun _ a w G1 hG HT H fin=>?_;obtain ⟨j,e1,hj,e2,xK⟩:=hrow' c0;exact kH H (YR aH (aC c0) rfl (aM hG (by have:=xK 3 _ rfl;rw [e1];exact this)) fun _ H=>fin H iJ rfl)
    clear H;intro a w G ni H hv;have H:=H.aQ (hv 25 93 rfl rfl) rfl;clear hv;refine aI ⟨rfl,?_⟩;refine bS _ _ ?_;clear bS;refine lI H rfl rfl ?_;refine fT ?_;refine ⟨(A[k].flow,A[k].at_+1,_),by exact (H).sub ⟨rfl,rfl,rfl,rfl,rfl,aD⟩,?_⟩;(try dsimp only);refine ⟨(EJ ?_).symm,fun b o h=>ni b o (gM b o h)⟩
    by_cases h0:0≤K
    ·obtain ⟨j,e1,hj,e2,-⟩:=hrow' h0;rw [e2];dsimp only;rintro ⟨f1,f2⟩
     first|exact absurd f1 c1|(have:=of_decide_eq_false Dg;omega)|exact absurd h0 c0
    rw [Pq (by rw [← hK];exact h0)];trivial
   skip;refine dI hmx [[],[0],[0,1],[0,1,2],[0,1,2],(ra 0 5),(ra 0 6),(ra 0 7),(ra 0 8),[0,1,2],[0,1,2,9],[0,1,2,9,10],(ra 0 12),(ra 0 13),(ra 0 14),(ra 0 15),(ra 0 15),(ra 0 17),(ra 0 18),(ra 0 19),(ra 0 20),(ra 0 15),(ra 0 15++[21]),(ra 0 15++[21,22]),(ra 0 24),(ra 0 25)] [] (by kernel_rfl) [_,_,_,undef,undef,undef,undef,undef,undef,undef,undef,undef,undef,_,_,undef,undef,undef,undef,undef,undef,undef,undef,undef,undef,_] H (aG (Z0 rfl (Rm rfl)) (Z1 0 68 rfl (Rc rfl)) (Z1 1 69 rfl (Rm rfl)) (aN (j:=2) (by kernel_rfl) (fun _ _ _ _ _ h=>h) rfl rfl rfl rfl rfl (fun _ _ h=>aO h (aB (aK c0))) rfl (fun _=>rfl)) (aG (aN (j:=2) (by kernel_rfl) (fun _ _ _ _ _ h=>h) rfl rfl rfl rfl rfl (fun _ _ h=>aO h (aB (aK c0))) rfl (fun _=>rfl)) (aN (j:=2) (by kernel_rfl) (fun _ _ _ _ _ h=>h) rfl rfl rfl rfl rfl (fun _ _ h=>aO h (aB (aK c0))) rfl (fun _=>rfl)) (aN (j:=2) (by kernel_rfl) (fun _ _ _ _ _ h=>h) rfl rfl rfl rfl rfl (fun _ _ h=>aO h (aB (aK c0))) rfl (fun _=>rfl)) (aN (j:=2) (by kernel_rfl) (fun _ _ _ _ _ h=>h) rfl rfl rfl rfl rfl (fun _ _ h=>aO h (aB (aK c0))) rfl (fun _=>rfl)) (aG (aN (j:=2) (by kernel_rfl) (fun _ _ _ _ _ h=>h) rfl rfl rfl rfl rfl (fun _ _ h=>aO h (aB (aK c0))) rfl (fun _=>rfl)) (aN (j:=2) (by kernel_rfl) (fun _ _ _ _ _ h=>h) rfl rfl rfl rfl rfl (fun _ _ h=>aO h (aB (aK c0))) rfl (fun _=>rfl)) (aN (j:=2) (by kernel_rfl) (fun _ _ _ _ _ h=>h) rfl rfl rfl rfl rfl (fun _ _ h=>aO h (aB (aK c0))) rfl (fun _=>rfl)) (aN (j:=2) (by kernel_rfl) (fun _ _ _ _ _ h=>h) rfl rfl rfl rfl rfl (fun _ _ h=>aO h (aB (aK c0))) rfl (fun _=>rfl)) (aG (aN (j:=2) (by kernel_rfl) (fun _ _ _ _ _ h=>h) rfl rfl rfl rfl rfl (fun _ _ h=>aO h (aB (aK c0))) rfl (fun _=>rfl)) (Z2 2 70 12 80 rfl (Pf (aK c0) rfl)) (Z1 13 81 rfl (Rm rfl)) (aN (j:=14) (by kernel_rfl) (fun _ _ _ _ _ h=>h) rfl rfl rfl rfl rfl (fun _ _ h=>aO h (aB rfl)) rfl (fun _=>rfl)) (aG (aN (j:=14) (by kernel_rfl) (fun _ _ _ _ _ h=>h) rfl rfl rfl rfl rfl (fun _ _ h=>aO h (aB rfl)) rfl (fun _=>rfl)) (aN (j:=14) (by kernel_rfl) (fun _ _ _ _ _ h=>h) rfl rfl rfl rfl rfl (fun _ _ h=>aO h (aB rfl)) rfl (fun _=>rfl)) (aN (j:=14) (by kernel_rfl) (fun _ _ _ _ _ h=>h) rfl rfl rfl rfl rfl (fun _ _ h=>aO h (aB rfl)) rfl (fun _=>rfl)) (aN (j:=14) (by kernel_rfl) (fun _ _ _ _ _ h=>h) rfl rfl rfl rfl rfl (fun _ _ h=>aO h (aB rfl)) rfl (fun _=>rfl)) (aG (aN (j:=14) (by kernel_rfl) (fun _ _ _ _ _ h=>h) rfl rfl rfl rfl rfl (fun _ _ h=>aO h (aB rfl)) rfl (fun _=>rfl)) (aN (j:=14) (by kernel_rfl) (fun _ _ _ _ _ h=>h) rfl rfl rfl rfl rfl (fun _ _ h=>aO h (aB rfl)) rfl (fun _=>rfl)) (aN (j:=14) (by kernel_rfl) (fun _ _ _ _ _ h=>h) rfl rfl rfl rfl rfl (fun _ _ h=>aO h (aB rfl)) rfl (fun _=>rfl)) (aN (j:=14) (by kernel_rfl) (fun _ _ _ _ _ h=>h) rfl rfl rfl rfl rfl (fun _ _ h=>aO h (aB rfl)) rfl (fun _=>rfl)) (aU (aN (j:=14) (by kernel_rfl) (fun _ _ _ _ _ h=>h) rfl rfl rfl rfl rfl (fun _ _ h=>aO h (aB rfl)) rfl (fun _=>rfl)) (aU (Z2 14 82 24 92 rfl (Pf rfl rfl)) bZ)))))))) ?_
   clear H;intro a w G ni H hv;have H:=H.aQ (hv 25 93 rfl rfl) rfl;clear hv;refine aI ⟨rfl,?_⟩;refine bS _ _ ?_;clear bS;refine lI H rfl rfl ?_;refine fT ?_;refine ⟨(A[k].flow,A[k].at_+1,_),by exact (H).sub ⟨rfl,rfl,rfl,rfl,rfl,aD⟩,?_⟩;(try dsimp only);refine ⟨(EJ ?_).symm,fun b o h=>ni b o (gM b o h)⟩
   by_cases h0:0≤K
   ·obtain ⟨j,e1,hj,e2,-⟩:=hrow' h0;rw [e2];dsimp only;rintro ⟨f1,f2⟩
    first|exact absurd f1 c1|(have:=of_decide_eq_false Dg;omega)|exact absurd h0 c0
   rw [Pq (by rw [← hK];exact h0)];trivial
  clear H;intro gh a w hI H;obtain ⟨tf,ta,g12⟩:=gh;dsimp only at hI H;obtain ⟨hend,agf⟩:=hI;dsimp only [lca,bD] at H;refine kP H (SC (Rm rfl ?_));clear H;intro a H;refine bK jr (cs:=[_,_,_,_,_,_]) H wn rfl rfl (H.hp.eF 0 rfl rfl) rfl ?_;clear H;intro a H;refine gU nQ jr [_,_,_,_,_,_] [_,_,_,_,_,_] H wn rfl rfl rfl rfl rfl (by intro i q h;match i,h with|0,h=>exact h|n+1,h=>simp at h) rfl rfl ?_;clear H;intro alx a w alD H;refine oN (Li:=[_,_]) (Lo:=Lo) (news:=[vi A[k].id,.string A[k].name,vi A[k].flow,vi (A[k].at_+1),vi tf,vi ta]) nQ jr rfl rfl H wn rfl rfl hrw rfl (H.hp.eF 0 rfl rfl) rfl (by omega) (by omega) rfl ?_;clear H;intro akS ZR a w VR H;rw [show [vi A[k].id,Value.string A[k].name,vi A[k].flow,vi (A[k].at_+1),vi tf,vi ta]=(xY A code A[k]).cells by simp only [xY,fP.cells,← hend]] at VR;refine kH H (aV K7 rfl (SC (Rm rfl (Rd rfl (Ra rfl ?_)))));clear H K7;intro a H;refine aI ?_;refine cK ((k+1,akS,ZR,_)) (by exact (H.dV (Pl:=[_,_]) (dz:=[]) [] (by decide) rfl).sub ⟨rfl,rfl,rfl,rfl,aD⟩) ?_ ?_
  ·(try dsimp only);exact ⟨by omega,by rw [Yf hk2 hst,lF,Ye];exact VR,fun b o h=>agf b o (hgm b o h)⟩
  first|omega|(dsimp only;omega)
 intro h12 a H
 try have pX:=dF h12
 obtain rfl:k=A.length:=by omega
 have hall:ru A code A.length=jq A code:=by unfold ru jq;rw [uP]
 rw [hall] at hrw;refine dQ ?_;refine K3 _ _ ?_;clear K3;refine kP H (SR fun _ dD=>Rm rfl (ak dD rfl ?_));clear H dD;intro a H;refine lr H results15 rfl ?_;obtain ⟨Gr,hmr,hrep,H⟩:=St.uh (Li:=[]) H hrw (rows:=(jq A code).map fP.dat) (by simp) (Qt _ _);exact H.rt (by rw [hall];exact hrep)
theorem adZ:IZ prog 55 [(0,0),(1,1),(2,2),(4,2)]:=⟨by kernel_rfl,by kernel_rfl,by kernel_rfl,by kernel_rfl,by kernel_rfl⟩
theorem Ir {G:GH} {A:List fP} {v:Option Addr} {n c k:Nat} (h:av G (.sl 6 (A.map fP.dat)) (.slice v n c)) (hk:k < A.length):∃ b o,v=some ⟨b,o,none⟩∧∀ j u,A[k].cells[j]?=some u→aL G b (o+k*6+j)=some u:=by
 obtain ⟨b,o,cs,rfl,hcl,hrow,hr⟩:=h.at_ k A[k].dat (by simp [hk]);obtain rfl:=Yh hr;exact ⟨b,o,rfl,hrow⟩
end
section
open Go.RowKit
theorem TW:∀ args w,(callFunc 37 args).run prog w=.ok (.enter 37 args) w:=enters func37 rfl (by kernel_rfl)
theorem aeC:bY prog 55 1 1:=⟨by kernel_rfl⟩
theorem M6:∀ args w,(callFunc 14 args).run prog w=.ok (.enter 14 args) w:=enters func14 rfl (by kernel_rfl)
theorem adt:∀ args w,(callFunc 46 args).run prog w=.ok (.enter 46 args) w:=enters func46 rfl (by kernel_rfl)
theorem adu:∀ args w,(callFunc 47 args).run prog w=.ok (.enter 47 args) w:=enters func47 rfl (by kernel_rfl)
theorem MB (G:GH) (w0:World) (hG:Hold G w0) (D:nE) (l:List ay) (hv:av G (.sl 11 (l.map ay.dat)) (fI D.f)) (hok:dX l) (hz:bq l≤1073741824) :
  Calls prog 14 #[D.val] w0 (bF w0 G fun u G'=>av G' (.sl 6 ((jq (dB 0 0 l) 1).map fP.dat)) u):=by
 refine eN [(0,_)] func14 rfl ntmps14 rfl rfl hG ?_;intro a H;refine dH (fun _ K1=>?_);refine fq (cs:=[_,_,_,_,_,_,_,_,_,_,_]) H wn rfl rfl rfl ?_;clear H;intro b1 a w hb1 H;refine kH H (ak K1 rfl (SQ fun _ K2=>?_));clear H K1;intro a H;obtain ⟨Ga,hma,hb',H⟩:=H.dS;have hga:=fun j v hj=>wY hb' 0 D.cells rfl j v hj;refine nY ?_;refine bK rz (cs:=D.cells) H wn rfl rfl (fun j v hj=>H.hp.aL (hga j v hj)) rfl ?_;clear H;intro a H;refine s_call TW H wn rfl (Yj _ _ H.ro D l (hv.mono hma) hok hz 1 (by omega)) rfl ?_;clear H;rintro v4 G4 a w hr EY H;obtain ⟨A4,n4,c4,rfl⟩:=hr.form;exact kH H (aV K2 rfl (LR results14 rfl fun H=>H.rt hr))
theorem abF (G:GH) (w0:World) (hG:Hold G w0) (D:nE) (l:List ay) (hv:av G (.sl 11 (l.map ay.dat)) (fI D.f)) (hok:dX l) (hz:bq l≤1073741824) :
  Calls prog 16 #[D.val] w0 (bF w0 G fun u G'=>av G' (.sl 6 ((jq (dB 0 0 l) 3).map fP.dat)) u):=by
 refine eN [(0,_)] func16 rfl ntmps16 rfl rfl hG ?_;intro a H;refine dH (fun _ K1=>?_);refine fq (cs:=[_,_,_,_,_,_,_,_,_,_,_]) H wn rfl rfl rfl ?_;clear H;intro b1 a w hb1 H;refine kH H (ak K1 rfl (SQ fun _ K2=>?_));clear H K1;intro a H;obtain ⟨Ga,hma,hb',H⟩:=H.dS;have hga:=fun j v hj=>wY hb' 0 D.cells rfl j v hj;refine nY ?_;refine bK rz (cs:=D.cells) H wn rfl rfl (fun j v hj=>H.hp.aL (hga j v hj)) rfl ?_;clear H;intro a H;refine s_call TW H wn rfl (Yj _ _ H.ro D l (hv.mono hma) hok hz 3 (by omega)) rfl ?_;clear H;rintro v4 G4 a w hr EY H;obtain ⟨A4,n4,c4,rfl⟩:=hr.form;exact kH H (aV K2 rfl (LR results16 rfl fun H=>H.rt hr))
theorem aeK {G:GH} {b:Nat} {s:ByteArray} (hb:aL G b 0=some (.string s)) (x:fP):vQ (.func (.func 47) #[] #[(aJ b 0)]) G x.dat (decide (x.name=s)):=by
 intro G1 w0 cs hm hG hr;obtain rfl:=Yh hr;refine mo (caps:=[(aJ b 0)]) adu ?_;replace hb:=aM hm hb;refine eN [(0,_),(1,_)] func47 rfl ntmps47 rfl rfl hG ?_;intro a H;refine dH (fun _ K1=>?_);refine fq (cs:=[_,_,_,_,_,_]) H wn rfl rfl rfl ?_;clear H;intro b2 a w hb2 H;refine kH H (ak K1 rfl (SR fun _ K2=>aW aeC gG 0 rfl rfl (Rg gG rfl hb ?_)));clear H K1;intro a H;refine BZ H wn rfl rfl rfl ?_;clear H;intro a H;exact kH H (ak K2 rfl (LR results47 rfl fun H=>H.rt (aB (by rw [nX,decide_eq_true_iff,beq_iff_eq];exact ⟨SL,fun h=>by rw [h]⟩))))
theorem ahq (G:GH) (w0:World) (hG:Hold G w0) (l:List fP) (p:fP→Bool) (v fv:aj) (hv:av G (.sl 6 (l.map fP.dat)) v) (hf:∀ x∈l,vQ fv G x.dat (p x)) :
  Calls prog 46 #[v,fv] w0 (bF w0 G fun u G'=>u=vi (nK (l.findIdx? p))):=by
 obtain ⟨A,c,rfl,hc1,hc2,-⟩:=hv.slice;have hml:maxLen=9223372036854775807:=rfl;rw [bU] at *;refine eN [(0,_),(1,_)] func46 rfl ntmps46 rfl rfl hG ?_;intro a H;refine kP H (SR fun _ K1=>ak K1 rfl (SQ fun _ K2=>SR fun _ K3=>Rm rfl (Rl nQ rfl (Rm rfl (Kz K3 (SB ?_))))));clear H K1 K3;intro a H;skip;refine eU (ι:=Nat × GH) (Tc:=[(0,_),(1,_),(7,_)]) (Lc:=[]) (fun gh=>[(8,vi gh.1)]) (fun gh=>[]) (fun gh=>gh.2) (fun gh=>gh.1≤l.length∧(l.take gh.1).findIdx? p=none∧(∀ b o,G b=some o→gh.2 b=some o)) (fun gh=>l.length - gh.1) ((0,G)) (by exact (H).sub ⟨rfl,rfl,rfl,rfl,aD⟩) ?_ ?_
 ·exact ⟨by omega,rfl,fun _ _ h=>h⟩
 clear H;intro gh a w hI H;obtain ⟨k,g⟩:=gh;dsimp only at hI H;obtain ⟨hk,hno,hgm⟩:=hI;dsimp only [lca,bD] at H;refine kP H (SR fun _ K4=>Rc rfl (Kz K4 (SQ fun _ K5=>Cd rfl ?_ ?_))) <;> clear H K4
 ·intro h9 a H
  try have p9:=dT h9
  have hk2:k < l.length:=by omega
  obtain ⟨b,o,rfl,hrow⟩:=Ir hv hk2;refine kP H (Kc K5 (SQ fun _ K6=>SB (SR fun _ K7=>Rm rfl (ak K7 rfl (SR fun _ K8=>Rm rfl (Rm rfl (Rm rfl (Ri nQ jr rfl rfl ?_))))))));clear H K5 K7;intro a H;refine bK jr (cs:=l[k].cells) H wn rfl rfl (fun j v hj=>H.hp.aL (aM hgm (hrow j v hj))) rfl ?_;clear H;intro a H;refine oq H wn rfl rfl (hf _ (iM hk2) _ _ _ hgm H.ro (Yi _ l[k])) rfl ?_;clear H;rintro v16 oW a w rfl kV H;refine K8 _ _ ?_;clear K8;refine lW H rfl ?_ ?_
  ·intro h16
   try have p16:=dT h16
   refine kP H (SR fun _ K9=>Rm rfl (ak K9 rfl ?_));clear H K9;intro a H;refine lr H results46 rfl ?_
   first
    | exact H.rt (by rw [uF hk2 hno h16];rfl)
    | exact H.rt (by rw [show l.take k=l from jQ (by omega)] at hno;rw [hno];rfl)
  intro h16
  try have p16:=dF h16
  refine kP H (Kc K6 (SC (Rd rfl (Rm rfl ?_))));clear H K6;intro a H;refine aI ?_;refine cK ((k+1,oW)) (by exact (H).sub ⟨rfl,rfl,rfl,rfl,aD⟩) ?_ ?_
  ·(try dsimp only);exact ⟨by omega,Aw hk2 hno h16,fun b o h=>kV b o (hgm b o h)⟩
  first|omega|(dsimp only;omega)
 intro h9 a H
 try have p9:=dF h9
 refine dQ ?_;refine K2 _ _ ?_;clear K2;refine kP H (SR fun _ aT=>ak aT rfl ?_);clear H aT;intro a H;refine lr H results46 rfl ?_
 first
  | exact H.rt (by rw [uF hk2 hno h16];rfl)
  | exact H.rt (by rw [show l.take k=l from jQ (by omega)] at hno;rw [hno];rfl)
def alq:fP:=⟨0,⟨#[]⟩,0,0,0,0⟩
def GV (l:List ay) (s:ByteArray):Option fP:=(jq (dB 0 0 l) 1).find? fun x=>decide (x.name=s)
theorem ahA {l:List fP} {p:fP→Bool}:(¬ 0≤nK (l.findIdx? p)→l.find? p=none)∧(0≤nK (l.findIdx? p)→∃ (k:Nat) (hk:k < l.length),nK (l.findIdx? p)=k∧l.find? p=some l[k]):=by
 cases h:l.findIdx? p with
 | none =>
  refine ⟨fun _=>?_,fun h=>absurd h (by decide)⟩;rw [List.find?_eq_none];intro x hx;have:=List.findIdx?_eq_none_iff.1 h x hx
  simp [this]
 | some k =>
  obtain ⟨hk,h1,h2⟩:=List.findIdx?_eq_some_iff_getElem.1 h;refine ⟨fun hn=>absurd (Int.natCast_nonneg k) hn,fun _=>⟨k,hk,rfl,?_⟩⟩;rw [List.find?_eq_some_iff_getElem];exact ⟨h1,k,hk,rfl,fun j hj=>by simpa using h2 j hj⟩
theorem aad (G:GH) (w0:World) (hG:Hold G w0) (D:nE) (l:List ay) (s:ByteArray) (hv:av G (.sl 11 (l.map ay.dat)) (fI D.f)) (hok:dX l) (hz:bq l≤1073741824) :
  Calls prog 26 #[D.val,.string s] w0 (bF w0 G fun u G'=>u=.tuple #[.agg ((GV l s).getD alq).cells.toArray,.bool (GV l s).isSome]):=by
 refine eN [(0,_),(1,_)] func26 rfl ntmps26 rfl rfl hG ?_;intro a H;refine dH (fun _ K1=>?_);refine fq (cs:=[_,_,_,_,_,_,_,_,_,_,_]) H wn rfl rfl rfl ?_;clear H;intro b2 a w hb2 H;refine fq (cs:=[_]) H wn rfl rfl rfl ?_;clear H;intro b3 a w hb3 H;refine eZ jr H wn rfl ?_;clear H;intro b4 a w hb4 H;refine kH H (ak K1 rfl (SQ fun _ K2=>?_));clear H K1;intro a H;have H:=H.dV (Pl:=[_,_,_]) (dz:=[_,_,_]) [2,1,0] (by decide) rfl;obtain ⟨Ga,hma,hb',H⟩:=H.dS;obtain ⟨Gb,hmb,um,H⟩:=H.dS;have hga:=fun j v hj=>aM hmb (wY hb' 0 D.cells rfl j v hj);replace hv:=(hv.mono hma).mono hmb
 have hs3:aL Gb b3 0=some (.string s):=by unfold aL;rw [um];rfl
 refine nY ?_;refine bK rz (cs:=D.cells) H wn rfl rfl (fun j v hj=>H.hp.aL (hga j v hj)) rfl ?_;clear H;intro a H;refine s_call M6 H wn rfl (MB _ _ H.ro D l hv hok hz) rfl ?_;clear H;rintro v9 G9 a w hr xG H;obtain ⟨R,hR⟩:∃ R,R=jq (dB 0 0 l) 1:=⟨_,rfl⟩
 have hfn:GV l s=R.find? fun x=>decide (x.name=s):=by rw [hR];rfl
 rw [← hR] at hr;obtain ⟨A9,n9,c9,rfl⟩:=hr.form;have VB:=hr.len;rw [bU] at VB;subst VB;refine kH H (aV K2 rfl (SQ fun _ K3=>SR fun _ K4=>Rm rfl ?_));clear H K2;intro a H;refine qd H wn rfl rfl ?_;clear H;intro a H;refine s_call adt H wn rfl (ahq _ _ H.ro R (fun x=>decide (x.name=s)) _ _ hr (fun x _=>aeK (aM xG hs3) x)) rfl ?_;clear H;rintro v12 zI a w rfl xD H;obtain ⟨hx1,hx2⟩:=ahA (l:=R) (p:=fun x=>decide (x.name=s));replace hr:=hr.mono xD;refine kH H (ak K4 rfl (SR fun _ K5=>Rm rfl (Rc rfl (Kz K5 (Cd rfl ?_ ?_))))) <;> clear H K4 K5
 ·intro dN a H
  try have mH:=dT dN
  obtain ⟨k,hk,e1,e2⟩:=hx2 mH;obtain ⟨b,o,rfl,hrow⟩:=Ir hr hk;rw [e1] at H;refine kP H (SR fun _ K6=>Rm rfl (Rm rfl (Ri nQ jr rfl rfl ?_)));clear H;intro a H;refine bK jr (cs:=R[k].cells) H wn rfl rfl (fun j v hj=>H.hp.aL (hrow j v hj)) rfl ?_;clear H;intro a H;refine bM jr 0 (vs:=[_,_,_,_,_,_]) _ H wn rfl rfl rfl rfl rfl rfl rfl rfl ?_;clear H;intro w H;dsimp only [List.set,setRow] at H;refine kH H (ak K6 rfl ?_);clear H K6;intro a H;refine cB ?_;refine (eB H results26 (.cons (AO jr (cs:=[_,_,_,_,_,_]) H rfl rfl (H.hp.eF 0 rfl rfl)) (.cons (aR H rfl) .nil)) ?_).1;exact H.rt (by rw [hfn,e2];rfl)
 intro dN a H
 try have mH:=dF dN
 have e2:=hx1 mH;refine fT ?_;refine K3 _ _ ?_;clear K3;refine dH (fun _ K7=>?_);refine ku Ld [_,_,_,_,_,_] H wn rfl rfl rfl rfl ?_;clear H;intro a H;refine bM jr 0 (vs:=[_,_,_,_,_,_]) _ H wn rfl rfl rfl rfl rfl rfl rfl rfl ?_;clear H;intro w H;dsimp only [List.set,setRow] at H;refine kH H (ak K7 rfl ?_);clear H K7;intro a H;refine cB ?_;refine (eB H results26 (.cons (AO jr (cs:=[_,_,_,_,_,_]) H rfl rfl (H.hp.eF 0 rfl rfl)) (.cons (aR H rfl) .nil)) ?_).1;exact H.rt (by rw [hfn,e2];rfl)
end
section
open Go.RowKit
end
section
open Go.RowKit
theorem TG:∀ args w,(callFunc 103 args).run prog w=.ok (.enter 103 args) w:=enters func103 rfl (by kernel_rfl)
def gJ:Nat→List ay→List (Nat × ay)
 | _,[]=>[]
 | o,x :: l=>(o,x) :: gJ (o+eD x) l
def Fg (a:Nat × ay):AP:=fun args g=>∃ cs,args=[vi a.1,.agg cs.toArray]∧aZ g a.2.dat cs
theorem Wt {A:List (Nat × ay)} {k:Nat} {args:List aj} {g:GH} (h:uK (A.map Fg) k args g):∃ (hk:k < A.length) (cs:List aj),args=[vi A[k].1,.agg cs.toArray]∧aZ g A[k].2.dat cs:=by
 obtain ⟨p,hp,hargs⟩:=h;rw [qp] at hp;obtain ⟨q,hq,rfl⟩:=lu.1 hp;obtain ⟨hk,rfl⟩:=ji.1 hq;obtain ⟨cs,h1,h2⟩:=hargs;exact ⟨hk,cs,h1,h2⟩
theorem Xl:∀ (l:List ay) (o:Nat),(gJ o l).length=l.length
 | [],_=>rfl
 | x :: l,o=>by simp [gJ,Xl l]
theorem QJ (x:ay):eD x < dw x.dat:=by
 have:=nU x;have h2:=Gw x.text
 unfold eD;split <;> omega
set_option maxHeartbeats 1000000 in
theorem ahx {G:GH} {bd:Nat} {l:List ay} {v:aj} (hb:aL G bd 0=some v) (hv:av G (.sl 11 (l.map ay.dat)) v) (hz:bq l≤4294967290) :
  Iter prog G (.func (.func 103) #[] #[(aJ bd 0)]) ((gJ 0 l).map Fg):=by
 intro J Jx fv G1 L w0 Vk hGi vg hJx hJ hO hcb;refine mo (caps:=[(aJ bd 0)]) TG ?_;obtain ⟨A,c,rfl,hc1,hc2,hg⟩:=hv.slice;rw [bU] at *;have hll:=zF l;replace hb:=aM hGi hb;refine kg (N:=28) (T:=[(0,_),(1,_)]) func103 rfl ntmps103 rfl rfl hO ?_;intro a H;refine kP H (SR fun _ K1=>ak K1 rfl (SR fun _ K2=>Rg gW rfl (by assumption) ?_));clear H K1;intro a H;refine kH H (Rl fU rfl (Rm rfl (Kz K2 (SB ?_))));clear H K2;intro a H;skip;refine eU (ι:=Nat × Nat × Nat × OL × GH) (Tc:=[(0,_),(8,_),(9,_)]) (Lc:=[]) (fun gh=>[(3,vi gh.2.1),(10,vi gh.1)]) (fun gh=>[]++gh.2.2.2.1) (fun gh=>gh.2.2.2.2) (fun gh=>gh.1≤l.length∧(∀ b o,G1 b=some o→gh.2.2.2.2 b=some o)∧Now ((gJ 0 l).map Fg) Fg J (gJ 0 l).length gh.2.2.1 (gJ gh.2.1 (l.drop gh.1)) gh.2.2.2.2 gh.2.2.2.1∧gh.2.1+bq (l.drop gh.1)≤4294967290) (fun gh=>l.length - gh.1) ((0,0,0,L,G1)) (by exact (H).sub ⟨rfl,rfl,rfl,rfl,rfl,aD⟩) ?_ ?_
 ·exact ⟨by omega,fun _ _ h=>h,⟨hJ,fun i a h=>by rw [kT,qp];rw [uR] at h;rw [h];rfl,by simp⟩,by simp;omega⟩
 clear H;intro gh a w hI H;obtain ⟨k,at_,j1,Lt,g⟩:=gh;dsimp only at hI H;obtain ⟨hk,hgm,eH,hat⟩:=hI;dsimp only [lca,bD] at H;refine bG (fun _ K3=>?_);skip;refine kP H (SC (Rc rfl (Kn K3 (SQ fun _ K4=>Cd rfl ?_ ?_)))) <;> clear H K3
 ·intro h11 a H
  try have nM:=dT h11
  have hk2:k < l.length:=by omega
  obtain ⟨b,o,pA,pn,pc,dA,dn,dc,yA,yn,yc,fA,fn,fc,rA,rn,rc,rfl,hrow,hhd,hfl,hrw⟩:=wX hk2 hg;have J5:∀ b o,G b=some o→g b=some o:=fun b o h=>hgm b o (hGi b o h);replace hrow:=fun j u hj=>aM J5 (hrow j u hj);have hsz2:=Ei (iM hk2);have hn1:=QJ l[k];have hzi:=nU l[k];rw [kS hk2] at eH hat;rw [bq,eT,eX] at hat;rw [gJ] at eH;refine kP H (Kc K4 (SQ fun _ K5=>SB (SR fun _ K6=>Ri fU dx rfl rfl ?_)));clear H K4;intro a H;refine bK dx (cs:=[_,_,_,_,_,_,_,_,_,_,_]) H wn rfl rfl (fun j v hj=>H.hp.aL (hrow j v hj)) rfl ?_;clear H;intro a H;refine eZ dx H wn rfl ?_;clear H;intro b5 a w hb5 H;refine bM dx 0 (vs:=[_,_,_,_,_,_,_,_,_,_,_]) _ H wn rfl rfl rfl rfl rfl rfl rfl rfl ?_;clear H;intro w H;dsimp only [List.set,setRow] at H;refine K6 _ _ ?_;clear K6;refine kP H (SQ fun _ K7=>SR fun _ K8=>Rm rfl (Rm rfl ?_));clear H;intro a H;refine bK dx (cs:=[_,_,_,_,_,_,_,_,_,_,_]) H wn rfl rfl (H.hp.eF 0 rfl rfl) rfl ?_;clear H;intro a H;refine FB (Li:=[_]) (L:=Lt) H wn rfl rfl (hcb j1 _ _ _ _ ⟨_,eH.head,_,rfl,aZ.mkItem (hhd.mono J5) (hfl.mono J5) (hrw.mono J5)⟩ hgm eH.now (Hp.owns (Li:=[_]) H.hp)) rfl ?_;clear H;rintro v17 zJ Ma a w ⟨b17,rfl,hb1,hb2⟩ qU H;refine kH H (Rn rfl (Kz K8 (Cd rfl ?_ ?_))) <;> clear H K8
  ·intro h18 a H
   try have rV:=dT h18
   refine cB ?_;refine (leave0 H results103 ?_).1
   first
    | exact H.hp.gT (L':=Ma) (by repeat (first|exact iN _|apply List.Sublist.cons)) (.inr (hb2 (by simpa using h18)))
    | exact H.hp.eP (.inl (by have:=eH.len;rw [iq (by omega)] at this;simp only [gJ,List.length_nil,tN] at this;(try rw [bU]);rw [← this];exact eH.now))
  intro h18 a H
  try have rV:=dF h18
  refine fT ?_;refine K7 _ _ ?_;clear K7;refine dH (fun _ K9=>?_);refine bK dx (cs:=[_,_,_,_,_,_,_,_,_,_,_]) H wn rfl rfl (H.hp.eF 0 rfl rfl) rfl ?_;clear H;intro a H;refine s_call Ng H wn rfl (QK _ _ H.ro _ _ _ _ _ _ _ _ _ _ (by omega)) rfl ?_;clear H;rintro v21 _ a w ⟨rfl,rfl⟩ - H;refine kH H (Rm rfl ?_);clear H;intro a H;(iterate 2 refine jN H wn rfl rfl rfl ?_;clear H;intro a H);refine kH H (Ra rfl (ak K9 rfl (SC (Rm rfl (Rm rfl (Rd rfl (aV K5 rfl (SC (Rd rfl (Rm rfl ?_))))))))));clear H K9 K5;intro a H;refine aI ?_;refine cK ((k+1,at_+eD l[k],j1+1,Ma,zJ)) (by exact (H.dV (Pl:=[_]) (dz:=[]) [] (by decide) rfl).sub ⟨rfl,rfl,rfl,rfl,rfl,aD⟩) ?_ ?_
  ·(try dsimp only);exact ⟨by omega,fun b o h=>qU b o (hgm b o h),eH.step (hb1 (by simpa using h18)),by show at_+eD l[k]+eX ((l.drop (k+1)).map ay.dat)≤4294967290;omega⟩
  first|omega|(dsimp only;omega)
 intro h11 a H
 try have nM:=dF h11
 refine dQ ?_;refine (leave0 H results103 ?_).2
 first
  | exact H.hp.gT (L':=Ma) (by repeat (first|exact iN _|apply List.Sublist.cons)) (.inr (hb2 (by simpa using h18)))
  | exact H.hp.eP (.inl (by have:=eH.len;rw [iq (by omega)] at this;simp only [gJ,List.length_nil,tN] at this;(try rw [bU]);rw [← this];exact eH.now))
theorem ahy (G:GH) (w0:World) (hG:Hold G w0) (l:List ay) (v:aj) (hv:av G (.sl 11 (l.map ay.dat)) v) (hz:bq l≤4294967290) :
  Calls prog 68 #[v] w0 (bF w0 G fun u G'=>∃ bd,u=.func (.func 103) #[] #[(aJ bd 0)]∧Iter prog G' u ((gJ 0 l).map Fg)):=by
 obtain ⟨A,c,rfl,hc1,hc2,hg⟩:=hv.slice;refine eN [(0,_)] func68 rfl ntmps68 rfl rfl hG ?_;intro a H;refine dH (fun _ K1=>?_);refine fq (cs:=[_]) H wn rfl rfl rfl ?_;clear H;intro b1 a w hb1 H;refine kH H (ak K1 rfl (SR fun _ K2=>?_));clear H K1;intro a H;refine qd H wn rfl rfl ?_;clear H;intro a H;refine kH H (ak K2 rfl ?_);clear H K2;intro a H;refine cB ?_;obtain ⟨G2,hm2,hb1,H⟩:=H.dS;refine lv H results68 rfl ?_;exact H.rt ⟨b1,rfl,ahx (by unfold aL;rw [hb1];rfl) (hv.mono hm2) hz⟩
end
section
open Go.RowKit
theorem adF:∀ args w,(callFunc 68 args).run prog w=.ok (.enter 68 args) w:=enters func68 rfl (by kernel_rfl)
def wB (t:Int) (a:Nat × ay):Bool:=decide ((a.1:Int)+eD a.2≤t)
def lA (t:Int) (A:List (Nat × ay)):List ay:=(A.filter (wB t)).map (·.2)
def rA (t:Int) (A:List (Nat × ay)):List ay:=(A.filter fun a=>!wB t a).map (·.2)
theorem ahN {t:Int} {A:List (Nat × ay)} {k:Nat} (hk:k < A.length) (h:wB t A[k]=true):lA t (A.take (k+1))=lA t (A.take k)++[A[k].2]∧rA t (A.take (k+1))=rA t (A.take k):=by
 rw [jF hk];simp only [lA,rA,List.filter_append,lG];simp [h]
theorem ahM {t:Int} {A:List (Nat × ay)} {k:Nat} (hk:k < A.length) (h:wB t A[k]=false):lA t (A.take (k+1))=lA t (A.take k)∧rA t (A.take (k+1))=rA t (A.take k)++[A[k].2]:=by
 rw [jF hk];simp only [lA,rA,List.filter_append,lG];simp [h]
theorem ahL (t:Int) (A:List (Nat × ay)):(lA t A).length≤A.length:=by simp only [lA,bU];exact List.length_filter_le _ _
theorem ajb (t:Int) (A:List (Nat × ay)):(rA t A).length≤A.length:=by simp only [rA,bU];exact List.length_filter_le _ _
def vB (t:Int) (l:List ay):List ay:=lA t (gJ 0 l)
def BU (t:Int) (l:List ay):List ay:=rA t (gJ 0 l)
theorem Xm:∀ {l:List ay} {o:Nat} {a:Nat × ay},a∈gJ o l→a.2∈l∧a.1+dw a.2.dat≤o+bq l
 | [],_,_,h=>by cases h
 | x :: l,o,a,h=>by
  rw [gJ] at h;have hu:=QJ x
  rcases lq.1 h with rfl|h
  ·exact ⟨iC,by simp only [bq,eT,eX];omega⟩
  obtain ⟨h1,h2⟩:=Xm h;exact ⟨jZ _ h1,by simp only [bq,eT,eX] at *;omega⟩
theorem TB (G:GH) (w0:World) (hG:Hold G w0) (l:List ay) (t:Int) (v:aj) (hv:av G (.sl 11 (l.map ay.dat)) v) (hz:bq l≤1073741824) (hcut:∀ a∈gJ 0 l,wB t a=true∨t≤a.1) :
  Calls prog 43 #[v,vi t] w0 (bF w0 G fun u G'=>∃ x y,u=.tuple #[x,y]∧av G' (.sl 11 ((vB t l).map ay.dat)) x∧av G' (.sl 11 ((BU t l).map ay.dat)) y):=by
 have hml:4294967297≤maxLen:=by decide
 have hll:=zF l;have hol:=Xl l 0;obtain ⟨A,hA⟩:∃ A,A=gJ 0 l:=⟨_,rfl⟩;refine eN [(0,_),(1,_)] func43 rfl ntmps43 rfl rfl hG ?_;intro a H;refine dH (fun _ K1=>?_);refine fq (cs:=[_]) H wn rfl rfl rfl ?_;clear H;intro b3 a w hb3 H;refine eZ gW H wn rfl ?_;clear H;intro b4 a w hb4 H;refine eZ gW H wn rfl ?_;clear H;intro b5 a w hb5 H;refine K1 _ _ ?_;clear K1;refine kP H (SQ fun _ K2=>SR fun _ K3=>Rm rfl ?_);clear H;intro a H;refine s_call adF H wn rfl (ahy _ _ H.ro l v hv (by omega)) rfl ?_;clear H;rintro v14 FX a w ⟨bd,rfl,hit⟩ OH H;rw [← hA] at hit hcut hol;refine K3 _ _ ?_;clear K3;refine yI ?_;skip;refine SY (ι:=aj × aj × List aj × List aj × OL × OL) (κ:=Empty) (Lc:=[(_,_)]) (fun (k:Nat) (gh:aj × aj × List aj × List aj × OL × OL)=>[(b4,.cells #[gh.1] 22 (0,0)),(b5,.cells #[gh.2.1] 22 (0,0))]) (fun (k:Nat) (gh:aj × aj × List aj × List aj × OL × OL)=>gh.2.2.2.2.1++gh.2.2.2.2.2) (fun (k:Nat) (gh:aj × aj × List aj × List aj × OL × OL) (g:GH)=>dJ 63 11 gh.1 (lA t (A.take k)).length gh.2.2.1 gh.2.2.2.2.1∧fD g 11 ((lA t (A.take k)).map ay.dat) gh.2.2.1∧dJ 63 11 gh.2.1 (rA t (A.take k)).length gh.2.2.2.1 gh.2.2.2.2.2∧fD g 11 ((rA t (A.take k)).map ay.dat) gh.2.2.2.1) (fun x=>x.elim) (fun x=>x.elim) (fun x=>x.elim) (fun x=>x.elim) ((.slice none 0 0,.slice none 0 0,[],[],[],[])) (by exact (H.Xi (A:=[_,_,_])).dV (Pl:=[_,_,_]) (dz:=[_,_,_]) [2,1,0] (by decide) rfl) rfl TG (hit) (fun _ _ h=>h) rfl (fun k args g h=>by obtain ⟨_,_,rfl,_⟩:=Wt h;rfl) (fun k i G G' hm h=>⟨h.1,h.2.1.mono hm,h.2.2.1,h.2.2.2.mono hm⟩) (fun x=>x.elim) (⟨dJ.nil,fD.nil,dJ.nil,fD.nil⟩) ?_ ?_ ?_
 ·clear H;intro l2 BS yH bk k args gh G2 w2 F2 B2 a hk2 hm2 hI Oy Ki VX H;obtain ⟨vl,vr,xl,xr,Ll,Lr⟩:=gh;dsimp only at hI H;obtain ⟨hk,cs,rfl,hcs⟩:=Wt hk2;obtain ⟨-,hza⟩:=Xm (l:=l) (o:=0) (a:=A[k]) (by rw [← hA];exact iM hk);have hzi:=nU A[k].2;have hun:=QJ A[k].2;have hlk:=ahL t (A.take k);have HY:=ajb t (A.take k);rw [List.length_take] at hlk HY;obtain ⟨pA,pn,pc,dA,dn,dc,yA,yn,yc,fA,fn,fc,XA,rn,rc,rfl,hh,hf,hr⟩:=hcs.item;dsimp only [wP,List.cons_append,List.nil_append] at H;obtain ⟨hrl,hcl,hrr,hcr⟩:=hI;refine kP H (SR fun _ K4=>ak K4 rfl (SC ?_));clear H K4;intro a H;refine eZ dx H wn rfl ?_;clear H;intro b7 a w Dn H;refine bM dx 0 (vs:=[_,_,_,_,_,_,_,_,_,_,_]) _ H wn rfl rfl rfl rfl rfl rfl rfl rfl ?_;clear H;intro w H;dsimp only [List.set,setRow] at H;refine aI ?_;refine Oy _ _ _ _ _ _ (by exact H.dV (Pl:=[_,_,_,_,_]) (dz:=[_,_,_,_,_]) [1,0,2,3,4] (by decide) rfl) ?_;clear H;intro w H;refine yI ?_;refine dH (fun _ K5=>?_);refine bK dx (cs:=[_,_,_,_,_,_,_,_,_,_,_]) H wn rfl rfl (H.hp.eF 1 rfl rfl) rfl ?_;clear H;intro a H;refine s_call Ng H wn rfl (QK _ _ H.ro A[k].2 _ _ _ _ _ _ _ _ _ (by omega)) rfl ?_;clear H;rintro v19 _ a w ⟨rfl,rfl⟩ - H;refine kH H (Rm rfl ?_);clear H;intro a H;(iterate 2 refine jN H wn rfl rfl rfl ?_;clear H;intro a H);refine kH H (Ra rfl (ak K5 rfl (SB (SR fun _ K6=>Rm rfl (Rm rfl (Rd rfl (Ro aH 2 rfl (Rc rfl (ak K6 rfl (Cd rfl ?_ ?_)))))))))) <;> clear H K5 K6
  ·intro h50 a H
   try have p50:=dT h50
   have hfit:wB t A[k]=true:=h50;obtain ⟨e1,e2⟩:=ahN hk hfit;obtain ⟨vA,vc,rfl,-,-⟩:=hrl.shape;have H:=H.perm (Xw [_,_,_,_,_] bk Ll Lr);refine SN (i0:=3) (i1:=1) hmx (by kernel_rfl) fU gW dx rfl rfl rfl rfl rfl (by kernel_rfl) rfl (by decide) H rfl rfl rfl rfl rfl rfl hrl (by omega) (by omega) ?_;clear H;intro vl Ll yw a w yU VP H;have H:St _ _ _ _ _ _ ([_,_,_,_,_]++(bk++(Ll++Lr))) _ _ _:=H.perm (Xw [_,_,_,_,_] bk Ll Lr).symm;dsimp only [lca,bD] at H;obtain ⟨xl,hxl⟩:∃ x,x=xl++[vi A[k].2.kind,vi A[k].2.code,vi A[k].2.id,.string A[k].2.text,.slice pA pn pc,vi A[k].2.head.marks.ins,vi A[k].2.head.marks.move,.slice dA dn dc,.slice yA yn yc,.slice fA fn fc,.slice XA rn rc]:=⟨_,rfl⟩;rw [← hxl] at VP
   have hI:dJ 63 11 vl (lA t (A.take (k+1))).length xl Ll∧fD yw 11 ((lA t (A.take (k+1))).map ay.dat) xl∧dJ 63 11 vr (rA t (A.take (k+1))).length xr Lr∧fD yw 11 ((rA t (A.take (k+1))).map ay.dat) xr:=by
    rw [e1,e2,lF,lG];exact ⟨VP,by rw [hxl];exact (hcl.mono yU).snoc (hcs.mono yU) rfl,hrr,hcr.mono yU⟩
   refine Ki ((vl,vr,xl,xr,Ll,Lr)) _ _ _ _ _ (by exact H.dV (Pl:=[_,_,_,_,_]) (dz:=[_,_,_,_]) [0,2,3,4] (by decide) rfl) ?_;exact hI
  intro h50 a H
  try have p50:=dF h50
  have hfit:wB t A[k]=false:=h50;obtain ⟨e1,e2⟩:=ahM hk hfit;refine kP H (SR fun _ K7=>Rm rfl (Ro aH 2 rfl (Rc rfl (ak K7 rfl (Cd rfl ?_ ?_))))) <;> clear H K7
  ·intro Db a H
   try have p62:=dT Db
   obtain ⟨vA,vc,rfl,-,-⟩:=hrr.shape;have H:=H.cast (Xv [_,_,_,_,_] bk Ll Lr);refine SN (i0:=4) (i1:=1) hmx (by kernel_rfl) fU gW dx rfl rfl rfl rfl rfl (by kernel_rfl) rfl (by decide) H rfl rfl rfl rfl rfl rfl hrr (by omega) (by omega) ?_;clear H;intro vr Lr yw a w yU VQ H;have H:St _ _ _ _ _ _ ([_,_,_,_,_]++(bk++(Ll++Lr))) _ _ _:=H.cast (Xv [_,_,_,_,_] bk Ll Lr).symm;dsimp only [lca,bD] at H;obtain ⟨xr,Kr⟩:∃ x,x=xr++[vi A[k].2.kind,vi A[k].2.code,vi A[k].2.id,.string A[k].2.text,.slice pA pn pc,vi A[k].2.head.marks.ins,vi A[k].2.head.marks.move,.slice dA dn dc,.slice yA yn yc,.slice fA fn fc,.slice XA rn rc]:=⟨_,rfl⟩;rw [← Kr] at VQ
   have hI:dJ 63 11 vl (lA t (A.take (k+1))).length xl Ll∧fD yw 11 ((lA t (A.take (k+1))).map ay.dat) xl∧dJ 63 11 vr (rA t (A.take (k+1))).length xr Lr∧fD yw 11 ((rA t (A.take (k+1))).map ay.dat) xr:=by
    rw [e1,e2,lF,lG];exact ⟨hrl,hcl.mono yU,VQ,by rw [Kr];exact (hcr.mono yU).snoc (hcs.mono yU) rfl⟩
   refine Ki ((vl,vr,xl,xr,Ll,Lr)) _ _ _ _ _ (by exact H.dV (Pl:=[_,_,_,_,_]) (dz:=[_,_,_,_]) [0,2,3,4] (by decide) rfl) ?_;exact hI
  intro Db a H
  try have p62:=dF Db
  exact absurd (hcut _ (iM hk)) (by rw [hfit];simp only [CJ,false_or];omega)
 ·clear H;intro QY gh Rp a w hm2 hI H;obtain ⟨vl,vr,xl,xr,Ll,Lr⟩:=gh;dsimp only at hI H;dsimp only [lca,bD] at H;obtain ⟨hrl,hcl,hrr,hcr⟩:=hI;rw [show A.take (A.map Fg).length=A by rw [bU,uP]] at hrl hcl hrr hcr;obtain ⟨lA0,lc0,rfl,-,-⟩:=hrl.shape;obtain ⟨rA0,rc0,rfl,-,-⟩:=hrr.shape;refine K2 _ _ ?_;clear K2;refine bG (fun _ K8=>?_);refine dI hmx [[],[],[0],[0,1,2]] [] (by kernel_rfl) [.slice lA0 (lA t A).length lc0,.slice rA0 (rA t A).length rc0] H (aG (Z0 rfl (Ro gW 2 rfl)) (Z0 rfl (Ro gW 3 rfl)) ?_ ?_ bZ) ?_
  ·intro bg a w G1 _ bE hc hG HT hv;have H:=HT;clear bE;have H:=H.aQ (hv 0 72 (hc 0 (by decide)) rfl) rfl;have Hb:=H.full;have H:=Hb;clear hc;refine bM gW 2 (vs:=[_]) _ H wn rfl rfl rfl rfl rfl rfl rfl rfl ?_;clear H;intro w H;dsimp only [List.set,setRow] at H;refine aI ⟨rfl,?_⟩;exact TD rfl HT hG hv H
  ·intro bg a w G1 _ bE hc hG HT hv;have H:=HT;clear bE;have H:=H.aQ (hv 1 73 (hc 1 (by decide)) rfl) rfl;have Hb:=H.full;have H:=Hb;clear hc;refine bM gW 3 (vs:=[_]) _ H wn rfl rfl rfl rfl rfl rfl rfl rfl ?_;clear H;intro w H;dsimp only [List.set,setRow] at H;refine aI ⟨rfl,?_⟩;exact TD rfl HT hG hv H
  clear H;intro a w G JV H hv;clear hv;refine aI ⟨rfl,?_⟩;refine K8 _ _ ?_;clear K8;refine cB ?_;obtain ⟨En,BG,hgr,H⟩:=St.uh (Li:=[_,_,_,_]++Ll) (St.un (A:=[_,_,_,_]) H) hrr (rows:=(rA t A).map ay.dat) (by simp) (hcr.mono JV);obtain ⟨LV,xE,hgl,H⟩:=St.uh (Li:=[_,_,_,_]) H hrl (rows:=(lA t A).map ay.dat) (by simp) ((hcl.mono JV).mono BG);replace hgr:=hgr.mono xE;refine (Ih H 0 rfl ?_).1;clear H;intro a w H;dsimp only [List.eraseIdx_cons_succ,List.eraseIdx_cons_zero] at H;refine (eB H results43 (.cons (tC gW H rfl (H.hp.nL 1 rfl rfl)) (.cons (tC gW H rfl (H.hp.nL 2 rfl rfl)) .nil)) ?_).1;exact H.rt ⟨_,_,rfl,by rw [vB,← hA];exact hgl,by rw [BU,← hA];exact hgr⟩
 intro Dk x;exact x.elim
end
section
open Go.RowKit
theorem dJ.ptr {e sz n c:Nat} {A:Option Addr} {xs:List aj} {Lo:OL} (h:dJ e sz (.slice A n c) n xs Lo) (hn:0 < n):∃ b,A=some ⟨b,0,none⟩:=by
 rcases h.2 with ⟨_,h0,_⟩|⟨b,cap,cur,he,_⟩
 ·omega
 ·injection he with e1;exact ⟨b,e1⟩
theorem dJ.at {w0 w:World} {F:Nat→Prop} {G0 G:GH} {L Lo:OL} {e sz n c b o:Nat} {xs:List aj} (h:dJ e sz (.slice (some ⟨b,o,none⟩) n c) n xs Lo) (H:Hp w0 F G0 G L w) (hsub:∀ x∈Lo,x∈L) {i:Nat} {u:aj} (hi:xs[i]?=some u):w.cell? ⟨b,i,none⟩=some u:=by
 rcases h.2 with ⟨h1,_⟩|⟨b2,cap,cur,he,hl,h1,h2,h3,h4⟩
 ·cases h1
 ·injection he with e1
  injection e1 with e1
  injection e1 with e1
  subst e1
  refine H.WU (c:=cur) (e:=e) (fz:=(0,0)) (hsub _ (by rw [hl];exact List.mem_singleton_self _)) ?_
  have hx:i < xs.length:=(ji.1 hi).1
  rw [h.1] at hx
  rw [← h4,tL,au hx,Array.getElem?_toList] at hi
  exact hi
theorem flat_get {sz:Nat}:∀ {css:List (List aj)} {k:Nat} (hk:k < css.length) (h:∀ cs∈css,cs.length=sz) (j:Nat),j < sz→css.flatten[k*sz+j]?=css[k][j]?
 | c :: css,0,_,h,j,hj=>by
  rw [List.flatten_cons,Nat.zero_mul,kT,List.getElem_cons_zero,vS (by rw [h c iC];exact hj)]
 | c :: css,k+1,hk,h,j,hj=>by
  have ih:=flat_get (css:=css) (k:=k) (by simpa using hk) (fun cs hc=>h cs (jZ _ hc)) j hj
  rw [List.flatten_cons,List.getElem_cons_succ,vT (by rw [h c iC,Nat.succ_mul];omega),h c iC,show (k+1)*sz+j - sz=k*sz+j by rw [Nat.succ_mul];omega]
  exact ih
theorem fD.at {G:GH} {sz:Nat} {rows:List (List Dat)} {xs:List aj} (h:fD G sz rows xs) {k:Nat} {r:List Dat} (hk:rows[k]?=some r):∃ cs,cs.length=sz∧(∀ j u,cs[j]?=some u→xs[k*sz+j]?=some u)∧aZ G r cs:=by
 obtain ⟨css,rfl,h2,h3⟩:=h
 have hkl:k < css.length:=by rw [h2];exact (ji.1 hk).1
 obtain ⟨hr,hl⟩:=h3 k r css[k] hk (gY hkl)
 refine ⟨css[k],hl,fun j u hj=>?_,hr⟩
 rw [flat_get hkl (fun cs hc=>?_) j (by rw [← hl];exact (ji.1 hj).1)]
 ·exact hj
 ·obtain ⟨i,hi,rfl⟩:=List.getElem_of_mem hc
  exact (h3 i rows[i] css[i] (gY (by omega)) (gY hi)).2
end
section
open Go.RowKit
theorem acg:∀ args w,(callFunc 104 args).run prog w=.ok (.enter 104 args) w:=enters func104 rfl (by kernel_rfl)
theorem Ua:∀ args w,(callFunc 44 args).run prog w=.ok (.enter 44 args) w:=enters func44 rfl (by kernel_rfl)
theorem adG:∀ args w,(callFunc 70 args).run prog w=.ok (.enter 70 args) w:=enters func70 rfl (by kernel_rfl)
theorem adH:∀ args w,(callFunc 73 args).run prog w=.ok (.enter 73 args) w:=enters func73 rfl (by kernel_rfl)
theorem abS (G:GH) (w0:World) (hG:Hold G w0) (A:Option Addr) (n c:Nat) (fv:aj) (hv:av G (.sl 6 []) (.slice A n c)) :
  Calls prog 70 #[.slice A n c,fv] w0 (bF w0 G fun u G'=>av G' (.sl 6 []) u):=by
 refine eN [(0,_),(1,_)] func70 rfl ntmps70 rfl rfl hG ?_;intro a H;refine kP H (SR fun _ K1=>ak K1 rfl (SR fun _ K2=>Rm rfl (Rm rfl ?_)));clear H K1;intro a H;refine s_call acg H wn rfl (ahn _ _ H.ro [] (fun _=>true) _ _ hv (fun x h=>by cases h)) rfl ?_;clear H;rintro v10 yw a w rfl yU H;refine kH H (ak K2 rfl (SQ fun _ K3=>SR fun _ K4=>Rm rfl (Rc rfl (Kz K4 (Cd rfl ?_ ?_))))) <;> clear H K2 K4
 ·intro h12 a H
  exact kP H (SR fun _ K5=>Rm rfl (ak K5 rfl (LR results70 rfl fun H=>H.rt (hv.mono yU))))
 intro h12 a H
 exact absurd h12 (by decide)
theorem aiC (G:GH) (w0:World) (hG:Hold G w0) (A:Option Addr) (n c:Nat) (hv:av G (.sl 11 []) (.slice A n c)) :
  Calls prog 44 #[.slice A n c] w0 (bF w0 G fun u G'=>av G' (.sl 11 []) u):=by
 have hn:n=0:=hv.len;refine eN [(0,_)] func44 rfl ntmps44 rfl rfl hG ?_;intro a H;refine kP H (SR fun _ K1=>ak K1 rfl (SR fun _ K2=>ak K2 rfl (SQ fun _ K3=>SR fun _ K4=>Rm rfl (Rl fU rfl (Rm rfl (Kz K4 (SB ?_)))))));clear H K1 K2 K4;intro a H;skip;refine eU (ι:=Unit) (Tc:=[(7,_),(8,_)]) (Lc:=[]) (fun gh=>[(3,.slice none 0 0),(9,vi 0)]) (fun gh=>[]) (fun gh=>G) (fun gh=>True) (fun gh=>0) (()) (by exact (H).sub ⟨rfl,rfl,rfl,rfl,aD⟩) ?_ ?_
 ·trivial
 clear H;intro gh a w hI H;obtain ⟨u,hgh⟩:∃ x,x=gh:=⟨_,rfl⟩;subst hgh;skip;dsimp only [lca,bD] at H;refine kP H (SR fun _ K5=>Rc rfl (Kz K5 (SQ fun _ K6=>Cd rfl ?_ ?_))) <;> clear H K5
 ·intro h10 a H
  try have lN:=dT h10
  exact absurd lN (by rw [hn];decide)
 intro h10 a H
 refine dQ ?_;refine K3 _ _ ?_;clear K3;exact kP H (SR fun _ K7=>Rm rfl (ak K7 rfl (LR results44 rfl fun H=>H.rt (av.jo rfl (by decide)))))
def R9 (x:ay):Prop:=x.flow=[]∧x.rows=[]∧¬ x.kind=7∧(x.kind=1→¬ x.text.toList=[])
def Gc (l:List ay):Prop:=∀ (k:Nat) (h:k+1 < l.length),¬ (l[k].kind=1∧l[k+1].kind=1∧l[k].head=l[k+1].head)
theorem Gc.one {l:List ay} (h:l.length≤1):Gc l:=fun k hk=>by omega
set_option maxHeartbeats 2000000 in
theorem aiD (G:GH) (w0:World) (hG:Hold G w0) (l:List ay) (v:aj) (hv:av G (.sl 11 (l.map ay.dat)) v) (hj:Gc l) (hp:∀ x∈l,R9 x) (hz:bq l≤1073741824) :
  Calls prog 44 #[v] w0 (bF w0 G fun u G'=>av G' (.sl 11 (l.map ay.dat)) u):=by
 obtain ⟨A,c,rfl,hc1,hc2,hg⟩:=hv.slice
 have hml:4294967297≤maxLen:=by decide
 have hll:l.length≤bq l:=Nat.le_trans (PD l) (Lj l);rw [bU] at *;refine eN [(0,_)] func44 rfl ntmps44 rfl rfl hG ?_;intro a H;refine kP H (SR fun _ K1=>ak K1 rfl (SR fun _ K2=>ak K2 rfl (SQ fun _ K3=>SR fun _ K4=>Rm rfl (Rl fU rfl (Rm rfl (Kz K4 (SB ?_)))))));clear H K1 K2 K4;intro a H;skip;refine eU (ι:=Nat × aj × List aj × OL × GH) (Tc:=[(7,_),(8,_)]) (Lc:=[]) (fun gh=>[(3,gh.2.1),(9,vi gh.1)]) (fun gh=>[]++gh.2.2.2.1) (fun gh=>gh.2.2.2.2) (fun gh=>gh.1≤l.length∧dJ 63 11 gh.2.1 gh.1 gh.2.2.1 gh.2.2.2.1∧fD gh.2.2.2.2 11 ((l.map ay.dat).take gh.1) gh.2.2.1∧(∀ b o,G b=some o→gh.2.2.2.2 b=some o)) (fun gh=>l.length - gh.1) ((0,.slice none 0 0,[],[],G)) (by exact (H).sub ⟨rfl,rfl,rfl,rfl,aD⟩) ?_ ?_
 ·exact ⟨by omega,dJ.nil,by simpa using fD.nil,fun _ _ h=>h⟩
 clear H;intro gh a w hI H;obtain ⟨k,v,xs,Lo,g⟩:=gh;dsimp only at hI H;obtain ⟨hk,hrw,jH,hgm⟩:=hI;dsimp only [lca,bD] at H;refine kP H (SR fun _ K5=>Rc rfl (Kz K5 (SQ fun _ K6=>Cd rfl ?_ ?_))) <;> clear H K5
 ·intro h10 a H
  try have lN:=dT h10
  have hk2:k < l.length:=by omega
  obtain ⟨vA,vc,rfl,-,-⟩:=hrw.shape;obtain ⟨b,o,pA,pn,pc,dA,dn,dc,yA,yn,yc,fA,fn,fc,rA,rn,rc,rfl,hrow,hhd,hfl,hrs⟩:=wX hk2 hg;replace hrow:=fun j u hj=>aM hgm (hrow j u hj);obtain ⟨e1,e2,e3,e4⟩:=hp _ (iM hk2);have hzi:=Y9 hk2;rw [e1] at hfl;rw [e2] at hrs;refine kP H (Kc K6 (SQ fun _ K7=>SB (SR fun _ K8=>Ri fU dx rfl rfl ?_)));clear H K6;intro a H;refine bK dx (cs:=[_,_,_,_,_,_,_,_,_,_,_]) H wn rfl rfl (fun j v hj=>H.hp.aL (hrow j v hj)) rfl ?_;clear H;intro a H;refine eZ dx H wn rfl ?_;clear H;intro b5 a w hb5 H;refine bM dx 0 (vs:=[_,_,_,_,_,_,_,_,_,_,_]) _ H wn rfl rfl rfl rfl rfl rfl rfl rfl ?_;clear H;intro w H;dsimp only [List.set,setRow] at H;refine K8 _ _ ?_;clear K8;refine kP H (SR fun _ K9=>Rf Bq rfl ?_);clear H;intro a H;refine bK qG (cs:=[_,_,_,_,_]) H wn rfl rfl (H.hp.eF 0 rfl rfl) rfl ?_;clear H;intro a H;refine s_call JD H wn rfl (JA _ _ H.ro _ _ _ _ _ _ _ _ _ _ (hhd.mono hgm) (by omega)) rfl ?_;clear H;rintro v15 Em a w ⟨tq,d15,l15,rfl,EW⟩ rP H;obtain ⟨a1,a2,a3,rfl⟩:=EW.props.form;obtain ⟨a4,a5,a6,rfl⟩:=EW.dh.form;obtain ⟨a7,a8,a9,rfl⟩:=EW.layers.form;refine kH H (Rf Bq rfl ?_);clear H;intro a H;refine bM qG 0 (vs:=[_,_,_,_,_]) _ H wn rfl rfl rfl rfl rfl rfl rfl rfl ?_;clear H;intro w H;dsimp only [List.set,setRow] at H;refine K9 _ _ ?_;clear K9;refine kP H (SR fun _ aT=>aW wW gW 0 rfl rfl ?_);clear H;intro a H;refine s_call Ua H wn rfl (aiC _ _ H.ro _ _ _ (hfl.mono fun b o h=>rP b o (hgm b o h))) rfl ?_;clear H;rintro v19 Zt a w OV rQ H;obtain ⟨IU,n19,c19,rfl⟩:=OV.form;refine kH H (Rf wW rfl ?_);clear H;intro a H;refine bM gW 0 (vs:=[_]) _ H wn rfl rfl rfl rfl rfl rfl rfl rfl ?_;clear H;intro w H;dsimp only [List.set,setRow] at H;refine aT _ _ ?_;clear aT;refine kP H (SR fun _ bC=>aW oH oQ 0 rfl rfl ?_);clear H;intro a H;refine s_call Uc H wn rfl (TF _ _ H.ro [] _ _ (hrs.mono fun b o h=>rQ b o (rP b o (hgm b o h))) (by decide) (fun x h=>by cases h)) rfl ?_;clear H;rintro v23 I6 a w VH nJ H;obtain ⟨A23,n23,c23,rfl⟩:=VH.form;refine s_call adG H wn rfl (abS _ _ H.ro _ _ _ _ VH) rfl ?_;clear H;rintro v24 I7 a w OW rR H;obtain ⟨QV,n24,c24,rfl⟩:=OW.form;refine kH H (Rf oH rfl ?_);clear H;intro a H;refine bM oQ 0 (vs:=[_]) _ H wn rfl rfl rfl rfl rfl rfl rfl rfl ?_;clear H;intro w H;dsimp only [List.set,setRow] at H;refine bC _ _ ?_;clear bC;refine kP H (SR fun _ bJ=>Rm rfl (Rl fU rfl (ak bJ rfl (SB (SR fun _ bT=>aW jD aH 0 rfl rfl (Rc rfl (Rm rfl (Sp 36 rfl ?_ ?_)))))))) <;> clear H bJ
  ·intro uZ a H
   try have p36:=dT uZ
   exact absurd p36 e3
  intro uZ a H
  try have p36:=dF uZ
  refine kH H (aS uZ rfl (aS uZ rfl (Pf uZ rfl (Rm rfl ?_))));clear H;intro a H;refine FE jD H (wg H rfl rfl rfl) rfl rfl ?_;clear H;intro a H;refine tF aH H (wg H rfl rfl rfl) rfl (H.hp.nL 0 rfl rfl) rfl ?_;clear H;intro a H;refine FC H (wg H rfl rfl rfl) rfl rfl rfl rfl ?_;clear H;intro a H;refine vG H (wg H rfl rfl rfl) rfl rfl ?_;clear H;intro a H;refine Qp H 46 rfl ?_ ?_
  ·intro h46
   try have p46:=dT h46
   refine kH H (YF tZ h46 rfl (YO gG 0 h46 rfl ?_));clear H;intro a H;refine BZ H (wg H rfl rfl h46) rfl rfl rfl ?_;clear H;intro a H;refine Iq H (wg H rfl rfl rfl) rfl h46 rfl rfl ?_;clear H;intro a H;refine kH H (Pf rfl rfl (ak bT rfl (Cd rfl ?_ ?_))) <;> clear H bT
   ·intro h32 a H
    exact absurd h32 (by simpa using e4 p46)
   intro h32 a H
   try have p32:=dF h32
   refine bG (fun _ bS=>?_);obtain ⟨wS,sV⟩:∃ x,x=[vi l[k].kind,vi l[k].code,vi l[k].id,.string l[k].text,.slice a1 a2 a3,vi l[k].head.marks.ins,vi l[k].head.marks.move,.slice a4 a5 a6,.slice a7 a8 a9,.slice IU n19 c19,.slice QV n24 c24]:=⟨_,rfl⟩
   have Aq:aZ I7 l[k].dat wS:=by
    rw [sV];exact aZ.mkItem (EW.mono fun b o h=>rR b o (nJ b o (rQ b o h))) (by rw [e1];exact OV.mono fun b o h=>rR b o (nJ b o h)) (by rw [e2];exact OW)
   have hA1:(l.map ay.dat).take (k+1)=(l.map ay.dat).take k++[l[k].dat]:=by rw [jF (by simpa using hk2)];simp
   have OA:=jH.mono fun b o h=>rR b o (nJ b o (rQ b o (rP b o h)))
   obtain ⟨bo,pk,pp,pd,pl,yX⟩:∃ (bo:Nat) (pk:iG × Int) (pp pd pl:aj),0 < (k:Int)→∃ (h:k - 1 < l.length),vA=some ⟨bo,0,none⟩∧pk=(l[k - 1].head,l[k - 1].kind)∧xs[(k - 1)*11]?=some (vi pk.2)∧jI I7 pk.1 pp pd pl∧∀ j u,[pp,vi pk.1.marks.ins,vi pk.1.marks.move,pd,pl][j]?=some u→xs[(k - 1)*11+4+j]?=some u:=by
    by_cases h0:0 < k
    ·obtain ⟨bo,Oz⟩:=hrw.ptr h0;obtain ⟨cs,hcl,hcx,hcr⟩:=OA.at (k:=k - 1) (r:=l[k - 1].dat) (by rw [tL,au (by omega)];simp [show k - 1 < l.length by omega]);obtain ⟨qA,qn,qc,sA,sn,sc,tA,tn,tc,fA2,fn2,fc2,rA2,rn2,rc2,rfl,hh,-,-⟩:=hcr.item;refine ⟨bo,(l[k - 1].head,l[k - 1].kind),.slice qA qn qc,.slice sA sn sc,.slice tA tn tc,fun _=>⟨by omega,Oz,rfl,hcx 0 _ rfl,hh,fun j u hj=>?_⟩⟩;rw [Nat.add_assoc]
     exact hcx (4+j) u (by
      match j,hj with
      | 0,hj=>exact hj
      | 1,hj=>exact hj
      | 2,hj=>exact hj
      | 3,hj=>exact hj
      | 4,hj=>exact hj)
    exact ⟨0,(⟨[],⟨0,0,[],[]⟩⟩,0),.slice none 0 0,.slice none 0 0,.slice none 0 0,fun h=>by omega⟩
   have VE:l[k].kind=1→0 < (k:Int)→pk.2=1→¬ pk.1=l[k].head:=by
    intro c1 c2 c3 e;obtain ⟨hk1,-,hpk,-⟩:=yX c2;have hjk:=hj (k - 1) (by omega);rw [hpk] at e c3
    simp only [show k - 1+1=k by omega] at hjk
    exact hjk ⟨c3,c1,e⟩
   have c1:l[k].kind=1:=p46
   by_cases c2:0 < (k:Int)
   ·skip
    by_cases c3:pk.2=1
    ·skip;refine dI hmx [[],[0],[0,1],[0,1,2],(ra 0 4),(ra 0 5),(ra 0 6),(ra 0 7),(ra 0 8),(ra 0 8),(ra 0 8++[9]),(ra 0 11),(ra 0 12),(ra 0 13),(ra 0 14),(ra 0 15),(ra 0 16),(ra 0 17),(ra 0 17),(ra 0 17++[18]),(ra 0 20),(ra 0 21),(ra 0 22),(ra 0 17),(ra 0 17++[23]),(ra 0 25),(ra 0 26),(ra 0 27)] [] (by kernel_rfl) [_,vi l[k].kind,_,_,_,_,_,_,.slice (some ⟨bo,0,none⟩) k vc,_,vi ((k - 1:Nat):Int),_,_,vi pk.2,_,_,_,.slice (some ⟨bo,0,none⟩) k vc,_,vi ((k - 1:Nat):Int),_,_,yT pk.1 pp pd pl,_,yT l[k].head (.slice a1 a2 a3) (.slice a4 a5 a6) (.slice a7 a8 a9),.bool false,_,_] H (aG (Z0 rfl (Rf jD rfl)) (Z1 0 53 rfl (Ro aH 0 rfl)) (Z1 1 54 rfl (Rc rfl)) (Z1 2 55 rfl (Rm rfl)) (aG (Z1 3 56 rfl (YM (aC c1) rfl)) (Z2 4 57 3 56 rfl (YC (aC c1) rfl)) (Z2 3 56 5 58 rfl (Pt (aC c1) rfl)) (Z1 6 59 rfl (Rm rfl)) (aG ?_ (Z1 7 60 rfl (YM (aC c2) rfl)) ?_ (Z3 8 61 10 63 7 60 rfl (YI fU dx (aC c2) rfl rfl)) (aG (Z2 11 64 7 60 rfl (YF jD (aC c2) rfl)) ?_ (Z2 13 66 7 60 rfl (YC (aC c2) rfl)) (Z2 7 60 14 67 rfl (Pt (aC c2) rfl)) (aG (Z1 15 68 rfl (Rm rfl)) ?_ (Z1 16 69 rfl (YM (aC c3) rfl)) ?_ (aG (Z3 17 70 19 72 16 69 rfl (YI fU dx (aC c3) rfl rfl)) (Z2 20 73 16 69 rfl (YF Bq (aC c3) rfl)) ?_ (Z1 16 69 rfl (YF Bq (aC c3) rfl)) (aG ?_ ?_ (Z2 16 69 25 78 rfl (Pt (aC c3) rfl)) (Z1 26 79 rfl (Ra rfl)) bZ))))))) ?_
     ·refine dO 7 60 rfl rfl fun _ a w G1 hG HT H fin=>?_;refine kH H (YM (aC c2) rfl ?_);clear H;intro a H;exact fin H iJ (by show _=_;first|rfl|exact aF (fun A=>Value.slice A k vc) (Exists.elim (yX c2) fun _ h=>h.1))
     ·refine dG 9 62 7 60 rfl rfl fun _ a w G1 hG HT H fin=>?_;refine mW _ H (wg H rfl rfl (aC c2)) rfl rfl rfl (by omega) (by omega) rfl ?_;clear H;intro a H;exact fin H iJ (by show _=_;first|rfl|exact aF vi (by omega))
     ·refine dG 12 65 7 60 rfl rfl fun _ a w G1 hG HT H fin=>?_;obtain ⟨_,rfl,_,hkd,_⟩:=yX c2;refine tF aH H (wg H rfl rfl (aC c2)) rfl (hrw.at H.hp (fun x hx=>jZ _ hx) (by rw [kT];exact hkd)) rfl ?_;clear H;intro a H;exact fin H iJ rfl
     ·refine dO 16 69 rfl rfl fun _ a w G1 hG HT H fin=>?_;refine kH H (YM (aC c3) rfl ?_);clear H;intro a H;exact fin H iJ (by show _=_;first|rfl|exact aF (fun A=>Value.slice A k vc) (Exists.elim (yX c2) fun _ h=>h.1))
     ·refine dG 18 71 16 69 rfl rfl fun _ a w G1 hG HT H fin=>?_;refine mW _ H (wg H rfl rfl (aC c3)) rfl rfl rfl (by omega) (by omega) rfl ?_;clear H;intro a H;exact fin H iJ (by show _=_;first|rfl|exact aF vi (by omega))
     ·refine dG 21 74 16 69 rfl rfl fun _ a w G1 hG HT H fin=>?_;obtain ⟨_,rfl,_,_,_,hhx⟩:=yX c2;refine bK qG (cs:=[pp,vi pk.1.marks.ins,vi pk.1.marks.move,pd,pl]) H (wg H rfl rfl (aC c3)) rfl rfl (fun j u hj=>hrw.at H.hp (fun x hx=>jZ _ hx) (by rw [kT];exact hhx j u hj)) rfl ?_;clear H;intro a H;exact fin H iJ rfl
     ·refine dG 23 76 16 69 rfl rfl fun _ a w G1 hG HT H fin=>?_;refine bK qG (cs:=[_,_,_,_,_]) H (wg H rfl rfl (aC c3)) rfl rfl (H.hp.eF 0 rfl rfl) rfl ?_;clear H;intro a H;exact fin H iJ rfl
     ·refine pE 22 75 24 77 16 69 rfl rfl fun _ a w G1 hG HT H fin=>?_;refine s_call adH H (wg H rfl rfl (aC c3)) rfl (aed _ _ H.ro pk.1 l[k].head _ _ _ _ _ _ (by obtain ⟨_,_,_,_,hh,_⟩:=yX c2;exact hh.mono hG) (EW.mono fun b o h=>hG b o (rR b o (nJ b o (rQ b o h))))) rfl ?_;clear H;rintro v78 G78 a w rfl afs H;exact fin H afs (by show _=_;first|rfl|exact aB (jk (VE c1 c2 c3)))
     clear H;intro a w G jS H hv;have H:=H.aQ (hv 27 52 rfl rfl) rfl;clear hv;refine aI ⟨rfl,?_⟩;refine bS _ _ ?_;clear bS;refine lI H rfl rfl ?_;refine kP H (SC (Rm rfl ?_));clear H;intro a H;refine bK dx (cs:=[_,_,_,_,_,_,_,_,_,_,_]) H wn rfl rfl (H.hp.eF 0 rfl rfl) rfl ?_;clear H;intro a H;refine gU fU dx [_,_,_,_,_,_,_,_,_,_,_] [_,_,_,_,_,_,_,_,_,_,_] H wn rfl rfl rfl rfl rfl (by intro i q h;match i,h with|0,h=>exact h|n+1,h=>simp at h) rfl rfl ?_;clear H;intro Mx a w Ov H;refine oN (Li:=[_,_]) (Lo:=Lo) (news:=wS) fU dx rfl rfl H wn rfl rfl hrw (by rw [sV];rfl) (by rw [sV];exact H.hp.eF 0 rfl rfl) Aq.one (by omega) (by omega) rfl ?_;clear H;intro v31 CB a w Dx H;refine kH H (aV K7 rfl (SC (Rd rfl (Rm rfl ?_))));clear H K7;intro a H;refine aI ?_;refine cK ((k+1,v31,xs++wS,CB,G)) (by exact (H.dV (Pl:=[_,_]) (dz:=[]) [] (by decide) rfl).sub ⟨rfl,rfl,rfl,rfl,aD⟩) ?_ ?_
     ·(try dsimp only);exact ⟨by omega,Dx,by rw [hA1];exact (jH.mono (fun b o h=>jS b o (rR b o (nJ b o (rQ b o (rP b o h)))))).snoc (Aq.mono jS) (by rw [sV];rfl),fun b o h=>jS b o (rR b o (nJ b o (rQ b o (rP b o (hgm b o h)))))⟩
     first|omega|(dsimp only;omega)
    skip;refine dI hmx [[],[0],[0,1],[0,1,2],(ra 0 4),(ra 0 5),(ra 0 6),(ra 0 7),(ra 0 8),(ra 0 8),(ra 0 8++[9]),(ra 0 11),(ra 0 12),(ra 0 13),(ra 0 14),(ra 0 15),(ra 0 16),(ra 0 17),(ra 0 17),(ra 0 17++[18]),(ra 0 20),(ra 0 21),(ra 0 22),(ra 0 17),(ra 0 17++[23]),(ra 0 25),(ra 0 26),(ra 0 27)] [] (by kernel_rfl) [_,vi l[k].kind,_,_,_,_,_,_,.slice (some ⟨bo,0,none⟩) k vc,_,vi ((k - 1:Nat):Int),_,_,vi pk.2,_,_,_,undef,undef,undef,undef,undef,undef,undef,undef,undef,_,_] H (aG (Z0 rfl (Rf jD rfl)) (Z1 0 53 rfl (Ro aH 0 rfl)) (Z1 1 54 rfl (Rc rfl)) (Z1 2 55 rfl (Rm rfl)) (aG (Z1 3 56 rfl (YM (aC c1) rfl)) (Z2 4 57 3 56 rfl (YC (aC c1) rfl)) (Z2 3 56 5 58 rfl (Pt (aC c1) rfl)) (Z1 6 59 rfl (Rm rfl)) (aG ?_ (Z1 7 60 rfl (YM (aC c2) rfl)) ?_ (Z3 8 61 10 63 7 60 rfl (YI fU dx (aC c2) rfl rfl)) (aG (Z2 11 64 7 60 rfl (YF jD (aC c2) rfl)) ?_ (Z2 13 66 7 60 rfl (YC (aC c2) rfl)) (Z2 7 60 14 67 rfl (Pt (aC c2) rfl)) (aG (Z1 15 68 rfl (Rm rfl)) (aN (j:=16) (by kernel_rfl) (fun _ _ _ _ _ h=>h) rfl rfl rfl rfl rfl (fun _ _ h=>aO h (aB (aK c3))) rfl (fun _=>rfl)) (aN (j:=16) (by kernel_rfl) (fun _ _ _ _ _ h=>h) rfl rfl rfl rfl rfl (fun _ _ h=>aO h (aB (aK c3))) rfl (fun _=>rfl)) (aN (j:=16) (by kernel_rfl) (fun _ _ _ _ _ h=>h) rfl rfl rfl rfl rfl (fun _ _ h=>aO h (aB (aK c3))) rfl (fun _=>rfl)) (aG (aN (j:=16) (by kernel_rfl) (fun _ _ _ _ _ h=>h) rfl rfl rfl rfl rfl (fun _ _ h=>aO h (aB (aK c3))) rfl (fun _=>rfl)) (aN (j:=16) (by kernel_rfl) (fun _ _ _ _ _ h=>h) rfl rfl rfl rfl rfl (fun _ _ h=>aO h (aB (aK c3))) rfl (fun _=>rfl)) (aN (j:=16) (by kernel_rfl) (fun _ _ _ _ _ h=>h) rfl rfl rfl rfl rfl (fun _ _ h=>aO h (aB (aK c3))) rfl (fun _=>rfl)) (aN (j:=16) (by kernel_rfl) (fun _ _ _ _ _ h=>h) rfl rfl rfl rfl rfl (fun _ _ h=>aO h (aB (aK c3))) rfl (fun _=>rfl)) (aG (aN (j:=16) (by kernel_rfl) (fun _ _ _ _ _ h=>h) rfl rfl rfl rfl rfl (fun _ _ h=>aO h (aB (aK c3))) rfl (fun _=>rfl)) (aN (j:=16) (by kernel_rfl) (fun _ _ _ _ _ h=>h) rfl rfl rfl rfl rfl (fun _ _ h=>aO h (aB (aK c3))) rfl (fun _=>rfl)) (Z2 16 69 25 78 rfl (Pf (aK c3) rfl)) (Z1 26 79 rfl (Ra rfl)) bZ))))))) ?_
    ·refine dO 7 60 rfl rfl fun _ a w G1 hG HT H fin=>?_;refine kH H (YM (aC c2) rfl ?_);clear H;intro a H;exact fin H iJ (by show _=_;first|rfl|exact aF (fun A=>Value.slice A k vc) (Exists.elim (yX c2) fun _ h=>h.1))
    ·refine dG 9 62 7 60 rfl rfl fun _ a w G1 hG HT H fin=>?_;refine mW _ H (wg H rfl rfl (aC c2)) rfl rfl rfl (by omega) (by omega) rfl ?_;clear H;intro a H;exact fin H iJ (by show _=_;first|rfl|exact aF vi (by omega))
    ·refine dG 12 65 7 60 rfl rfl fun _ a w G1 hG HT H fin=>?_;obtain ⟨_,rfl,_,hkd,_⟩:=yX c2;refine tF aH H (wg H rfl rfl (aC c2)) rfl (hrw.at H.hp (fun x hx=>jZ _ hx) (by rw [kT];exact hkd)) rfl ?_;clear H;intro a H;exact fin H iJ rfl
    clear H;intro a w G jS H hv;have H:=H.aQ (hv 27 52 rfl rfl) rfl;clear hv;refine aI ⟨rfl,?_⟩;refine bS _ _ ?_;clear bS;refine lI H rfl rfl ?_;refine kP H (SC (Rm rfl ?_));clear H;intro a H;refine bK dx (cs:=[_,_,_,_,_,_,_,_,_,_,_]) H wn rfl rfl (H.hp.eF 0 rfl rfl) rfl ?_;clear H;intro a H;refine gU fU dx [_,_,_,_,_,_,_,_,_,_,_] [_,_,_,_,_,_,_,_,_,_,_] H wn rfl rfl rfl rfl rfl (by intro i q h;match i,h with|0,h=>exact h|n+1,h=>simp at h) rfl rfl ?_;clear H;intro Mx a w Ov H;refine oN (Li:=[_,_]) (Lo:=Lo) (news:=wS) fU dx rfl rfl H wn rfl rfl hrw (by rw [sV];rfl) (by rw [sV];exact H.hp.eF 0 rfl rfl) Aq.one (by omega) (by omega) rfl ?_;clear H;intro v31 CB a w Dx H;refine kH H (aV K7 rfl (SC (Rd rfl (Rm rfl ?_))));clear H K7;intro a H;refine aI ?_;refine cK ((k+1,v31,xs++wS,CB,G)) (by exact (H.dV (Pl:=[_,_]) (dz:=[]) [] (by decide) rfl).sub ⟨rfl,rfl,rfl,rfl,aD⟩) ?_ ?_
    ·(try dsimp only);exact ⟨by omega,Dx,by rw [hA1];exact (jH.mono (fun b o h=>jS b o (rR b o (nJ b o (rQ b o (rP b o h)))))).snoc (Aq.mono jS) (by rw [sV];rfl),fun b o h=>jS b o (rR b o (nJ b o (rQ b o (rP b o (hgm b o h)))))⟩
    first|omega|(dsimp only;omega)
   skip;refine dI hmx [[],[0],[0,1],[0,1,2],(ra 0 4),(ra 0 5),(ra 0 6),(ra 0 7),(ra 0 8),(ra 0 8),(ra 0 8++[9]),(ra 0 11),(ra 0 12),(ra 0 13),(ra 0 14),(ra 0 15),(ra 0 16),(ra 0 17),(ra 0 17),(ra 0 17++[18]),(ra 0 20),(ra 0 21),(ra 0 22),(ra 0 17),(ra 0 17++[23]),(ra 0 25),(ra 0 26),(ra 0 27)] [] (by kernel_rfl) [_,vi l[k].kind,_,_,_,_,_,_,undef,undef,undef,undef,undef,undef,undef,_,_,undef,undef,undef,undef,undef,undef,undef,undef,undef,_,_] H (aG (Z0 rfl (Rf jD rfl)) (Z1 0 53 rfl (Ro aH 0 rfl)) (Z1 1 54 rfl (Rc rfl)) (Z1 2 55 rfl (Rm rfl)) (aG (Z1 3 56 rfl (YM (aC c1) rfl)) (Z2 4 57 3 56 rfl (YC (aC c1) rfl)) (Z2 3 56 5 58 rfl (Pt (aC c1) rfl)) (Z1 6 59 rfl (Rm rfl)) (aG (aN (j:=7) (by kernel_rfl) (fun _ _ _ _ _ h=>h) rfl rfl rfl rfl rfl (fun _ _ h=>aO h (aB (aK c2))) rfl (fun _=>rfl)) (aN (j:=7) (by kernel_rfl) (fun _ _ _ _ _ h=>h) rfl rfl rfl rfl rfl (fun _ _ h=>aO h (aB (aK c2))) rfl (fun _=>rfl)) (aN (j:=7) (by kernel_rfl) (fun _ _ _ _ _ h=>h) rfl rfl rfl rfl rfl (fun _ _ h=>aO h (aB (aK c2))) rfl (fun _=>rfl)) (aN (j:=7) (by kernel_rfl) (fun _ _ _ _ _ h=>h) rfl rfl rfl rfl rfl (fun _ _ h=>aO h (aB (aK c2))) rfl (fun _=>rfl)) (aG (aN (j:=7) (by kernel_rfl) (fun _ _ _ _ _ h=>h) rfl rfl rfl rfl rfl (fun _ _ h=>aO h (aB (aK c2))) rfl (fun _=>rfl)) (aN (j:=7) (by kernel_rfl) (fun _ _ _ _ _ h=>h) rfl rfl rfl rfl rfl (fun _ _ h=>aO h (aB (aK c2))) rfl (fun _=>rfl)) (aN (j:=7) (by kernel_rfl) (fun _ _ _ _ _ h=>h) rfl rfl rfl rfl rfl (fun _ _ h=>aO h (aB (aK c2))) rfl (fun _=>rfl)) (Z2 7 60 14 67 rfl (Pf (aK c2) rfl)) (aG (Z1 15 68 rfl (Rm rfl)) (aN (j:=16) (by kernel_rfl) (fun _ _ _ _ _ h=>h) rfl rfl rfl rfl rfl (fun _ _ h=>aO h (aB rfl)) rfl (fun _=>rfl)) (aN (j:=16) (by kernel_rfl) (fun _ _ _ _ _ h=>h) rfl rfl rfl rfl rfl (fun _ _ h=>aO h (aB rfl)) rfl (fun _=>rfl)) (aN (j:=16) (by kernel_rfl) (fun _ _ _ _ _ h=>h) rfl rfl rfl rfl rfl (fun _ _ h=>aO h (aB rfl)) rfl (fun _=>rfl)) (aG (aN (j:=16) (by kernel_rfl) (fun _ _ _ _ _ h=>h) rfl rfl rfl rfl rfl (fun _ _ h=>aO h (aB rfl)) rfl (fun _=>rfl)) (aN (j:=16) (by kernel_rfl) (fun _ _ _ _ _ h=>h) rfl rfl rfl rfl rfl (fun _ _ h=>aO h (aB rfl)) rfl (fun _=>rfl)) (aN (j:=16) (by kernel_rfl) (fun _ _ _ _ _ h=>h) rfl rfl rfl rfl rfl (fun _ _ h=>aO h (aB rfl)) rfl (fun _=>rfl)) (aN (j:=16) (by kernel_rfl) (fun _ _ _ _ _ h=>h) rfl rfl rfl rfl rfl (fun _ _ h=>aO h (aB rfl)) rfl (fun _=>rfl)) (aG (aN (j:=16) (by kernel_rfl) (fun _ _ _ _ _ h=>h) rfl rfl rfl rfl rfl (fun _ _ h=>aO h (aB rfl)) rfl (fun _=>rfl)) (aN (j:=16) (by kernel_rfl) (fun _ _ _ _ _ h=>h) rfl rfl rfl rfl rfl (fun _ _ h=>aO h (aB rfl)) rfl (fun _=>rfl)) (Z2 16 69 25 78 rfl (Pf rfl rfl)) (Z1 26 79 rfl (Ra rfl)) bZ))))))) ?_
   clear H;intro a w G jS H hv;have H:=H.aQ (hv 27 52 rfl rfl) rfl;clear hv;refine aI ⟨rfl,?_⟩;refine bS _ _ ?_;clear bS;refine lI H rfl rfl ?_;refine kP H (SC (Rm rfl ?_));clear H;intro a H;refine bK dx (cs:=[_,_,_,_,_,_,_,_,_,_,_]) H wn rfl rfl (H.hp.eF 0 rfl rfl) rfl ?_;clear H;intro a H;refine gU fU dx [_,_,_,_,_,_,_,_,_,_,_] [_,_,_,_,_,_,_,_,_,_,_] H wn rfl rfl rfl rfl rfl (by intro i q h;match i,h with|0,h=>exact h|n+1,h=>simp at h) rfl rfl ?_;clear H;intro Mx a w Ov H;refine oN (Li:=[_,_]) (Lo:=Lo) (news:=wS) fU dx rfl rfl H wn rfl rfl hrw (by rw [sV];rfl) (by rw [sV];exact H.hp.eF 0 rfl rfl) Aq.one (by omega) (by omega) rfl ?_;clear H;intro v31 CB a w Dx H;refine kH H (aV K7 rfl (SC (Rd rfl (Rm rfl ?_))));clear H K7;intro a H;refine aI ?_;refine cK ((k+1,v31,xs++wS,CB,G)) (by exact (H.dV (Pl:=[_,_]) (dz:=[]) [] (by decide) rfl).sub ⟨rfl,rfl,rfl,rfl,aD⟩) ?_ ?_
   ·(try dsimp only);exact ⟨by omega,Dx,by rw [hA1];exact (jH.mono (fun b o h=>jS b o (rR b o (nJ b o (rQ b o (rP b o h)))))).snoc (Aq.mono jS) (by rw [sV];rfl),fun b o h=>jS b o (rR b o (nJ b o (rQ b o (rP b o (hgm b o h)))))⟩
   first|omega|(dsimp only;omega)
  intro h46
  try have p46:=dF h46
  refine kH H (aY h46 rfl ?_);clear H;intro a H;refine KX H (wg H rfl rfl rfl) rfl h46 rfl rfl ?_;clear H;intro a H;refine kH H (Pf rfl rfl (ak bT rfl (Cf rfl rfl (SQ fun _ dD=>?_))));clear H bT;intro a H;obtain ⟨wS,sV⟩:∃ x,x=[vi l[k].kind,vi l[k].code,vi l[k].id,.string l[k].text,.slice a1 a2 a3,vi l[k].head.marks.ins,vi l[k].head.marks.move,.slice a4 a5 a6,.slice a7 a8 a9,.slice IU n19 c19,.slice QV n24 c24]:=⟨_,rfl⟩
  have Aq:aZ I7 l[k].dat wS:=by
   rw [sV];exact aZ.mkItem (EW.mono fun b o h=>rR b o (nJ b o (rQ b o h))) (by rw [e1];exact OV.mono fun b o h=>rR b o (nJ b o h)) (by rw [e2];exact OW)
  have hA1:(l.map ay.dat).take (k+1)=(l.map ay.dat).take k++[l[k].dat]:=by rw [jF (by simpa using hk2)];simp
  have OA:=jH.mono fun b o h=>rR b o (nJ b o (rQ b o (rP b o h)))
  obtain ⟨bo,pk,pp,pd,pl,yX⟩:∃ (bo:Nat) (pk:iG × Int) (pp pd pl:aj),0 < (k:Int)→∃ (h:k - 1 < l.length),vA=some ⟨bo,0,none⟩∧pk=(l[k - 1].head,l[k - 1].kind)∧xs[(k - 1)*11]?=some (vi pk.2)∧jI I7 pk.1 pp pd pl∧∀ j u,[pp,vi pk.1.marks.ins,vi pk.1.marks.move,pd,pl][j]?=some u→xs[(k - 1)*11+4+j]?=some u:=by
   by_cases h0:0 < k
   ·obtain ⟨bo,Oz⟩:=hrw.ptr h0;obtain ⟨cs,hcl,hcx,hcr⟩:=OA.at (k:=k - 1) (r:=l[k - 1].dat) (by rw [tL,au (by omega)];simp [show k - 1 < l.length by omega]);obtain ⟨qA,qn,qc,sA,sn,sc,tA,tn,tc,fA2,fn2,fc2,rA2,rn2,rc2,rfl,hh,-,-⟩:=hcr.item;refine ⟨bo,(l[k - 1].head,l[k - 1].kind),.slice qA qn qc,.slice sA sn sc,.slice tA tn tc,fun _=>⟨by omega,Oz,rfl,hcx 0 _ rfl,hh,fun j u hj=>?_⟩⟩;rw [Nat.add_assoc]
    exact hcx (4+j) u (by
     match j,hj with
     | 0,hj=>exact hj
     | 1,hj=>exact hj
     | 2,hj=>exact hj
     | 3,hj=>exact hj
     | 4,hj=>exact hj)
   exact ⟨0,(⟨[],⟨0,0,[],[]⟩⟩,0),.slice none 0 0,.slice none 0 0,.slice none 0 0,fun h=>by omega⟩
  have VE:l[k].kind=1→0 < (k:Int)→pk.2=1→¬ pk.1=l[k].head:=by
   intro c1 c2 c3 e;obtain ⟨hk1,-,hpk,-⟩:=yX c2;have hjk:=hj (k - 1) (by omega);rw [hpk] at e c3
   simp only [show k - 1+1=k by omega] at hjk
   exact hjk ⟨c3,c1,e⟩
  have c1:¬ (l[k].kind=1):=p46;refine dI hmx [[],[0],[0,1],[0,1,2],(ra 0 4),(ra 0 5),(ra 0 6),(ra 0 7),(ra 0 8),(ra 0 8),(ra 0 8++[9]),(ra 0 11),(ra 0 12),(ra 0 13),(ra 0 14),(ra 0 15),(ra 0 16),(ra 0 17),(ra 0 17),(ra 0 17++[18]),(ra 0 20),(ra 0 21),(ra 0 22),(ra 0 17),(ra 0 17++[23]),(ra 0 25),(ra 0 26),(ra 0 27)] [] (by kernel_rfl) [_,vi l[k].kind,_,_,undef,undef,_,_,undef,undef,undef,undef,undef,undef,undef,_,_,undef,undef,undef,undef,undef,undef,undef,undef,undef,_,_] H (aG (Z0 rfl (Rf jD rfl)) (Z1 0 53 rfl (Ro aH 0 rfl)) (Z1 1 54 rfl (Rc rfl)) (Z1 2 55 rfl (Rm rfl)) (aG (aN (j:=3) (by kernel_rfl) (fun _ _ _ _ _ h=>h) rfl rfl rfl rfl rfl (fun _ _ h=>aO h (aB (aK c1))) rfl (fun _=>rfl)) (aN (j:=3) (by kernel_rfl) (fun _ _ _ _ _ h=>h) rfl rfl rfl rfl rfl (fun _ _ h=>aO h (aB (aK c1))) rfl (fun _=>rfl)) (Z2 3 56 5 58 rfl (Pf (aK c1) rfl)) (Z1 6 59 rfl (Rm rfl)) (aG (aN (j:=7) (by kernel_rfl) (fun _ _ _ _ _ h=>h) rfl rfl rfl rfl rfl (fun _ _ h=>aO h (aB rfl)) rfl (fun _=>rfl)) (aN (j:=7) (by kernel_rfl) (fun _ _ _ _ _ h=>h) rfl rfl rfl rfl rfl (fun _ _ h=>aO h (aB rfl)) rfl (fun _=>rfl)) (aN (j:=7) (by kernel_rfl) (fun _ _ _ _ _ h=>h) rfl rfl rfl rfl rfl (fun _ _ h=>aO h (aB rfl)) rfl (fun _=>rfl)) (aN (j:=7) (by kernel_rfl) (fun _ _ _ _ _ h=>h) rfl rfl rfl rfl rfl (fun _ _ h=>aO h (aB rfl)) rfl (fun _=>rfl)) (aG (aN (j:=7) (by kernel_rfl) (fun _ _ _ _ _ h=>h) rfl rfl rfl rfl rfl (fun _ _ h=>aO h (aB rfl)) rfl (fun _=>rfl)) (aN (j:=7) (by kernel_rfl) (fun _ _ _ _ _ h=>h) rfl rfl rfl rfl rfl (fun _ _ h=>aO h (aB rfl)) rfl (fun _=>rfl)) (aN (j:=7) (by kernel_rfl) (fun _ _ _ _ _ h=>h) rfl rfl rfl rfl rfl (fun _ _ h=>aO h (aB rfl)) rfl (fun _=>rfl)) (Z2 7 60 14 67 rfl (Pf rfl rfl)) (aG (Z1 15 68 rfl (Rm rfl)) (aN (j:=16) (by kernel_rfl) (fun _ _ _ _ _ h=>h) rfl rfl rfl rfl rfl (fun _ _ h=>aO h (aB rfl)) rfl (fun _=>rfl)) (aN (j:=16) (by kernel_rfl) (fun _ _ _ _ _ h=>h) rfl rfl rfl rfl rfl (fun _ _ h=>aO h (aB rfl)) rfl (fun _=>rfl)) (aN (j:=16) (by kernel_rfl) (fun _ _ _ _ _ h=>h) rfl rfl rfl rfl rfl (fun _ _ h=>aO h (aB rfl)) rfl (fun _=>rfl)) (aG (aN (j:=16) (by kernel_rfl) (fun _ _ _ _ _ h=>h) rfl rfl rfl rfl rfl (fun _ _ h=>aO h (aB rfl)) rfl (fun _=>rfl)) (aN (j:=16) (by kernel_rfl) (fun _ _ _ _ _ h=>h) rfl rfl rfl rfl rfl (fun _ _ h=>aO h (aB rfl)) rfl (fun _=>rfl)) (aN (j:=16) (by kernel_rfl) (fun _ _ _ _ _ h=>h) rfl rfl rfl rfl rfl (fun _ _ h=>aO h (aB rfl)) rfl (fun _=>rfl)) (aN (j:=16) (by kernel_rfl) (fun _ _ _ _ _ h=>h) rfl rfl rfl rfl rfl (fun _ _ h=>aO h (aB rfl)) rfl (fun _=>rfl)) (aG (aN (j:=16) (by kernel_rfl) (fun _ _ _ _ _ h=>h) rfl rfl rfl rfl rfl (fun _ _ h=>aO h (aB rfl)) rfl (fun _=>rfl)) (aN (j:=16) (by kernel_rfl) (fun _ _ _ _ _ h=>h) rfl rfl rfl rfl rfl (fun _ _ h=>aO h (aB rfl)) rfl (fun _=>rfl)) (Z2 16 69 25 78 rfl (Pf rfl rfl)) (Z1 26 79 rfl (Ra rfl)) bZ))))))) ?_
  clear H;intro a w G jS H hv;have H:=H.aQ (hv 27 52 rfl rfl) rfl;clear hv;refine aI ⟨rfl,?_⟩;refine dD _ _ ?_;clear dD;refine lI H rfl rfl ?_;refine kP H (SC (Rm rfl ?_));clear H;intro a H;refine bK dx (cs:=[_,_,_,_,_,_,_,_,_,_,_]) H wn rfl rfl (H.hp.eF 0 rfl rfl) rfl ?_;clear H;intro a H;refine gU fU dx [_,_,_,_,_,_,_,_,_,_,_] [_,_,_,_,_,_,_,_,_,_,_] H wn rfl rfl rfl rfl rfl (by intro i q h;match i,h with|0,h=>exact h|n+1,h=>simp at h) rfl rfl ?_;clear H;intro Mx a w Ov H;refine oN (Li:=[_,_]) (Lo:=Lo) (news:=wS) fU dx rfl rfl H wn rfl rfl hrw (by rw [sV];rfl) (by rw [sV];exact H.hp.eF 0 rfl rfl) Aq.one (by omega) (by omega) rfl ?_;clear H;intro v31 CB a w Dx H;refine kH H (aV K7 rfl (SC (Rd rfl (Rm rfl ?_))));clear H K7;intro a H;refine aI ?_;refine cK ((k+1,v31,xs++wS,CB,G)) (by exact (H.dV (Pl:=[_,_]) (dz:=[]) [] (by decide) rfl).sub ⟨rfl,rfl,rfl,rfl,aD⟩) ?_ ?_
  ·(try dsimp only);exact ⟨by omega,Dx,by rw [hA1];exact (jH.mono (fun b o h=>jS b o (rR b o (nJ b o (rQ b o (rP b o h)))))).snoc (Aq.mono jS) (by rw [sV];rfl),fun b o h=>jS b o (rR b o (nJ b o (rQ b o (rP b o (hgm b o h)))))⟩
  first|omega|(dsimp only;omega)
 intro h10 a H
 try have lN:=dF h10
 refine dQ ?_;refine K3 _ _ ?_;clear K3;refine bG (fun _ dM=>?_);obtain ⟨G',hm,hrep,H⟩:=H.uh (Li:=[]) hrw (rows:=l.map ay.dat) (by simp;omega) (by rw [jQ (by simp;omega)] at jH;exact jH);exact kP H (SC (Rm rfl (aV dM rfl (LR results44 rfl fun H=>H.rt hrep))))
end
section
open Go.RowKit
end
section
open Go.RowKit
end
section
open Go.RowKit
end
section
open Go.RowKit
def oo (k:Int):List Dat:=[li k]
theorem ahu (G:GH) (k:Int):aZ G (oo k) [vi k]:=by
 simp only [oo,aZ]
 exact ⟨_,_,rfl,by simp [av,Value.oneCell'],rfl⟩
theorem aht {G:GH} {k:Int} {cs:List aj} (h:aZ G (oo k) cs):cs=[vi k]:=by
 simp only [oo,aZ,av] at h
 obtain ⟨v1,_,rfl,⟨rfl,-⟩,rfl⟩:=h
 rfl
theorem alm (l m:List ay):bq (l++m)=bq l+bq m:=by simp [bq,QC]
end
section
open Go.RowKit
end
section
open Go.RowKit
end
section
open Go.RowKit
theorem adr:∀ args w,(callFunc 42 args).run prog w=.ok (.enter 42 args) w:=enters func42 rfl (by kernel_rfl)
theorem T9:∀ args w,(callFunc 43 args).run prog w=.ok (.enter 43 args) w:=enters func43 rfl (by kernel_rfl)
def AB (l:List ay) (fr to:Int):Int:=if xR l=0 then (if fr < 0∨to < fr∨vC l < to then 2 else 0) else xR l
theorem abn (G:GH) (w0:World) (hG:Hold G w0) (l:List ay) (fr to:Int) (v:aj) (hv:av G (.sl 11 (l.map ay.dat)) v) (hz:bq l≤4294967296) :
  Calls prog 42 #[v,vi fr,vi to] w0 (bF w0 G fun u G'=>u=vi (AB l fr to)):=by
 refine eN [(0,_),(1,_),(2,_)] func42 rfl ntmps42 rfl rfl hG ?_;intro a H;refine kP H (SR fun _ K1=>ak K1 rfl (SR fun _ K2=>Rm rfl ?_));clear H K1;intro a H;refine s_call M9 H wn rfl (Pz _ _ H.ro l v hv hz) rfl ?_;clear H;rintro v11 _ a w ⟨rfl,rfl⟩ - H;refine kH H (Rm rfl ?_);clear H;intro a H;(iterate 2 refine jN H wn rfl rfl rfl ?_;clear H;intro a H);refine kH H (Ra rfl (ak K2 rfl (SQ fun _ K3=>SB (SR fun _ K4=>Rm rfl (Rc rfl (ak K4 rfl (Cd rfl ?_ ?_))))))) <;> clear H K2 K4
 ·intro dN a H
  try have mH:=dT dN
  exact kP H (SR fun _ K5=>Rm rfl (ak K5 rfl (LR results42 rfl fun H=>H.rt (by rw [AB,ah mH]))))
 intro dN a H
 try have mH:=dF dN
 refine kP H (SR fun _ K6=>Rm rfl (Rc rfl (Rm rfl (Sp 21 rfl ?_ ?_)))) <;> clear H
 ·intro h21 a H
  try have qb:=dT h21
  refine kH H (aY h21 rfl (Pt h21 rfl (Rm rfl (aY rfl rfl (Pt rfl rfl (ak K6 rfl (Ct rfl rfl (SR fun _ K7=>ak K7 rfl ?_))))))));clear H K6 K7;intro a H;refine lr H results42 rfl ?_
  have h0:xR l=0:=by omega
  refine H.rt ?_;rw [AB,au h0]
  first
   | (rw [au (by omega)];done)
   | (rw [ah (by omega)];done)
 intro h21 a H
 try have qb:=dF h21
 refine kH H (YM h21 rfl (YM h21 rfl (YC h21 rfl (Pf h21 rfl (Rm rfl (Sp 26 rfl ?_ ?_)))))) <;> clear H
 ·intro gP a H
  try have p26:=dT gP
  refine kH H (aY gP rfl (Pt gP rfl (ak K6 rfl (Ct rfl rfl (SR fun _ K8=>ak K8 rfl ?_)))));clear H K6 K8;intro a H;refine lr H results42 rfl ?_
  have h0:xR l=0:=by omega
  refine H.rt ?_;rw [AB,au h0]
  first
   | (rw [au (by omega)];done)
   | (rw [ah (by omega)];done)
 intro gP a H
 try have p26:=dF gP
 refine kH H (YM gP rfl (YM gP rfl (YC gP rfl (Pf gP rfl (ak K6 rfl (Cd rfl ?_ ?_)))))) <;> clear H K6
 ·intro h18 a H
  try have rV:=dT h18
  refine kP H (SR fun _ K9=>ak K9 rfl ?_);clear H K9;intro a H;refine lr H results42 rfl ?_
  have h0:xR l=0:=by omega
  refine H.rt ?_;rw [AB,au h0]
  first
   | (rw [au (by omega)];done)
   | (rw [ah (by omega)];done)
 intro h18 a H
 try have rV:=dF h18
 refine kP H (Kc K3 (SR fun _ aT=>ak aT rfl ?_));clear H K3 aT;intro a H;refine lr H results42 rfl ?_
 have h0:xR l=0:=by omega
 refine H.rt ?_;rw [AB,au h0]
 first
  | (rw [au (by omega)];done)
  | (rw [ah (by omega)];done)
def Sb (m:List ay):Prop:=Gc m∧∀ x∈m,R9 x
theorem IL:∀ {m l:List ay},m.Sublist l→bq m≤bq l
 | _,_,.slnil=>bV _
 | _,_,.cons a h=>by have:=IL h;simp only [bq,eT,eX] at *;omega
 | _,_,.cons_cons a h=>by have:=IL h;simp only [bq,eT,eX] at *;omega
theorem PW:∀ (l:List ay) (o:Nat),(gJ o l).map (·.2)=l
 | [],_=>rfl
 | x :: l,o=>by simp [gJ,PW l]
theorem ahQ (t:Int) (l:List ay):(vB t l).Sublist l:=by
 have h:(lA t (gJ 0 l)).Sublist ((gJ 0 l).map (·.2)):=List.Sublist.map _ List.filter_sublist
 rwa [PW] at h
theorem ajr (t:Int) (l:List ay):(BU t l).Sublist l:=by
 have h:(rA t (gJ 0 l)).Sublist ((gJ 0 l).map (·.2)):=List.Sublist.map _ List.filter_sublist
 rwa [PW] at h
def IX (t:Int) (l:List ay):Prop:=∀ a∈gJ 0 l,wB t a=true∨t≤a.1
theorem akk (G:GH) (w0:World) (hG:Hold G w0) (l:List ay) (fr to:Int) (v:aj) (hv:av G (.sl 11 (l.map ay.dat)) v) (hz:bq l≤1073741824) (hr:AB l fr to=0)
  (h1:IX to l) (h2:IX fr (vB to l)) (hp:Sb (BU fr (vB to l))) :
  Calls prog 19 #[v,vi fr,vi to] w0 (bF w0 G fun u G'=>∃ x,u=.tuple #[x,vi 0]∧av G' (.sl 11 ((BU fr (vB to l)).map ay.dat)) x):=by
 have z1:=IL (ahQ to l);have z2:=IL (ajr fr (vB to l));refine eN [(0,_),(1,_),(2,_)] func19 rfl ntmps19 rfl rfl hG ?_;intro a H;refine kP H (SR fun _ K1=>Ra rfl (ak K1 rfl (SQ fun _ K2=>SR fun _ K3=>Rm rfl (Rm rfl (Rm rfl ?_)))));clear H K1;intro a H;refine s_call adr H wn rfl (abn _ _ H.ro l fr to v hv (by omega)) rfl ?_;clear H;rintro v16 oW a w rfl kV H;rw [hr] at H;refine kH H (ak K3 rfl (SR fun _ K4=>Rm rfl (Rc rfl (Kz K4 (Cd rfl ?_ ?_))))) <;> clear H K3 K4
 ·intro h18 a H
  exact absurd h18 (by decide)
 intro h18 a H
 try have rV:=dF h18
 refine kP H (Kc K2 (SR fun _ K5=>Rm rfl (Rm rfl ?_)));clear H K2;intro a H;refine s_call T9 H wn rfl (TB _ _ H.ro l to v (hv.mono kV) hz h1) rfl ?_;clear H;rintro v23 I6 a w ⟨x,y,rfl,hx,hy⟩ nJ H;refine kH H (Rm rfl ?_);clear H;intro a H;(iterate 2 refine jN H wn rfl rfl rfl ?_;clear H;intro a H);refine kH H (Ra rfl (ak K5 rfl (SR fun _ K6=>Rm rfl (Rm rfl ?_))));clear H K5;intro a H;refine s_call T9 H wn rfl (TB _ _ H.ro (vB to l) fr x hx (by omega) h2) rfl ?_;clear H;rintro v29 Q7 a w ⟨x2,y2,rfl,hx2,hy2⟩ alZ H;refine kH H (Rm rfl ?_);clear H;intro a H;(iterate 2 refine jN H wn rfl rfl rfl ?_;clear H;intro a H);refine kH H (Ra rfl (ak K6 rfl (SR fun _ K7=>Rm rfl ?_)));clear H K6;intro a H;refine s_call Ua H wn rfl (aiD _ _ H.ro _ y2 hy2 hp.1 hp.2 (by omega)) rfl ?_;clear H;rintro v33 Zx a w VI ama H;obtain ⟨A33,n33,c33,rfl⟩:=VI.form;refine kH H (Ra rfl (ak K7 rfl ?_));clear H K7;intro a H;refine cB ?_;refine (eB H results19 (.cons (aR H rfl) (.cons (aR H rfl) .nil)) ?_).1;exact H.rt ⟨_,rfl,VI⟩
end
section
open Go.RowKit
abbrev hd0:iG:=⟨[],⟨0,0,[],[]⟩⟩
theorem J4 {G:GH}:jI G hd0 (.slice none 0 0) (.slice none 0 0) (.slice none 0 0):=⟨av.jo rfl (by decide),av.jo rfl (by decide),av.jo rfl (by decide)⟩
end
section
open Go.RowKit
theorem aks:qm prog 63 [(0,1),(1,1),(2,1),(3,1),(4,5),(9,1),(10,1)] [.int .i64 0,.int .i64 0,.int .i64 0,.string ⟨#[]⟩,.slice none 0 0,.int .i64 0,.int .i64 0,.slice none 0 0,.slice none 0 0,.slice none 0 0,.slice none 0 0]:=⟨by kernel_rfl,by kernel_rfl⟩
theorem akr:qm prog 38 [(0,1),(1,5),(6,1),(7,4)] [.slice none 0 0,.slice none 0 0,.int .i64 0,.int .i64 0,.slice none 0 0,.slice none 0 0,.slice none 0 0,.slice none 0 0,.slice none 0 0,.slice none 0 0,.slice none 0 0]:=⟨by kernel_rfl,by kernel_rfl⟩
theorem adv:∀ args w,(callFunc 48 args).run prog w=.ok (.enter 48 args) w:=enters func48 rfl (by kernel_rfl)
theorem adl:∀ args w,(callFunc 26 args).run prog w=.ok (.enter 26 args) w:=enters func26 rfl (by kernel_rfl)
theorem TR:∀ args w,(callFunc 17 args).run prog w=.ok (.enter 17 args) w:=enters func17 rfl (by kernel_rfl)
theorem adj:∀ args w,(callFunc 19 args).run prog w=.ok (.enter 19 args) w:=enters func19 rfl (by kernel_rfl)
theorem akI:Ty prog 121 2 32 [.pointer none,.slice none 0 0] true:=⟨by kernel_rfl,by kernel_rfl⟩
theorem TU:∀ args w,(callFunc 31 args).run prog w=.ok (.enter 31 args) w:=enters func31 rfl (by kernel_rfl)
theorem adn:∀ args w,(callFunc 27 args).run prog w=.ok (.enter 27 args) w:=enters func27 rfl (by kernel_rfl)
theorem QG:qg ⟨#[120,121,122]⟩=true∧qz ⟨#[120,121,122]⟩ 0=3:=by
 have d0:mq ⟨#[120,121,122]⟩ 0=(120,1,true):=by decide
 have d1:mq ⟨#[120,121,122]⟩ 1=(121,1,true):=by decide
 have d2:mq ⟨#[120,121,122]⟩ 2=(122,1,true):=by decide
 have e3:nI ⟨#[120,121,122]⟩ 3=-1:=by rw [nI,dif_neg (by decide)]
 have e2:nI ⟨#[120,121,122]⟩ 2=-1:=by rw [nI,dif_pos (by decide),dif_pos (by rw [d2]),d2];exact e3
 have e1:nI ⟨#[120,121,122]⟩ 1=-1:=by rw [nI,dif_pos (by decide),dif_pos (by rw [d1]),d1];exact e2
 have e0:nI ⟨#[120,121,122]⟩ 0=-1:=by rw [nI,dif_pos (by decide),dif_pos (by rw [d0]),d0];exact e1
 have c3:qz ⟨#[120,121,122]⟩ 3=0:=by rw [qz,ah (by decide)]
 have c2:qz ⟨#[120,121,122]⟩ 2=1:=by rw [qz,au (by decide),c3];decide
 have c1:qz ⟨#[120,121,122]⟩ 1=2:=by rw [qz,au (by decide),c2];decide
 have c0:qz ⟨#[120,121,122]⟩ 0=3:=by rw [qz,au (by decide),c1];decide
 exact ⟨by unfold qg;rw [e0];decide,c0⟩
theorem akH:qg ⟨#[97]⟩=true:=by
 have d0:mq ⟨#[97]⟩ 0=(97,1,true):=by decide
 have e1:nI ⟨#[97]⟩ 1=-1:=by rw [nI,dif_neg (by decide)]
 have e0:nI ⟨#[97]⟩ 0=-1:=by rw [nI,dif_pos (by decide),dif_pos (by rw [d0]),d0];exact e1
 unfold qg;rw [e0];decide
theorem Yu:qg ⟨#[]⟩=true:=by
 have e0:nI ⟨#[]⟩ 0=-1:=by rw [nI,dif_neg (by decide)]
 unfold qg;rw [e0];decide
def mJ:ay:=.mk 8 1 1 ⟨#[97]⟩ hd0 [] []
def lT:ay:=.mk 1 0 0 ⟨#[120,121,122]⟩ hd0 [] []
def nS:ay:=.mk 8 2 1 ⟨#[]⟩ hd0 [] []
def nT:ay:=.mk 2 0 0 ⟨#[]⟩ hd0 [] []
def kJ:List ay:=[mJ,lT,nS,nT]
theorem Ch:eD lT=3∧rC lT=0:=by simp [eD,rC,lT,ay.kind,ay.text,vY,FP,QG.1,QG.2]
theorem zy:eD mJ=1∧rC mJ=0:=by simp [eD,rC,mJ,ay.kind]
theorem FM:eD nS=1∧rC nS=0:=by simp [eD,rC,nS,ay.kind]
theorem Iy:eD nT=1∧rC nT=0:=by simp [eD,rC,nT,ay.kind]
theorem ait:n1 lT=3:=by simp [n1,Ch.1,Ch.2]
theorem ais:n1 mJ=1:=by simp [n1,zy.1,zy.2]
theorem aiq:n1 nS=1:=by simp [n1,FM.1,FM.2]
theorem air:n1 nT=1:=by simp [n1,Iy.1,Iy.2]
theorem a16:dB 0 0 kJ=[⟨1,1,⟨#[97]⟩,0,0⟩,⟨2,1,⟨#[]⟩,0,4⟩]:=by
 simp only [kJ,dB,Mk,ait,ais,aiq,air]
 simp [mJ,lT,nS,nT,ay.kind,ay.code,ay.id,ay.text]
theorem Yd:jq (dB 0 0 kJ) 1=[⟨1,⟨#[97]⟩,0,1,0,4⟩]:=by
 rw [a16]
 simp [jq,oM,mQ,xY,zW]
theorem aeV:GV kJ ⟨#[97]⟩=some ⟨1,⟨#[97]⟩,0,1,0,4⟩:=by
 unfold GV;rw [Yd];simp
theorem WE:xR kJ=0∧vC kJ=6:=by
 simp [xR,vC,uU,iW,kJ,Ch.1,Ch.2,zy.1,zy.2,FM.1,FM.2,Iy.1,Iy.2]
theorem o16:gJ 0 kJ=[(0,mJ),(1,lT),(4,nS),(5,nT)]:=by simp [gJ,kJ,zy.1,Ch.1,FM.1]
theorem lf16:vB 4 kJ=[mJ,lT]:=by simp [vB,lA,o16,wB,zy.1,Ch.1,FM.1,Iy.1]
theorem Xk:gJ 0 [mJ,lT]=[(0,mJ),(1,lT)]:=by simp [gJ,zy.1]
theorem XE:BU 1 (vB 4 kJ)=[lT]:=by rw [lf16];simp [BU,rA,Xk,wB,zy.1,Ch.1]
theorem abO:IX 4 kJ:=by
 intro a ha;rw [o16] at ha
 simp only [lq,List.not_mem_nil,or_false] at ha
 rcases ha with rfl|rfl|rfl|rfl <;> simp [wB,zy.1,Ch.1]
theorem abP:IX 1 (vB 4 kJ):=by
 rw [lf16];intro a ha;rw [Xk] at ha
 simp only [lq,List.not_mem_nil,or_false] at ha
 rcases ha with rfl|rfl <;> simp [wB,zy.1]
theorem aiW:Sb (BU 1 (vB 4 kJ)):=by
 rw [XE];exact ⟨Gc.one (bV _),fun x hx=>by rw [sM.1 hx];exact ⟨rfl,rfl,by decide,fun _=>by rw [ByteArray.toList_eq];decide⟩⟩
theorem ajs:AB kJ 1 4=0:=by simp [AB,WE.1,WE.2]
theorem aeQ:jc kJ 0=some kJ:=by simp [jc,Bt]
theorem Y5:bq kJ≤1000:=by
 have h1:=nU mJ;have h2:=nU lT;have h3:=nU nS;have h4:=nU nT
 have h0:qh hd0=5:=by simp [IK,eX]
 have s1:mJ.text.size=1:=rfl;have s2:lT.text.size=3:=rfl;have s3:nS.text.size=0:=rfl;have s4:nT.text.size=0:=rfl;rw [show mJ.head=hd0 from rfl,h0,show bq mJ.flow=0 from rfl,show gZ mJ.rows=0 from rfl] at h1;rw [show lT.head=hd0 from rfl,h0,show bq lT.flow=0 from rfl,show gZ lT.rows=0 from rfl] at h2;rw [show nS.head=hd0 from rfl,h0,show bq nS.flow=0 from rfl,show gZ nS.rows=0 from rfl] at h3;rw [show nT.head=hd0 from rfl,h0,show bq nT.flow=0 from rfl,show gZ nT.rows=0 from rfl] at h4
 simp only [bq,kJ,eT,qx,eX]
 omega
theorem LQ (C:gN) {e:Int} (h1:1≤e) (h2:e≤10):iI C e hd0=0:=by
 have h3:gI e []=0:=by rw [gI,ah (by omega)];rfl
 simp [iI,dK,hd0,h3,xW,jM,kE,cu]
theorem ok16:dX kJ:=by
 have f1:kK mJ=0:=by
  have hn:pJ ⟨#[97]⟩=true:=by decide
  simp [kK,mJ,ay.kind,ay.code,ay.id,ay.text,ay.flow,ay.rows,codeOk,wC,yK,zi,zD,zq,sQ,akH,hn]
 have f2:kK lT=0:=by
  simp [kK,lT,ay.kind,ay.code,ay.id,ay.text,ay.flow,ay.rows,codeOk,wC,yK,zi,zD,zq,sQ,QG.1]
 have f3:kK nS=0:=by
  simp [kK,nS,ay.kind,ay.code,ay.id,ay.text,ay.flow,ay.rows,codeOk,wC,yK,zi,zD,zq,sQ,Yu]
 have f4:kK nT=0:=by
  simp [kK,nT,ay.kind,ay.code,ay.id,ay.text,ay.flow,ay.rows,codeOk,wC,yK,zi,zD,zq,sQ,Yu]
 have C:gN:=⟨[],[],[]⟩;have q1:∀ s:CS,kI true false 0 mJ.kind mJ.id s=(0,s):=fun s=>rfl;have q2:∀ s:CS,kI true false 0 lT.kind lT.id s=(0,s):=fun s=>rfl;have q3:∀ s:CS,kI true false 0 nS.kind nS.id s=(0,s):=fun s=>rfl;have q4:∀ s:CS,kI true false 0 nT.kind nT.id s=(0,s):=fun s=>rfl;have h1:iI C mJ.kind mJ.head=0:=LQ C (by decide) (by decide);have h2:iI C lT.kind lT.head=0:=LQ C (by decide) (by decide);have h3:iI C nS.kind nS.head=0:=LQ C (by decide) (by decide);have h4:iI C nT.kind nT.head=0:=LQ C (by decide) (by decide);refine ⟨C,true,false,0,⟨0,[]⟩,(jy C true false 0 kJ ⟨0,[]⟩).2,?_⟩
 simp [kJ,jy,Po,fQ,f1,f2,f3,f4,q1,q2,q3,q4,h1,h2,h3,h4,show ¬ mJ.kind=6 by decide,show ¬ mJ.kind=7 by decide,show ¬ lT.kind=6 by decide,show ¬ lT.kind=7 by decide,show ¬ nS.kind=6 by decide,show ¬ nS.kind=7 by decide,show ¬ nT.kind=6 by decide,show ¬ nT.kind=7 by decide]
theorem Uk (G:GH) (w0:World) (hG:Hold G w0) :
  Calls prog 31 #[] w0 (bF w0 G fun u G'=>∃ D:nE,u=D.val∧av G' (.sl 11 (kJ.map ay.dat)) (fI D.f)):=by
 refine eN [] func31 rfl ntmps31 rfl rfl hG ?_;intro a H;refine dH (fun _ K1=>?_);refine eZ rz H wn rfl ?_;clear H;intro b0 a w hb0 H;refine K1 _ _ ?_;clear K1;refine dH (fun _ K2=>?_);(iterate 4 refine ku aks [_,_,_,_,_,_,_,_,_,_,_] H wn rfl rfl rfl rfl ?_;clear H;intro a H);refine gU fU dx [_,_,_,_,_,_,_,_,_,_,_,_,_,_,_,_,_,_,_,_,_,_,_,_,_,_,_,_,_,_,_,_,_,_,_,_,_,_,_,_,_,_,_,_] [_,_,_,_,_,_,_,_,_,_,_,_,_,_,_,_,_,_,_,_,_,_,_,_,_,_,_,_,_,_,_,_,_,_,_,_,_,_,_,_,_,_,_,_] H wn rfl rfl rfl rfl rfl (by intro i q h;match i,h with|0,h=>exact h|1,h=>exact h|2,h=>exact h|3,h=>exact h|n+4,h=>simp at h) rfl rfl ?_;clear H;intro b5 a w hb5 H;refine ku akr [_,_,_,_,_,_,_,_,_,_,_] H wn rfl rfl rfl rfl ?_;clear H;intro a H;refine bM rz 1 (vs:=[_,_,_,_,_,_,_,_,_,_,_]) _ H wn rfl rfl rfl rfl rfl rfl rfl rfl ?_;clear H;intro w H;dsimp only [List.set,setRow] at H;refine K2 _ _ ?_;clear K2;refine cB ?_;refine (leave1 H results31 (.cons (AO rz (cs:=[_,_,_,_,_,_,_,_,_,_,_]) H rfl rfl (H.hp.eF 1 rfl rfl)) .nil) ?_).1;have H:=H.dV (Pl:=[_,_]) (dz:=[_]) [0] (by decide) rfl;obtain ⟨G3,OI,Hf,H⟩:=H.dS;have r1:aZ G3 mJ.dat _:=aZ.mkItem (x:=mJ) J4 (av.jo (A:=none) (n:=0) (c:=0) rfl (by decide)) (av.jo (A:=none) (n:=0) (c:=0) rfl (by decide));have r2:aZ G3 lT.dat _:=aZ.mkItem (x:=lT) J4 (av.jo (A:=none) (n:=0) (c:=0) rfl (by decide)) (av.jo (A:=none) (n:=0) (c:=0) rfl (by decide));have r3:aZ G3 nS.dat _:=aZ.mkItem (x:=nS) J4 (av.jo (A:=none) (n:=0) (c:=0) rfl (by decide)) (av.jo (A:=none) (n:=0) (c:=0) rfl (by decide));have r4:aZ G3 nT.dat _:=aZ.mkItem (x:=nT) J4 (av.jo (A:=none) (n:=0) (c:=0) rfl (by decide)) (av.jo (A:=none) (n:=0) (c:=0) rfl (by decide));have jH:fD G3 11 (kJ.map ay.dat) _:=(((fD.nil.snoc r1 rfl).snoc r2 rfl).snoc r3 rfl).snoc r4 rfl;exact H.rt ⟨⟨(some ⟨b5,0,none⟩,4,4),(none,0,0),(none,0,0),(none,0,0),(none,0,0),(none,0,0),(none,0,0),(none,0,0),(none,0,0),0,0⟩,rfl,av.eO (n:=4) (cap:=4) Hf rfl (bV _) (show 4≤maxLen by decide) rfl jH⟩
set_option maxHeartbeats 1000000 in
theorem akE (G:GH) (w0:World) (hG:Hold G w0) (D:nE) (hv:av G (.sl 11 (kJ.map ay.dat)) (fI D.f)) :
  Calls prog 27 #[D.val,.string ⟨#[97]⟩] w0 (bF w0 G fun u G'=>u=.tuple #[.string ⟨#[120,121,122]⟩,.bool true]):=by
 have hz:=Y5;refine eN [(0,_),(1,_)] func27 rfl ntmps27 rfl rfl hG ?_;intro a H;refine dH (fun _ K1=>?_);refine fq (cs:=[_,_,_,_,_,_,_,_,_,_,_]) H wn rfl rfl rfl ?_;clear H;intro b2 a w hb2 H;refine kH H (Ra rfl (ak K1 rfl (SQ fun _ K2=>?_)));clear H K1;intro a H;obtain ⟨Ga,hma,hb',H⟩:=H.dS;have hga:=fun j v hj=>wY hb' 0 D.cells rfl j v hj;replace hv:=hv.mono hma;refine nY ?_;refine bK rz (cs:=D.cells) H wn rfl rfl (fun j v hj=>H.hp.aL (hga j v hj)) rfl ?_;clear H;intro a H;refine kH H (Rm rfl ?_);clear H;intro a H;refine s_call adl H wn rfl (aad _ _ H.ro D kJ ⟨#[97]⟩ hv ok16 (by omega)) rfl ?_;clear H;rintro v18 Q6 a w rfl hm18 H;rw [aeV] at H;dsimp only [Option.getD_some,Option.isSome_some] at H;replace hv:=hv.mono hm18;replace hga:=fun j v hj=>aM hm18 (hga j v hj);refine kH H (Rm rfl ?_);clear H;intro a H;(iterate 2 refine jN H wn rfl rfl rfl ?_;clear H;intro a H);refine eZ jr H wn rfl ?_;clear H;intro b6 a w hb6 H;refine bM jr 0 (vs:=[_,_,_,_,_,_]) _ H wn rfl rfl rfl rfl rfl rfl rfl rfl ?_;clear H;intro w H;dsimp only [List.set,setRow] at H;refine kH H (aV K2 rfl (SQ fun _ K3=>SR fun _ K4=>Rm rfl (Rn rfl (Kz K4 (Cd rfl ?_ ?_))))) <;> clear H K2 K4
 ·intro h22 a H
  exact absurd h22 (by decide)
 intro h22 a H
 try have iA:=dF h22
 refine fT ?_;refine K3 _ _ ?_;clear K3;refine dH (fun _ K5=>?_);refine bK rz (cs:=D.cells) H wn rfl rfl (fun j v hj=>H.hp.aL (hga j v hj)) rfl ?_;clear H;intro a H;refine kH H (Rf pQ rfl (aW pO aH 0 rfl rfl ?_));clear H;intro a H;refine s_call TR H wn rfl (UU _ _ H.ro D kJ 0 hv (by omega)) rfl ?_;clear H;rintro v28 Zw a w ⟨x28,rfl,hx28⟩ alY H;rw [aeQ,Option.getD_some] at hx28;obtain ⟨A28,n28,c28,rfl⟩:=hx28.form;refine kH H (Rm rfl ?_);clear H;intro a H;(iterate 2 refine jN H wn rfl rfl rfl ?_;clear H;intro a H);refine kH H (Ra rfl (ak K5 rfl (SR fun _ K6=>Rm rfl (Rf pQ rfl (aW jK aH 0 rfl rfl (Rf Aa rfl (aW jK aH 0 rfl rfl ?_)))))));clear H K5;intro a H;refine s_call adj H wn rfl (akk _ _ H.ro kJ 1 4 _ hx28 (by omega) ajs abO abP aiW) rfl ?_;clear H;rintro v39 LW a w ⟨x39,rfl,hx39⟩ agk H;rw [XE] at hx39;obtain ⟨Zj,n39,c39,rfl⟩:=hx39.form;obtain rfl:n39=1:=hx39.len;refine kH H (Rm rfl ?_);clear H;intro a H;(iterate 2 refine jN H wn rfl rfl rfl ?_;clear H;intro a H);refine kH H (Ra rfl (ak K6 rfl (SR fun _ K7=>?_)));clear H K6;intro a H;refine eZ akI H wn rfl ?_;clear H;intro b12 a w BD H;refine K7 _ _ ?_;clear K7;refine kP H (SQ fun _ K8=>SR fun _ K9=>Rm rfl (Rl fU rfl (Rm rfl (Kz K9 (SB ?_)))));clear H K9;intro a H;skip;refine eU (ι:=Nat × aj × aj × Nat × OL) (Tc:=[(12,_),(42,_),(43,_)]) (Lc:=[(_,_)]) (fun gh=>[(44,vi gh.1)]) (fun gh=>[bB b12 gh.2.1 gh.2.2.1]++gh.2.2.2.2) (fun gh=>LW) (fun gh=>gh.1≤1∧(gh.1=0→gh.2.1=.pointer none∧gh.2.2.1=.slice none 0 0∧gh.2.2.2.2=[])∧(gh.1=1→gh.2.1=(aJ b12 0)∧dJ 5 1 gh.2.2.1 3 (Lib.byteCells [120,121,122]) gh.2.2.2.2)) (fun gh=>1 - gh.1) ((0,.pointer none,.slice none 0 0,0,[])) (by exact (H.dV (Pl:=[_,_]) (dz:=[_,_]) [1,0] (by decide) rfl).sub ⟨rfl,rfl,rfl,rfl,aD⟩) ?_ ?_
 ·exact ⟨by omega,fun _=>⟨rfl,rfl,rfl⟩,fun h=>absurd h (by decide)⟩
 clear H;intro gh a w hI H;obtain ⟨k,p,v,n,Lo⟩:=gh;dsimp only at hI H;obtain ⟨hk,hk0,hk1⟩:=hI;dsimp only [lca,bD] at H;refine kP H (SR fun _ aT=>Rc rfl (Kz aT (SQ fun _ bC=>Cd rfl ?_ ?_))) <;> clear H aT
 ·intro h45 a H
  try have p45:=dT h45
  obtain rfl:k=0:=by omega
  obtain ⟨rfl,rfl,rfl⟩:=hk0 rfl;obtain ⟨b,o,pA,pn,pc,dA,dn,dc,yA,yn,yc,fA,fn,fc,rA,rn,rc,rfl,hrow,hhd,hfl,hrw⟩:=wX (l:=[lT]) (k:=0) (by decide) hx39.at_;refine kP H (Kc bC (SQ fun _ bJ=>SB (SR fun _ bT=>Ri fU dx rfl rfl ?_)));clear H bC;intro a H;refine bK dx (cs:=[_,_,_,_,_,_,_,_,_,_,_]) H wn rfl rfl (fun j v hj=>H.hp.aL (hrow j v hj)) rfl ?_;clear H;intro a H;refine eZ dx H wn rfl ?_;clear H;intro b14 a w Ou H;refine bM dx 0 (vs:=[_,_,_,_,_,_,_,_,_,_,_]) _ H wn rfl rfl rfl rfl rfl rfl rfl rfl ?_;clear H;intro w H;dsimp only [List.set,setRow] at H;refine bT _ _ ?_;clear bT;refine kP H (SR fun _ bS=>aW jD aH 0 rfl rfl (Rc rfl (Kz bS (Cd rfl ?_ ?_)))) <;> clear H bS
  ·intro h50 a H
   try have p50:=dT h50
   refine kP H (SC (aW tZ gG 0 rfl rfl ?_));clear H;intro a H;refine gV adv (Li:=[_,_]) (L:=bB b12 (.pointer none) (.slice none 0 0) :: []) H wn rfl (ali _ _ _ b12 (.pointer none) (.slice none 0 0) 0 [] ⟨#[120,121,122]⟩ (.inl rfl) (Hp.owns (Li:=[_,_]) H.hp) dJ.nil (by decide)) rfl ?_;clear H;rintro v_ _ L53 a w ⟨v53,ZX,rfl,agM,rfl⟩ amd H;refine kH H (Kn bJ (SC (Rd rfl (Rm rfl ?_))));clear H bJ;intro a H;refine aI ?_;refine cK ((1,(aJ b12 0),v53,0,ZX)) (by exact (H.dV (Pl:=[_,_,_]) (dz:=[_,_]) [1,2] (by decide) rfl).sub ⟨rfl,rfl,rfl,rfl,aD⟩) ?_ ?_
   ·(try dsimp only);exact ⟨by omega,fun h=>absurd h (by omega),fun _=>⟨rfl,agM⟩⟩
   first|omega|(dsimp only;omega)
  intro h50 a H
  exact absurd h50 (by decide)
 intro h45 a H
 try have p45:=dF h45
 obtain rfl:k=1:=by omega
 obtain ⟨rfl,hrw3⟩:=hk1 rfl;refine dQ ?_;refine K8 _ _ ?_;clear K8;refine dH (fun _ dD=>?_);refine gV Ub (Li:=[_]) (L:=bB b12 _ v :: Lo) H wn rfl (akx _ _ _ b12 _ v [120,121,122] (Hp.owns (Li:=[_]) H.hp) hrw3 (by decide)) rfl ?_;clear H;rintro v55 Ja L55 a w rfl uw H;refine kH H (Ra rfl (ak dD rfl ?_));clear H dD;intro a H;refine cB ?_;refine (eB H results27 (.cons (aR H rfl) (.cons (aR H rfl) .nil)) ?_).1;exact H.rt rfl
theorem Wz (G:GH) (w0:World) (hG:Hold G w0):Calls prog 9 #[] w0 (bF w0 G fun u G'=>u=.bool true):=by
 have hz:=Y5;refine eN [] func9 rfl ntmps9 rfl rfl hG ?_;intro a H;refine kP H (SR fun _ K1=>ak K1 rfl (SR fun _ K2=>?_));clear H K1;intro a H;refine s_call TU H wn rfl (Uk _ _ H.ro) rfl ?_;clear H;rintro v4 G4 a w ⟨D4,rfl,hv4⟩ EY H;refine s_call M6 H wn rfl (MB _ _ H.ro D4 kJ hv4 ok16 (by omega)) rfl ?_;clear H;rintro v5 G5 a w hr OM H;rw [Yd] at hr;obtain ⟨A5,n5,c5,rfl⟩:=hr.form;obtain rfl:n5=1:=hr.len;obtain ⟨b,o,rfl,hrow⟩:=Ir (A:=[⟨1,⟨#[97]⟩,0,1,0,4⟩]) (k:=0) hr (by decide);refine kH H (ak K2 rfl (SR fun _ K3=>?_));clear H K2;intro a H;refine s_call TU H wn rfl (Uk _ _ H.ro) rfl ?_;clear H;rintro v7 G7 a w ⟨D7,rfl,hv7⟩ Ao H;refine s_call adn H wn rfl (akE _ _ H.ro D7 hv7) rfl ?_;clear H;rintro v8 G8 a w rfl yV H;refine kH H (Rm rfl ?_);clear H;intro a H;(iterate 2 refine jN H wn rfl rfl rfl ?_;clear H;intro a H);refine kH H (Ra rfl (ak K3 rfl (SR fun _ K4=>Rm rfl (Rl nQ rfl (Rc rfl (Rm rfl (Sp 14 rfl ?_ ?_))))))) <;> clear H K3
 ·intro dN a H
  try have mH:=dT dN
  refine kH H (YM dN rfl ?_);clear H;intro a H;refine zl nQ jr 0 H (wg H rfl rfl dN) rfl rfl rfl (by decide) rfl ?_;clear H;intro a H;refine bK jr (cs:=[vi 1,.string ⟨#[97]⟩,vi 0,vi 1,vi 0,vi 4]) H (wg H rfl rfl dN) rfl rfl (fun j v hj=>H.hp.aL (aM yV (aM Ao (hrow j v hj)))) rfl ?_;clear H;intro a H;(iterate 2 refine ku Qv [_,_] H (wg H rfl rfl dN) rfl rfl rfl rfl ?_;clear H;intro a H);refine ku Ld [_,_,_,_,_,_] H (wg H rfl rfl dN) rfl rfl rfl rfl ?_;clear H;intro a H;refine ajD adZ H (wg H rfl rfl dN) rfl rfl rfl rfl ?_;clear H;intro a H;refine kH H (Pt dN rfl (Rm rfl (Sp 23 rfl ?_ ?_))) <;> clear H
  ·intro h23 a H
   try have rW:=dT h23
   refine kH H (YM h23 rfl ?_);clear H;intro a H;refine BZ H (wg H rfl rfl h23) rfl rfl rfl ?_;clear H;intro a H;refine kH H (Pt h23 rfl (Rm rfl (Sp 27 rfl ?_ ?_))) <;> clear H
   ·intro h27 a H
    exact kH H (YM h27 rfl (Pt h27 rfl (ak K4 rfl (LR results9 rfl fun H=>H.rt rfl))))
   intro h27 a H
   try have p27:=dF h27
   exact absurd h27 (by first|decide|simp [jG,jR])
  intro h23 a H
  try have rW:=dF h23
  exact absurd h23 (by first|decide|simp [jG,jR])
 intro dN a H
 exact absurd dN (by decide)
end
section
open Go.RowKit
theorem EH:∀ args w,(callFunc 58 args).run prog w=.ok (.enter 58 args) w:=enters func58 rfl (by kernel_rfl)
theorem M4:∀ args w,(callFunc 128 args).run prog w=.ok (.enter 128 args) w:=enters func128 rfl (by kernel_rfl)
theorem GD:∀ args w,(callFunc 60 args).run prog w=.ok (.enter 60 args) w:=enters func60 rfl (by kernel_rfl)
theorem EU (G:GH) (L:OL) (w0:World) (st:List bR) (li:List fV) (rv:List fG) (b ms ml mr mb mu:Nat) (n:Int) (hck:tH G st li rv ms ml mr mu) (hO:gX G (fJ b ms ml mr mb mu n :: L) w0)
  (e:Int) (h:iG) (p d l:aj) (hh:jI G h p d l) (hz:qh h≤4294967296) :
  Calls prog 58 #[(aJ b 0),vi e,yT h p d l] w0 (gH w0 G (fJ b ms ml mr mb mu n :: L) fun v G' L'=>G=G'∧L'=fJ b ms ml mr mb mu n :: L∧v=vi (iI (aX st li rv) e h)):=by
 have hm:=GH.Jk G (o:=(fJ b ms ml mr mb mu n).2) (hO.sep _ iC);exact (agd (G.add b (fJ b ms ml mr mb mu n).2) w0 hO.add st li rv b ms ml mr mb mu n (hck.mono hm) (GH.Jl _ _ _) e h p d l (hh.mono hm) hz).mono fun _ _=>ajo (b:=b) (o:=(fJ b ms ml mr mb mu n).2) (R':=fun v=>v=vi (iI (aX st li rv) e h)) hO fun _ _ h=>h
abbrev IW (b ms ml mr mb mu:Nat) (L:OL) (r:CR):aj→OL→Prop:=fun u L'=>∃ s:CS,u=vi r.1∧L'=fJ b ms ml mr mb mu s.n :: (mb,fH (fM s.bL)) :: L∧(r.1=0→s=r.2)
def Eo (m:Nat):Prop:=∀ (G:GH) (L:OL) (w0:World) (st:List bR) (li:List fV) (rv:List fG) (b ms ml mr mb mu:Nat) (s:CS) (l:List ay) (v:aj) (body note:Bool) (t:Int),
 tH G st li rv ms ml mr mu→gX G (fJ b ms ml mr mb mu s.n :: (mb,fH (fM s.bL)) :: L) w0→av G (.sl 11 (l.map ay.dat)) v→bq l < m→0≤t→t≤4→0≤s.n→s.n+(bq l:Nat)≤1099511627776 →
 Calls prog 60 #[(aJ b 0),v,.agg #[.bool body,.bool note,vi t]] w0 (gH w0 G (fJ b ms ml mr mb mu s.n :: (mb,fH (fM s.bL)) :: L) fun u G' L'=>G=G'∧IW b ms ml mr mb mu L (jy (aX st li rv) body note t l s) u L')
theorem rows_ok {m:Nat} (ih:Eo m) (hm:m≤4294967296) (Gt:GH) (L:OL) (w0:World) (st:List bR) (li:List fV) (rv:List fG) (b ms ml mr mb mu:Nat) (s:CS) (l:List bP) (v:aj) (note:Bool) (t:Int)
  (hck:tH Gt st li rv ms ml mr mu) (hO:gX Gt (fJ b ms ml mr mb mu s.n :: (mb,fH (fM s.bL)) :: L) w0) (hv:av Gt (.sl 6 (l.map bP.dat)) v) (hz:gZ l < m) (ht0:0≤t) (Dy:t≤4) (hs0:0≤s.n) (hs1:s.n+(gZ l:Nat)≤1099511627776) :
  Calls prog 129 #[(aJ b 0),v,.agg #[.bool false,.bool note,vi t]] w0 (gH w0 Gt (fJ b ms ml mr mb mu s.n :: (mb,fH (fM s.bL)) :: L) fun u G' L'=>IW b ms ml mr mb mu L (lQ l.length (fun s=>iR (aX st li rv) note t l s) s) u L'):=by
 obtain ⟨A,c,rfl,hc1,hc2,hg⟩:=hv.slice;rw [bU] at *;have hll:=FT l;refine kg (N:=77) (T:=[(0,_),(1,_),(2,_)]) func129 rfl ntmps129 rfl rfl hO ?_;intro a H;refine dH (fun _ K1=>?_);refine fq (cs:=[_,_,_]) H wn rfl rfl rfl ?_;clear H;intro b5 a w hb5 H;refine kH H (ak K1 rfl (SQ fun _ K2=>SR fun _ K3=>Rm rfl (Rl lS rfl (Rc rfl (Kz K3 (Cd rfl ?_ ?_)))))) <;> clear H K1 K3
 ·intro eu a H
  try have mI:=dT eu
  refine bG (fun _ K4=>?_);have hE:lQ l.length (fun s=>iR (aX st li rv) note t l s) s=(11,s):=au (by omega);exact kP H (SC (aV K4 rfl (LR results129 rfl fun H=>H.hp.gT (L':=fJ b ms ml mr mb mu s.n :: (mb,fH (fM s.bL)) :: L) (by repeat (first|exact iN _|apply List.Sublist.cons)) ⟨s,by rw [hE],rfl,fun h=>by rw [hE]⟩)))
 intro eu a H
 try have mI:=dF eu
 refine kP H (Kc K2 (SQ fun _ K5=>SR fun _ K6=>Rm rfl (Rl lS rfl (Rc rfl (Kz K6 (Cd rfl ?_ ?_)))))) <;> clear H K2 K6
 ·intro h20 a H
  try have BR:=dT h20
  refine bG (fun _ K7=>?_)
  have hE:lQ l.length (fun s=>iR (aX st li rv) note t l s) s=(9,s):=by rw [lQ,ah (by omega),au (by omega)]
  exact kP H (SC (aV K7 rfl (LR results129 rfl fun H=>H.hp.gT (L':=fJ b ms ml mr mb mu s.n :: (mb,fH (fM s.bL)) :: L) (by repeat (first|exact iN _|apply List.Sublist.cons)) ⟨s,by rw [hE],rfl,fun h=>by rw [hE]⟩)))
 intro h20 a H
 try have BR:=dF h20
 refine kP H (Kc K5 (SQ fun _ K8=>SQ fun _ K9=>?_));clear H K5;intro a H
 have hE:lQ l.length (fun s=>iR (aX st li rv) note t l s) s=iR (aX st li rv) note t l s:=by rw [lQ,ah (by omega),ah (by omega)]
 refine kP H (SC (Rm rfl (Rl lS rfl (Rm rfl (Kn K9 (SB ?_))))));clear H K9;intro a H;skip;refine eU (ι:=Nat × CS × GH) (Tc:=[(0,_),(5,_),(21,_),(22,_)]) (Lc:=[(_,_)]) (fun gh=>[(23,vi gh.1)]) (fun gh=>[fJ b ms ml mr mb mu gh.2.1.n,(mb,fH (fM gh.2.1.bL))]++L) (fun gh=>gh.2.2) (fun gh=>gh.1≤l.length∧(∀ b o,Gt b=some o→gh.2.2 b=some o)∧iR (aX st li rv) note t l s=iR (aX st li rv) note t (l.drop gh.1) gh.2.1∧0≤gh.2.1.n∧gh.2.1.n+(gZ (l.drop gh.1):Nat)≤1099511627776) (fun gh=>l.length - gh.1) ((0,s,Gt)) (by exact (H).sub ⟨rfl,rfl,rfl,rfl,rfl,aD⟩) ?_ ?_
 ·exact ⟨ig _,fun _ _ h=>h,rfl,hs0,hs1⟩
 clear H;intro gh a w hI H;obtain ⟨k,s1,g⟩:=gh;dsimp only at hI H;obtain ⟨hk,hgm,hR,hn0,hn1⟩:=hI;dsimp only [lca,bD] at H;refine kP H (SR fun _ aT=>Rc rfl (Kz aT (SQ fun _ bC=>Cd rfl ?_ ?_))) <;> clear H aT
 ·intro dY a H
  try have kG:=dT dY
  have hk2:k < l.length:=by omega
  have hsz:=IQ hk2;have hcs:=FR l[k].cells
  have hdz:gZ (l.drop k)=1+dw l[k].dat+gZ (l.drop (k+1)):=by simp only [gZ];rw [kS hk2,eT,eX]
  have hrz:=Bf l[k];obtain ⟨xb,xo,qA,qn,qc,eA,en,ec,zA,zn,zc,cA,cn,cc,rfl,hrow,xJ,hcl⟩:=Fx hk2 hg;replace hrow:=fun j u hj=>aM hgm (hrow j u hj);replace xJ:=xJ.mono hgm;replace hcl:=hcl.mono hgm;have hcn:=hcl.len;rw [bU] at hcn;subst hcn;have afS:=hck.mono hgm;rw [kS hk2,iR,KQ] at hR;refine kP H (Kc bC (SQ fun _ bJ=>SB (SR fun _ bT=>Ri lS jV rfl rfl ?_)));clear H bC;intro a H;refine bK jV (cs:=[_,_,_,_,_,_]) H wn rfl rfl (fun j v hj=>H.hp.aL (hrow j v hj)) rfl ?_;clear H;intro a H;refine eZ jV H wn rfl ?_;clear H;intro b8 a w Hf H;refine bM jV 0 (vs:=[_,_,_,_,_,_]) _ H wn rfl rfl rfl rfl rfl rfl rfl rfl ?_;clear H;intro w H;dsimp only [List.set,setRow] at H;refine bT _ _ ?_;clear bT;refine bG (fun _ bS=>?_);refine bG (fun _ dD=>?_);refine dI hmx [[],[],[1],[0,1,2],[],[4],[4,5],[4,5,6],(ra 0 8),[],[9],[9,10],[9,10,11],(ra 0 13),(ra 0 14),(ra 0 15),(ra 0 16)] [14,15,16] (by kernel_rfl) [_,_,yT l[k].head (.slice qA qn qc) (.slice eA en ec) (.slice zA zn zc),vi (iI (aX st li rv) 9 l[k].head),_,.slice cA l[k].cells.length cc,_,_,vi (cu (decide ((l[k].cells.length:Int)=0)) 11),_,.slice cA l[k].cells.length cc,_,_,vi (cu (decide (32 < (l[k].cells.length:Int))) 9)] H (aG (Z0 rfl (Rm rfl)) (Z0 rfl (Rf UH rfl)) ?_ ?_ (aG (Z0 rfl (Rf uf rfl)) (Z1 4 31 rfl (Ro uI 0 rfl)) (Z1 5 32 rfl (Rl oV rfl)) (Z1 6 33 rfl (Rc rfl)) (aG ?_ (Z0 rfl (Rf uf rfl)) (Z1 9 36 rfl (Ro uI 0 rfl)) (Z1 10 37 rfl (Rl oV rfl)) (aG (Z1 11 38 rfl (Rc rfl)) ?_ (bN rfl) (bN rfl) (aU (bN rfl) bZ))))) ?_
  ·refine dO 1 28 rfl rfl fun _ a w G1 hG HT H fin=>?_;refine bK qG (cs:=[_,_,_,_,_]) H wn rfl rfl (H.hp.eF 0 rfl rfl) rfl ?_;clear H;intro a H;exact fin H iJ rfl
  ·refine dG 0 27 2 29 rfl rfl fun _ a w G1 hG HT H fin=>?_;refine gV EH (Li:=[_,_]) (L:=fJ b ms ml mr mb mu s1.n :: (mb,fH (fM s1.bL)) :: L) H wn rfl (EU _ _ _ st li rv b ms ml mr mb mu _ (afS.mono hG) (Hp.owns (Li:=[_,_]) H.hp) 9 l[k].head _ _ _ (xJ.mono hG) (by omega)) rfl ?_;clear H;rintro v30 _ _ a w ⟨rfl,rfl,rfl⟩ NY H;dsimp only [lca,bD] at H;exact fin H NY (rfl)
  ·refine dO 7 34 rfl rfl fun _ a w G1 hG HT H fin=>?_;refine s_call iZ H wn rfl (jf _ _ H.ro _ 11) rfl ?_;clear H;rintro v35 Q9 a w ⟨rfl,-⟩ NZ H;exact fin H NZ (rfl)
  ·refine dO 12 39 rfl rfl fun _ a w G1 hG HT H fin=>?_;refine s_call iZ H wn rfl (jf _ _ H.ro _ 9) rfl ?_;clear H;rintro v40 Rb a w ⟨rfl,-⟩ afm H;exact fin H afm (rfl)
  clear H;intro a w G qQ H hv;have H:=H.aQ (hv 3 30 rfl rfl) rfl;have H:=H.aQ (hv 8 35 rfl rfl) rfl;have H:=H.aQ (hv 13 40 rfl rfl) rfl;clear hv;refine gU ou gF [_,_,_] [_,_,_] H wn rfl rfl rfl rfl rfl (by intro i q h;match i,h with|0,h=>exact h|1,h=>exact h|2,h=>exact h|n+3,h=>simp at h) rfl rfl ?_;clear H;intro b41 a w alM H;obtain ⟨LX,Vs,afN,H⟩:=H.dS;have Vl:∀ b o,Gt b=some o→LX b=some o:=fun b o h=>Vs _ _ (qQ _ _ (hgm _ _ h));refine s_call pK H wn rfl (pR _ _ H.ro _ _ (DI [iI (aX st li rv) 9 l[k].head,cu (decide ((l[k].cells.length:Int)=0)) 11,cu (decide (32 < (l[k].cells.length:Int))) 9] afN (show 3≤maxLen by decide))) rfl ?_;clear H;rintro v42 _ a w ⟨rfl,rfl⟩ - H;refine kH H (Ra rfl ?_);clear H;intro a H;refine aI ⟨rfl,?_⟩;refine dD _ _ ?_;clear dD;refine kP H (SR fun _ dM=>Rm rfl (Rc rfl (Kz dM (Cd rfl ?_ ?_)))) <;> clear H dM
  ·intro NG a H
   try have p44:=dT NG
   have e44:D6 (aX st li rv) l[k].head l[k].cells.length≠0:=p44
   have hF1:(lQ l.length (fun s=>iR (aX st li rv) note t l s) s).1=D6 (aX st li rv) l[k].head l[k].cells.length:=by rw [hE,hR,Jm (r:=(D6 (aX st li rv) l[k].head l[k].cells.length,s1)) e44,Jm e44]
   have hF2:(lQ l.length (fun s=>iR (aX st li rv) note t l s) s).1=0→s1=(lQ l.length (fun s=>iR (aX st li rv) note t l s) s).2:=fun h=>absurd (hF1.symm.trans h) e44;exact kP H (SR fun _ cZ=>Rm rfl (ak cZ rfl (LR results129 rfl fun H=>H.hp.gT (L':=fJ b ms ml mr mb mu s1.n :: (mb,fH (fM s1.bL)) :: L) (by repeat (first|exact iN _|apply List.Sublist.cons)) ⟨s1,aF vi hF1.symm,rfl,hF2⟩)))
  intro NG a H
  try have p44:=dF NG
  have e44:D6 (aX st li rv) l[k].head l[k].cells.length=0:=jJ.1 p44;rw [Gj (r:=(D6 (aX st li rv) l[k].head l[k].cells.length,s1)) e44] at hR;dsimp only at hR;have afT:=hck.mono Vl;replace hcl:=hcl.mono (fun b o h=>Vs _ _ (qQ b o h));refine kP H (Kc bS (SR fun _ dW=>aW uf uI 0 rfl rfl (Rl oV rfl (Rm rfl (Kz dW (SB ?_))))));clear H bS dW;intro a H;skip;refine eU (ι:=Nat × CS × GH) (Tc:=[(0,_),(5,_),(21,_),(22,_),(23,_),(47,_),(48,_)]) (Lc:=[(_,_),(_,_)]) (fun gh=>[(49,vi gh.1)]) (fun gh=>[fJ b ms ml mr mb mu gh.2.1.n,(mb,fH (fM gh.2.1.bL))]++L) (fun gh=>gh.2.2) (fun gh=>gh.1≤l[k].cells.length∧(∀ b o,LX b=some o→gh.2.2 b=some o)∧iR (aX st li rv) note t l s=fQ (rJ (aX st li rv) note t (l[k].cells.drop gh.1) gh.2.1) (fun s=>iR (aX st li rv) note t (l.drop (k+1)) s)∧0≤gh.2.1.n∧gh.2.1.n+(jA (l[k].cells.drop gh.1):Nat)+(gZ (l.drop (k+1)):Nat)≤1099511627776) (fun gh=>l[k].cells.length - gh.1) ((0,s1,LX)) (by exact (H).sub ⟨rfl,rfl,rfl,rfl,rfl,rfl,rfl,rfl,aD⟩) ?_ ?_
  ·exact ⟨ig _,fun _ _ h=>h,hR,hn0,by dsimp only;rw [uR];omega⟩
  clear H;intro gh a w hI H;obtain ⟨c,s2,g2⟩:=gh;dsimp only at hI H;obtain ⟨hc,J6,hR2,hm0,hm1⟩:=hI;have oK:=fun b o h=>J6 b o (Vl b o h);dsimp only [lca,bD] at H;refine kP H (SR fun _ fZ=>Rc rfl (Kz fZ (SQ fun _ eG=>Cd rfl ?_ ?_))) <;> clear H fZ
  ·intro h50 a H
   try have p50:=dT h50
   have hk4:c < l[k].cells.length:=by omega
   have agQ:=IJ hk4
   have afX:jA (l[k].cells.drop c)=1+dw l[k].cells[c].dat+jA (l[k].cells.drop (c+1)):=by simp only [jA];rw [kS hk4,eT,eX]
   have hcz:=Bd l[k].cells[c];obtain ⟨b3',o3,sA,sn,sc,tA,tn,tc,uA,un,uc,gA,gn,gc,rfl,hrow,hch,hcf⟩:=EC hk4 (hcl.mono J6).at_;have OB:=afT.mono J6;rw [kS hk4,rJ,Ju] at hR2;obtain ⟨y,hy⟩:∃ y,y=l[k].cells[c]:=⟨_,rfl⟩;rw [← hy] at hR2 hrow hch hcf hcz agQ afX;refine kP H (Kc eG (SQ fun _ gq=>SB (SR fun _ iB=>Ri oV kN rfl rfl ?_)));clear H eG;intro a H;refine bK kN (cs:=[_,_,_,_,_,_,_]) H wn rfl rfl (fun j v hj=>H.hp.aL (hrow j v hj)) rfl ?_;clear H;intro a H;refine eZ kN H wn rfl ?_;clear H;intro b11 a w JY H;refine bM kN 0 (vs:=[_,_,_,_,_,_,_]) _ H wn rfl rfl rfl rfl rfl rfl rfl rfl ?_;clear H;intro w H;dsimp only [List.set,setRow] at H;refine iB _ _ ?_;clear iB;refine kP H (SQ fun _ jv=>SR fun _ jB=>Rm rfl (aW EN aH 0 rfl rfl ?_));clear H;intro a H;refine gV M4 (Li:=[_,_,_]) (L:=fJ b ms ml mr mb mu s2.n :: (mb,fH (fM s2.bL)) :: L) H wn rfl (MH _ _ _ st li rv b ms ml mr mb mu _ s2.bL y.id OB (Hp.owns (Li:=[_,_,_]) H.hp)) rfl ?_;clear H;rintro v56 _ _ a w ⟨rfl,rfl,rfl⟩ - H;dsimp only [lca,bD] at H;refine kH H (ak jB rfl (SR fun _ iX=>Rm rfl (Rc rfl (Kz iX (Cd rfl ?_ ?_))))) <;> clear H jB iX
   ·intro jL a H
    try have p58:=dT jL
    have hF1:(lQ l.length (fun s=>iR (aX st li rv) note t l s) s).1=pV s2.bL y.id:=by rw [hE,hR2];simp [fQ,jU,p58]
    have hF2:(lQ l.length (fun s=>iR (aX st li rv) note t l s) s).1=0→(⟨s2.n,jT s2.bL y.id⟩:CS)=(lQ l.length (fun s=>iR (aX st li rv) note t l s) s).2:=fun h=>absurd (hF1.symm.trans h) p58;exact kP H (SR fun _ kD=>Rm rfl (ak kD rfl (LR results129 rfl fun H=>H.hp.gT (L':=fJ b ms ml mr mb mu s2.n :: (mb,fH (fM (jT s2.bL y.id))) :: L) (by repeat (first|exact iN _|apply List.Sublist.cons)) ⟨⟨s2.n,jT s2.bL y.id⟩,aF vi hF1.symm,rfl,hF2⟩)))
   intro jL a H
   try have p58:=dF jL
   have e58:pV s2.bL y.id=0:=jJ.1 p58;refine kP H (Kc jv (SQ fun _ kZ=>SR fun _ jC=>Rm rfl (Rf UJ rfl ?_)));clear H jv;intro a H;refine bK qG (cs:=[_,_,_,_,_]) H wn rfl rfl (H.hp.eF 0 rfl rfl) rfl ?_;clear H;intro a H;refine gV EH (Li:=[_,_,_]) (L:=fJ b ms ml mr mb mu s2.n :: (mb,fH (fM (jT s2.bL y.id))) :: L) H wn rfl (EU _ _ _ st li rv b ms ml mr mb mu _ OB (Hp.owns (Li:=[_,_,_]) H.hp) 10 y.head _ _ _ hch (by omega)) rfl ?_;clear H;rintro v63 _ _ a w ⟨rfl,rfl,rfl⟩ - H;dsimp only [lca,bD] at H;refine kH H (ak jC rfl (SR fun _ oz=>Rm rfl (Rc rfl (Kz oz (Cd rfl ?_ ?_))))) <;> clear H jC oz
   ·intro qN a H
    try have p65:=dT qN
    have hF1:(lQ l.length (fun s=>iR (aX st li rv) note t l s) s).1=iI (aX st li rv) 10 y.head:=by rw [hE,hR2];simp [fQ,jU,e58,p65]
    have hF2:(lQ l.length (fun s=>iR (aX st li rv) note t l s) s).1=0→(⟨s2.n,jT s2.bL y.id⟩:CS)=(lQ l.length (fun s=>iR (aX st li rv) note t l s) s).2:=fun h=>absurd (hF1.symm.trans h) p65;exact kP H (SR fun _ oZ=>Rm rfl (ak oZ rfl (LR results129 rfl fun H=>H.hp.gT (L':=fJ b ms ml mr mb mu s2.n :: (mb,fH (fM (jT s2.bL y.id))) :: L) (by repeat (first|exact iN _|apply List.Sublist.cons)) ⟨⟨s2.n,jT s2.bL y.id⟩,aF vi hF1.symm,rfl,hF2⟩)))
   intro qN a H
   try have p65:=dF qN
   have e65:iI (aX st li rv) 10 y.head=0:=jJ.1 p65;refine kP H (Kc kZ (SR fun _ qj=>Rm rfl (aW CZ gW 0 rfl rfl ?_)));clear H kZ;intro a H;refine bK Lm (cs:=[_,_,_]) H wn rfl rfl (H.hp.eF 2 rfl rfl) rfl ?_;clear H;intro a H;refine gV GD (Li:=[_,_,_]) (L:=fJ b ms ml mr mb mu s2.n :: (mb,fH (fM (jT s2.bL y.id))) :: L) H wn rfl (ih _ _ _ st li rv b ms ml mr mb mu ⟨s2.n,jT s2.bL y.id⟩ y.flow _ false note t OB (Hp.owns (Li:=[_,_,_]) H.hp) hcf (by omega) ht0 Dy hm0 (by dsimp only;omega)) rfl ?_;clear H;rintro v71 _ _ a w ⟨rfl,s3,rfl,rfl,h3⟩ - H;dsimp only [lca,bD] at H;refine kH H (ak qj rfl (SR fun _ qJ=>Rm rfl (Rc rfl (Kz qJ (Cd rfl ?_ ?_))))) <;> clear H qj qJ
   ·intro NM a H
    try have p73:=dT NM
    have hF1:(lQ l.length (fun s=>iR (aX st li rv) note t l s) s).1=(jy (aX st li rv) false note t y.flow ⟨s2.n,jT s2.bL y.id⟩).1:=by rw [hE,hR2];simp [fQ,jU,e58,e65,p73]
    have hF2:(lQ l.length (fun s=>iR (aX st li rv) note t l s) s).1=0→s3=(lQ l.length (fun s=>iR (aX st li rv) note t l s) s).2:=fun h=>absurd (hF1.symm.trans h) p73;exact kP H (SR fun _ ql=>Rm rfl (ak ql rfl (LR results129 rfl fun H=>H.hp.gT (L':=fJ b ms ml mr mb mu s3.n :: (mb,fH (fM s3.bL)) :: L) (by repeat (first|exact iN _|apply List.Sublist.cons)) ⟨s3,aF vi hF1.symm,rfl,hF2⟩)))
   intro NM a H
   try have p73:=dF NM
   have MV:(jy (aX st li rv) false note t y.flow ⟨s2.n,jT s2.bL y.id⟩).1=0:=jJ.1 p73;obtain ⟨hu1,hu2⟩:=LK (aX st li rv) false note t y.flow ⟨s2.n,jT s2.bL y.id⟩;rw [← h3 MV] at hu1 hu2;dsimp only at hu1 hu2
   have hS:fQ (fQ (fQ (jU s2 y.id) fun s=>fQ (iI (aX st li rv) 10 y.head,s) fun s=>jy (aX st li rv) false note t y.flow s) fun s=>rJ (aX st li rv) note t (l[k].cells.drop (c+1)) s) (fun s=>iR (aX st li rv) note t (l.drop (k+1)) s)=fQ (rJ (aX st li rv) note t (l[k].cells.drop (c+1)) s3) (fun s=>iR (aX st li rv) note t (l.drop (k+1)) s):=by
    rw [h3 MV];simp [fQ,jU,e58,e65,MV]
   refine kP H (Kc gq (SC (Rd rfl (Rm rfl ?_))));clear H gq;intro a H;refine aI ?_;refine cK ((c+1,s3,g2)) (by exact (H.dV (Pl:=[_,_,_,_,_]) (dz:=[_,_,_,_]) [1,2,3,4] (by decide) rfl).sub ⟨rfl,rfl,rfl,rfl,rfl,rfl,rfl,rfl,aD⟩) ?_ ?_
   ·(try dsimp only);exact ⟨by omega,J6,hR2.trans hS,by omega,by omega⟩
   first|omega|(dsimp only;omega)
  intro h50 a H
  try have p50:=dF h50
  refine dQ ?_;refine bJ _ _ ?_;clear bJ;refine kP H (SC (Rd rfl (Rm rfl ?_)));clear H;intro a H;refine aI ?_;refine cK ((k+1,s2,g2)) (by exact (H.dV (Pl:=[_,_,_,_]) (dz:=[_,_,_]) [1,2,3] (by decide) rfl).sub ⟨rfl,rfl,rfl,rfl,rfl,aD⟩) ?_ ?_
  ·(try dsimp only);exact ⟨by omega,oK,by rw [hR2,iq (by omega),rJ,Gj rfl],hm0,by omega⟩
  first|omega|(dsimp only;omega)
 intro dY a H
 try have kG:=dF dY
 refine dQ ?_;refine K8 _ _ ?_;clear K8;refine bG (fun _ sJ=>?_)
 have hF1:(lQ l.length (fun s=>iR (aX st li rv) note t l s) s).1=0:=by rw [hE,hR,iq (by omega),iR]
 have hF2:(lQ l.length (fun s=>iR (aX st li rv) note t l s) s).1=0→s1=(lQ l.length (fun s=>iR (aX st li rv) note t l s) s).2:=fun h=>by rw [hE,hR,iq (by omega),iR]
 exact kP H (SC (aV sJ rfl (LR results129 rfl fun H=>H.hp.gT (L':=fJ b ms ml mr mb mu s1.n :: (mb,fH (fM s1.bL)) :: L) (by repeat (first|exact iN _|apply List.Sublist.cons)) ⟨s1,aF vi hF1.symm,rfl,hF2⟩)))
end
section
open Go.RowKit
theorem acE:∀ args w,(callFunc 129 args).run prog w=.ok (.enter 129 args) w:=enters func129 rfl (by kernel_rfl)
theorem acD:∀ args w,(callFunc 127 args).run prog w=.ok (.enter 127 args) w:=enters func127 rfl (by kernel_rfl)
theorem CV:bY prog 147 5 5:=⟨by kernel_rfl⟩
theorem aen:bY prog 106 0 0:=⟨by kernel_rfl⟩
theorem aiH {G:GH} {b:Nat} {x:Int} (h:G b=some (.cells #[vi x] 56 (0,0))):av G (.sl 1 ([x].map fun k=>[li k])) (.slice (some ⟨b,0,none⟩) 1 1):=DI [x] h (show 1≤maxLen by decide)
theorem ahw {m:Nat} (ih:Eo m) (hm:m≤4294967296) (Gt:GH) (L:OL) (w0:World) (st:List bR) (li:List fV) (rv:List fG) (b ms ml mr mb mu:Nat) (s:CS) (x:ay) (p d y f r:aj) (body note:Bool) (t:Int)
  (hck:tH Gt st li rv ms ml mr mu) (hO:gX Gt (fJ b ms ml mr mb mu s.n :: (mb,fH (fM s.bL)) :: L) w0) (hh:jI Gt x.head p d y) (hf:av Gt (.sl 11 (x.flow.map ay.dat)) f) (hr:av Gt (.sl 6 (x.rows.map bP.dat)) r) (hz:dw x.dat≤m) (ht0:0≤t) (Dy:t≤4) (hs0:0≤s.n) (hs1:s.n+(dw x.dat:Nat)≤1099511627776) :
  Calls prog 95 #[(aJ b 0),.agg #[vi x.kind,vi x.code,vi x.id,.string x.text,p,vi x.head.marks.ins,vi x.head.marks.move,d,y,f,r],.agg #[.bool body,.bool note,vi t]] w0 (gH w0 Gt (fJ b ms ml mr mb mu s.n :: (mb,fH (fM s.bL)) :: L) fun u G' L'=>IW b ms ml mr mb mu L (eY (aX st li rv) body note t x s) u L'):=by
 obtain ⟨pA,pn,pc,rfl⟩:=hh.props.form;obtain ⟨dA,dn,dc,rfl⟩:=hh.dh.form;obtain ⟨lA,ln,lc,rfl⟩:=hh.layers.form;obtain ⟨fA,fc,rfl,-⟩:=hf.slice;obtain ⟨rA,rc,rfl,-⟩:=hr.slice;(iterate 2 rw [bU] at *);have hxz:=nU x;have hcl:=Gw x.text
 have Dz:eD x≤x.text.size+1:=by unfold eD;split <;> omega
 have hE:=Po (aX st li rv) body note t x s;refine kg (N:=117) (T:=[(0,_),(1,_),(2,_)]) func95 rfl ntmps95 rfl rfl hO ?_;intro a H;refine dH (fun _ K1=>?_);refine fq (cs:=[_,_,_,_,_,_,_,_,_,_,_]) H wn rfl rfl rfl ?_;clear H;intro b4 a w hb4 H;refine fq (cs:=[_,_,_]) H wn rfl rfl rfl ?_;clear H;intro b5 a w hb5 H;refine kH H (ak K1 rfl (SQ fun _ K2=>SR fun _ K3=>?_));clear H K1;intro a H;refine bK dx (cs:=[_,_,_,_,_,_,_,_,_,_,_]) H wn rfl rfl (H.hp.eF 1 rfl rfl) rfl ?_;clear H;intro a H;refine s_call acD H wn rfl (aeX _ _ H.ro x _ _ _ _ _ _ _ (by omega)) rfl ?_;clear H;rintro v15 _ a w ⟨rfl,rfl⟩ - H;refine kH H (ak K3 rfl (SR fun _ K4=>Rm rfl (Rc rfl (Kz K4 (Cd rfl ?_ ?_))))) <;> clear H K3 K4
 ·intro eu a H
  try have mI:=dT eu
  rw [Jm (r:=(kK x,s)) mI] at hE;exact kP H (SR fun _ K5=>Rm rfl (ak K5 rfl (LR results95 rfl fun H=>H.hp.gT (L':=fJ b ms ml mr mb mu s.n :: (mb,fH (fM s.bL)) :: L) (by repeat (first|exact iN _|apply List.Sublist.cons)) ⟨s,by rw [hE],rfl,fun h=>by rw [hE]⟩)))
 intro eu a H
 try have mI:=dF eu
 rw [Gj (r:=(kK x,s)) (jJ.1 mI)] at hE;dsimp only at hE;refine kP H (Kc K2 (SR fun _ K6=>Rm rfl (Rk rfl (aW CV aH 2 rfl rfl (Rd rfl (Rk rfl (Rf CV rfl ?_)))))));clear H K2;intro a H;refine bM aH 2 (vs:=[_]) _ H wn rfl rfl rfl rfl rfl rfl rfl rfl ?_;clear H;intro w H;dsimp only [List.set,setRow] at H;refine K6 _ _ ?_;clear K6;refine qy (ι:=CS × GH) (Tc:=[(0,_),(4,_),(5,_)]) (Lc:=[(_,_),(_,_)]) (fun gh=>[]) (fun gh=>[fJ b ms ml mr mb mu gh.1.n,(mb,fH (fM gh.1.bL))]++L) (fun gh=>gh.2) (fun gh=>kI body note t x.kind x.id ⟨s.n+(eD x:Nat),s.bL⟩=(0,gh.1)∧(∀ b o,Gt b=some o→gh.2 b=some o)∧gh.1.n=s.n+(eD x:Nat)∧(x.kind=7→t < 4)) (by exact (H).sub ⟨rfl,rfl,rfl,aD⟩) ?_ ?_
 ·skip;refine kP H (SR fun _ K7=>aW jD aH 1 rfl rfl (Kz K7 (SB (SR fun _ K8=>Rc rfl (ak K8 rfl (Cd rfl ?_ ?_)))))) <;> clear H K7 K8
  ·intro fE a H
   try have p28:=dT fE
   have hu:((eD x:Nat):Int)=vY x.text:=by rw [eD,au p28]
   refine kP H (SR fun _ K9=>aW tZ gG 1 rfl rfl ?_);clear H;intro a H;refine s_call Nh H wn rfl (MN _ _ H.ro x.text (by omega)) rfl ?_;clear H;rintro v33 _ a w ⟨rfl,rfl⟩ - H;refine kH H (Rm rfl ?_);clear H;intro a H;(iterate 2 refine jN H wn rfl rfl rfl ?_;clear H;intro a H);refine kH H (Ra rfl (ak K9 rfl (SC (Rm rfl (Rk rfl (aW CV aH 2 rfl rfl (Rm rfl (Rs rfl (Rd rfl ?_)))))))));clear H K9;intro a H;rw [show s.n+1+((vY x.text:Int) - 1)=s.n+(eD x:Nat) by omega] at H;refine kH H (Rk rfl (Rf CV rfl ?_));clear H;intro a H;refine bM aH 2 (vs:=[_]) _ H wn rfl rfl rfl rfl rfl rfl rfl rfl ?_;clear H;intro w H;dsimp only [List.set,setRow] at H;refine aI ?_;refine ⟨(⟨s.n+(eD x:Nat),s.bL⟩,Gt),by exact (H).sub ⟨rfl,rfl,rfl,aD⟩,?_⟩;(try dsimp only)
   first
   | exact ⟨by simp_all [kI,cu,fQ,jU],fun _ _ h=>h,rfl,fun h7=>by first|omega|(exfalso;simp_all)⟩
   | exact ⟨by simp_all [kI,cu,fQ,jU],uw,rfl,fun h7=>by first|omega|(exfalso;simp_all)⟩
  intro fE a H
  try have p28:=dF fE
  have hu:((eD x:Nat):Int)=1:=by rw [eD,ah p28];rfl
  rw [show s.n+1=s.n+((eD x:Nat):Int) by omega] at H;refine kP H (SR fun _ aT=>Rc rfl (ak aT rfl (Cd rfl ?_ ?_))) <;> clear H aT
  ·intro h45 a H
   try have p45:=dT h45
   refine kP H (SR fun _ bC=>aW aen yg 0 rfl rfl (Rn rfl (Kz bC (Cd rfl ?_ ?_)))) <;> clear H bC
   ·intro JR a H
    try have p49:=dT JR
    refine bG (fun _ bJ=>?_)
    have hF1:(eY (aX st li rv) body note t x s).1=19:=by rw [hE];simp [fQ,kI,p45,cu,JR]
    have hF2:(eY (aX st li rv) body note t x s).1=0→(⟨s.n+(eD x:Nat),s.bL⟩:CS)=(eY (aX st li rv) body note t x s).2:=fun h=>absurd (hF1.symm.trans h) (by decide);exact kP H (SC (aV bJ rfl (LR results95 rfl fun H=>H.hp.gT (L':=fJ b ms ml mr mb mu (s.n+(eD x:Nat)) :: (mb,fH (fM (s.bL))) :: L) (by repeat (first|exact iN _|apply List.Sublist.cons)) ⟨⟨s.n+(eD x:Nat),s.bL⟩,aF vi hF1.symm,rfl,hF2⟩)))
   intro JR a H
   try have p49:=dF JR
   refine fT ?_;refine ⟨(⟨s.n+(eD x:Nat),s.bL⟩,Gt),by exact (H).sub ⟨rfl,rfl,rfl,aD⟩,?_⟩;(try dsimp only)
   first
   | exact ⟨by simp_all [kI,cu,fQ,jU],fun _ _ h=>h,rfl,fun h7=>by first|omega|(exfalso;simp_all)⟩
   | exact ⟨by simp_all [kI,cu,fQ,jU],uw,rfl,fun h7=>by first|omega|(exfalso;simp_all)⟩
  intro h45 a H
  try have p45:=dF h45
  refine kP H (SR fun _ bT=>Rc rfl (ak bT rfl (Cd rfl ?_ ?_))) <;> clear H bT
  ·intro h50 a H
   try have p50:=dT h50
   refine kP H (SQ fun _ bS=>SR fun _ dD=>aW Nl yg 0 rfl rfl ?_);clear H;intro a H;refine s_call iZ H wn rfl (jf _ _ H.ro _ 19) rfl ?_;clear H;rintro v54 _ a w ⟨rfl,rfl⟩ - H;refine gU ou gF [_] [_] H wn rfl rfl rfl rfl rfl (by intro i q h;match i,h with|0,h=>exact h|n+1,h=>simp at h) rfl rfl ?_;clear H;intro b55 a w alO H;obtain ⟨Ja,uw,afP,H⟩:=H.dS;refine s_call pK H wn rfl (pR _ _ H.ro _ _ (aiH afP)) rfl ?_;clear H;rintro v56 _ a w ⟨rfl,rfl⟩ - H;refine kH H (ak dD rfl (SR fun _ dM=>Rm rfl (Rc rfl (Kz dM (Cd rfl ?_ ?_))))) <;> clear H dD dM
   ·intro jL a H
    try have p58:=dT jL
    have e58:cu note 19≠0:=fun h=>p58 (by rw [h];rfl)
    have ahe:dK [cu note 19]=cu note 19:=by simp [dK,e58]
    rw [ahe] at H
    have hF1:(eY (aX st li rv) body note t x s).1=cu note 19:=by rw [hE];simp [fQ,kI,p50,e58]
    have hF2:(eY (aX st li rv) body note t x s).1=0→(⟨s.n+(eD x:Nat),s.bL⟩:CS)=(eY (aX st li rv) body note t x s).2:=fun h=>absurd (hF1.symm.trans h) (e58);exact kP H (SR fun _ cZ=>Rm rfl (ak cZ rfl (LR results95 rfl fun H=>H.hp.gT (L':=fJ b ms ml mr mb mu (s.n+(eD x:Nat)) :: (mb,fH (fM (s.bL))) :: L) (by repeat (first|exact iN _|apply List.Sublist.cons)) ⟨⟨s.n+(eD x:Nat),s.bL⟩,aF vi hF1.symm,rfl,hF2⟩)))
   intro jL a H
   try have p58:=dF jL
   have e58:cu note 19=0:=Decidable.byContradiction fun h=>p58 (by simp [dK,h]);refine kP H (Kc bS (SR fun _ dW=>Rm rfl (aW yO aH 1 rfl rfl ?_)));clear H bS;intro a H;refine gV M4 (Li:=[_,_]) (L:=fJ b ms ml mr mb mu _ :: (mb,fH (fM s.bL)) :: L) H wn rfl (MH _ _ _ st li rv b ms ml mr mb mu _ s.bL x.id (hck.mono uw) (Hp.owns (Li:=[_,_]) H.hp)) rfl ?_;clear H;rintro v63 _ _ a w ⟨rfl,rfl,rfl⟩ - H;dsimp only [lca,bD] at H;refine kH H (ak dW rfl (SR fun _ fZ=>Rm rfl (Rc rfl (Kz fZ (Cd rfl ?_ ?_))))) <;> clear H dW fZ
   ·intro qN a H
    try have p65:=dT qN
    have hF1:(eY (aX st li rv) body note t x s).1=pV s.bL x.id:=by rw [hE];simp [fQ,kI,p50,e58,jU,p65]
    have hF2:(eY (aX st li rv) body note t x s).1=0→(⟨s.n+(eD x:Nat),jT s.bL x.id⟩:CS)=(eY (aX st li rv) body note t x s).2:=fun h=>absurd (hF1.symm.trans h) (p65);exact kP H (SR fun _ eG=>Rm rfl (ak eG rfl (LR results95 rfl fun H=>H.hp.gT (L':=fJ b ms ml mr mb mu (s.n+(eD x:Nat)) :: (mb,fH (fM (jT s.bL x.id))) :: L) (by repeat (first|exact iN _|apply List.Sublist.cons)) ⟨⟨s.n+(eD x:Nat),jT s.bL x.id⟩,aF vi hF1.symm,rfl,hF2⟩)))
   intro qN a H
   try have p65:=dF qN
   have e65:pV s.bL x.id=0:=jJ.1 p65;refine fT ?_;refine ⟨(⟨s.n+(eD x:Nat),jT s.bL x.id⟩,Ja),by exact (H).sub ⟨rfl,rfl,rfl,aD⟩,?_⟩;(try dsimp only)
   first
   | exact ⟨by simp_all [kI,cu,fQ,jU],fun _ _ h=>h,rfl,fun h7=>by first|omega|(exfalso;simp_all)⟩
   | exact ⟨by simp_all [kI,cu,fQ,jU],uw,rfl,fun h7=>by first|omega|(exfalso;simp_all)⟩
  intro h50 a H
  try have p50:=dF h50
  refine kP H (SR fun _ gq=>Rc rfl (ak gq rfl (Cd rfl ?_ ?_))) <;> clear H gq
  ·intro NJ a H
   try have p67:=dT NJ
   refine kP H (SQ fun _ iB=>SR fun _ jv=>aW GJ aH 0 rfl rfl (Rc rfl (Kz jv (Cd rfl ?_ ?_)))) <;> clear H jv
   ·intro NK a H
    try have p71:=dT NK
    refine bG (fun _ jB=>?_)
    have hF1:(eY (aX st li rv) body note t x s).1=17:=by rw [hE];simp [fQ,kI,p67,cu,p71]
    have hF2:(eY (aX st li rv) body note t x s).1=0→(⟨s.n+(eD x:Nat),s.bL⟩:CS)=(eY (aX st li rv) body note t x s).2:=fun h=>absurd (hF1.symm.trans h) (by decide);exact kP H (SC (aV jB rfl (LR results95 rfl fun H=>H.hp.gT (L':=fJ b ms ml mr mb mu (s.n+(eD x:Nat)) :: (mb,fH (fM (s.bL))) :: L) (by repeat (first|exact iN _|apply List.Sublist.cons)) ⟨⟨s.n+(eD x:Nat),s.bL⟩,aF vi hF1.symm,rfl,hF2⟩)))
   intro NK a H
   try have p71:=dF NK
   have e71:¬ 4≤t:=by omega
   refine kP H (Kc iB (SR fun _ iX=>Rm rfl (aW yO aH 1 rfl rfl ?_)));clear H iB;intro a H;refine gV M4 (Li:=[_,_]) (L:=fJ b ms ml mr mb mu _ :: (mb,fH (fM s.bL)) :: L) H wn rfl (MH _ _ _ st li rv b ms ml mr mb mu _ s.bL x.id hck (Hp.owns (Li:=[_,_]) H.hp)) rfl ?_;clear H;rintro v75 _ _ a w ⟨rfl,rfl,rfl⟩ - H;dsimp only [lca,bD] at H;refine kH H (ak iX rfl (SR fun _ kD=>Rm rfl (Rc rfl (Kz kD (Cd rfl ?_ ?_))))) <;> clear H iX kD
   ·intro Dc a H
    try have Fq:=dT Dc
    have hF1:(eY (aX st li rv) body note t x s).1=pV s.bL x.id:=by rw [hE];simp [fQ,kI,p67,cu,e71,jU,Fq]
    have hF2:(eY (aX st li rv) body note t x s).1=0→(⟨s.n+(eD x:Nat),jT s.bL x.id⟩:CS)=(eY (aX st li rv) body note t x s).2:=fun h=>absurd (hF1.symm.trans h) (Fq);exact kP H (SR fun _ kZ=>Rm rfl (ak kZ rfl (LR results95 rfl fun H=>H.hp.gT (L':=fJ b ms ml mr mb mu (s.n+(eD x:Nat)) :: (mb,fH (fM (jT s.bL x.id))) :: L) (by repeat (first|exact iN _|apply List.Sublist.cons)) ⟨⟨s.n+(eD x:Nat),jT s.bL x.id⟩,aF vi hF1.symm,rfl,hF2⟩)))
   intro Dc a H
   try have Fq:=dF Dc
   have e77:pV s.bL x.id=0:=jJ.1 Fq;refine fT ?_;refine ⟨(⟨s.n+(eD x:Nat),jT s.bL x.id⟩,Gt),by exact (H).sub ⟨rfl,rfl,rfl,aD⟩,?_⟩;(try dsimp only)
   first
   | exact ⟨by simp_all [kI,cu,fQ,jU],fun _ _ h=>h,rfl,fun h7=>by first|omega|(exfalso;simp_all)⟩
   | exact ⟨by simp_all [kI,cu,fQ,jU],uw,rfl,fun h7=>by first|omega|(exfalso;simp_all)⟩
  intro NJ a H
  try have p67:=dF NJ
  refine kP H (SR fun _ jC=>Rc rfl (ak jC rfl (Cd rfl ?_ ?_))) <;> clear H jC
  ·intro Bz a H
   try have P8:=dT Bz
   refine kP H (SR fun _ oz=>aW yO aH 1 rfl rfl ?_);clear H;intro a H;refine s_call uV H wn rfl (vo _ _ H.ro x.id 1 1073741824) rfl ?_;clear H;rintro v83 _ a w ⟨rfl,rfl⟩ - H;refine kH H (Rn rfl (Kz oz (Cd rfl ?_ ?_))) <;> clear H oz
   ·intro h84 a H
    try have p84:=dT h84
    refine bG (fun _ oZ=>?_)
    have e84:¬ (1≤x.id∧x.id≤1073741824):=by have h0:=h84;simp at h0;omega
    have hF1:(eY (aX st li rv) body note t x s).1=18:=by rw [hE];simp [fQ,kI,P8,cu,e84]
    have hF2:(eY (aX st li rv) body note t x s).1=0→(⟨s.n+(eD x:Nat),s.bL⟩:CS)=(eY (aX st li rv) body note t x s).2:=fun h=>absurd (hF1.symm.trans h) (by decide);exact kP H (SC (aV oZ rfl (LR results95 rfl fun H=>H.hp.gT (L':=fJ b ms ml mr mb mu (s.n+(eD x:Nat)) :: (mb,fH (fM (s.bL))) :: L) (by repeat (first|exact iN _|apply List.Sublist.cons)) ⟨⟨s.n+(eD x:Nat),s.bL⟩,aF vi hF1.symm,rfl,hF2⟩)))
   intro h84 a H
   try have p84:=dF h84
   refine fT ?_;refine ⟨(⟨s.n+(eD x:Nat),s.bL⟩,Gt),by exact (H).sub ⟨rfl,rfl,rfl,aD⟩,?_⟩;(try dsimp only)
   first
   | exact ⟨by simp_all [kI,cu,fQ,jU],fun _ _ h=>h,rfl,fun h7=>by first|omega|(exfalso;simp_all)⟩
   | exact ⟨by simp_all [kI,cu,fQ,jU],uw,rfl,fun h7=>by first|omega|(exfalso;simp_all)⟩
  intro Bz a H
  try have P8:=dF Bz
  refine fT ?_;refine ⟨(⟨s.n+(eD x:Nat),s.bL⟩,Gt),by exact (H).sub ⟨rfl,rfl,rfl,aD⟩,?_⟩;(try dsimp only)
  first
  | exact ⟨by simp_all [kI,cu,fQ,jU],fun _ _ h=>h,rfl,fun h7=>by first|omega|(exfalso;simp_all)⟩
  | exact ⟨by simp_all [kI,cu,fQ,jU],uw,rfl,fun h7=>by first|omega|(exfalso;simp_all)⟩
 clear H;intro gh a w hI H;obtain ⟨s1,g⟩:=gh;dsimp only at hI H;obtain ⟨hP,vk,amj,ht7⟩:=hI;rw [hP,Gj rfl] at hE;dsimp only at hE;replace hck:=hck.mono vk;replace hh:=hh.mono vk;replace hf:=hf.mono vk;replace hr:=hr.mono vk;dsimp only [lca,bD] at H;refine kP H (SQ fun _ qj=>SR fun _ qJ=>Rm rfl (aW jD aH 1 rfl rfl (Rf Bq rfl ?_)));clear H;intro a H;refine bK qG (cs:=[_,_,_,_,_]) H wn rfl rfl (H.hp.eF 1 rfl rfl) rfl ?_;clear H;intro a H;refine gV EH (Li:=[_,_]) (L:=fJ b ms ml mr mb mu s1.n :: (mb,fH (fM s1.bL)) :: L) H wn rfl (EU _ _ _ st li rv b ms ml mr mb mu _ hck (Hp.owns (Li:=[_,_]) H.hp) x.kind x.head _ _ _ hh (by omega)) rfl ?_;clear H;rintro v90 _ _ a w ⟨rfl,rfl,rfl⟩ - H;dsimp only [lca,bD] at H;refine kH H (ak qJ rfl (SR fun _ ql=>Rm rfl (Rc rfl (Kz ql (Cd rfl ?_ ?_))))) <;> clear H qJ ql
 ·intro NS a H
  try have KJ:=dT NS
  have hF1:(eY (aX st li rv) body note t x s).1=iI (aX st li rv) x.kind x.head:=by rw [hE,Jm (r:=(iI (aX st li rv) x.kind x.head,s1)) KJ]
  have hF2:(eY (aX st li rv) body note t x s).1=0→s1=(eY (aX st li rv) body note t x s).2:=fun h=>absurd (hF1.symm.trans h) KJ;exact kP H (SR fun _ sJ=>Rm rfl (ak sJ rfl (LR results95 rfl fun H=>H.hp.gT (L':=fJ b ms ml mr mb mu (s1.n) :: (mb,fH (fM (s1.bL))) :: L) (by repeat (first|exact iN _|apply List.Sublist.cons)) ⟨s1,aF vi hF1.symm,rfl,hF2⟩)))
 intro NS a H
 try have KJ:=dF NS
 rw [Gj (r:=(iI (aX st li rv) x.kind x.head,s1)) (jJ.1 KJ)] at hE;dsimp only at hE;refine kP H (Kc qj (SQ fun _ uM=>SR fun _ rE=>aW jD aH 1 rfl rfl (Kz rE (SB (SR fun _ wN=>Rc rfl (ak wN rfl (Cd rfl ?_ ?_))))))) <;> clear H qj rE wN
 ·intro qP a H
  try have Im:=dT qP
  rw [au Im] at hE;refine kP H (SR fun _ Cx=>Rm rfl (aW wW gW 1 rfl rfl (aW GJ aH 0 rfl rfl ?_)));clear H;intro a H;refine ku Cb [_,_,_] H wn rfl rfl rfl rfl ?_;clear H;intro a H;refine gV GD (Li:=[_,_]) (L:=fJ b ms ml mr mb mu s1.n :: (mb,fH (fM s1.bL)) :: L) H wn rfl (ih _ _ _ st li rv b ms ml mr mb mu s1 x.flow _ false true t hck (Hp.owns (Li:=[_,_]) H.hp) hf (by omega) ht0 Dy (by omega) (by omega)) rfl ?_;clear H;rintro amy _ _ a w ⟨rfl,s3,rfl,rfl,h3⟩ - H;dsimp only [lca,bD] at H
  have hF1:(eY (aX st li rv) body note t x s).1=(jy (aX st li rv) false true t x.flow s1).1:=by rw [hE]
  have hF2:(eY (aX st li rv) body note t x s).1=0→s3=(eY (aX st li rv) body note t x s).2:=by rw [hE];exact h3
  exact kH H (ak Cx rfl (LR results95 rfl fun H=>H.hp.gT (L':=fJ b ms ml mr mb mu (s3.n) :: (mb,fH (fM (s3.bL))) :: L) (by repeat (first|exact iN _|apply List.Sublist.cons)) ⟨s3,aF vi hF1.symm,rfl,hF2⟩))
 intro qP a H
 try have Im:=dF qP
 rw [ah Im] at hE;refine kP H (SR fun _ Cy=>Rc rfl (ak Cy rfl (Cd rfl ?_ ?_))) <;> clear H Cy
 ·intro pU a H
  try have Fp:=dT pU
  rw [au Fp] at hE;refine kP H (SR fun _ pq=>Rm rfl (aW oH oQ 1 rfl rfl (aW Nl yg 0 rfl rfl (aW GJ aH 0 rfl rfl (Rd rfl ?_)))));clear H;intro a H;refine ku Cb [_,_,_] H wn rfl rfl rfl rfl ?_;clear H;intro a H;refine gV acE (Li:=[_,_]) (L:=fJ b ms ml mr mb mu s1.n :: (mb,fH (fM s1.bL)) :: L) H wn rfl (rows_ok ih hm _ _ _ st li rv b ms ml mr mb mu s1 x.rows _ note (t+1) hck (Hp.owns (Li:=[_,_]) H.hp) hr (by omega) (by omega) (by have:=ht7 Fp;omega) (by omega) (by omega)) rfl ?_;clear H;rintro amA _ _ a w ⟨s3,rfl,rfl,h3⟩ - H;dsimp only [lca,bD] at H
  have hF1:(eY (aX st li rv) body note t x s).1=(lQ x.rows.length (fun s=>iR (aX st li rv) note (t+1) x.rows s) s1).1:=by rw [hE]
  have hF2:(eY (aX st li rv) body note t x s).1=0→s3=(eY (aX st li rv) body note t x s).2:=by rw [hE];exact h3
  exact kH H (ak pq rfl (LR results95 rfl fun H=>H.hp.gT (L':=fJ b ms ml mr mb mu (s3.n) :: (mb,fH (fM (s3.bL))) :: L) (by repeat (first|exact iN _|apply List.Sublist.cons)) ⟨s3,aF vi hF1.symm,rfl,hF2⟩))
 intro pU a H
 try have Fp:=dF pU
 rw [ah Fp] at hE
 have hF1:(eY (aX st li rv) body note t x s).1=0:=by rw [hE]
 have hF2:(eY (aX st li rv) body note t x s).1=0→s1=(eY (aX st li rv) body note t x s).2:=fun h=>by rw [hE]
 exact kP H (Kc uM (SR fun _ Er=>ak Er rfl (LR results95 rfl fun H=>H.hp.gT (L':=fJ b ms ml mr mb mu (s1.n) :: (mb,fH (fM (s1.bL))) :: L) (by repeat (first|exact iN _|apply List.Sublist.cons)) ⟨s1,aF vi hF1.symm,rfl,hF2⟩)))
end
section
open Go.RowKit
theorem adS:∀ args w,(callFunc 95 args).run prog w=.ok (.enter 95 args) w:=enters func95 rfl (by kernel_rfl)
theorem adR:∀ args w,(callFunc 94 args).run prog w=.ok (.enter 94 args) w:=enters func94 rfl (by kernel_rfl)
def Rt (fv:aj) (Gi:GH) (n:Nat) (E:Nat→Int) {σ:Type} (B:σ→OL) (S:Nat→σ):Prop:=∀ i,i < n→∀ (G1:GH) (w1:World),(∀ b o,Gi b=some o→G1 b=some o)→gX G1 (B (S i)) w1 →
 sH prog fv [vi i] w1 (gH w1 G1 (B (S i)) fun u G' L'=>∃ s,u=vi (E i)∧L'=B s∧(E i=0→s=S (i+1)))
theorem aam (G:GH) (w0:World) {σ:Type} (B:σ→OL) (S:Nat→σ) (n:Nat) (E:Nat→Int) (fv:aj) (hO:gX G (B (S 0)) w0) (hn:n≤4611686018427387904) (hf:Rt fv G n E B S) :
  Calls prog 84 #[vi n,fv] w0 (gH w0 G (B (S 0)) fun u G' L'=>∃ s,u=vi (kE E n)∧L'=B s∧(kE E n=0→s=S n)):=by
 refine kg (N:=18) (T:=[(0,_),(1,_)]) func84 rfl ntmps84 rfl rfl hO ?_;intro a H;refine kP H (SR fun _ K1=>ak K1 rfl (SQ fun _ K2=>SR fun _ K3=>Rm rfl (Rm rfl (Kz K3 (SB ?_)))));clear H K1 K3;intro a H;skip;refine eU (ι:=Nat × GH) (Tc:=[(1,_),(7,_)]) (Lc:=[]) (fun gh=>[(8,vi gh.1)]) (fun gh=>[]++B (S gh.1)) (fun gh=>gh.2) (fun gh=>gh.1≤n∧dK (((List.range n).map E).drop gh.1)=kE E n∧(∀ b o,G b=some o→gh.2 b=some o)) (fun gh=>n - gh.1) ((0,G)) (by exact (H).sub ⟨rfl,rfl,rfl,aD⟩) ?_ ?_
 ·exact ⟨ig _,rfl,fun _ _ h=>h⟩
 clear H;intro gh a w hI H;obtain ⟨k,g⟩:=gh;dsimp only at hI H;obtain ⟨hk,he,hgm⟩:=hI;dsimp only [lca,bD] at H;refine kP H (SR fun _ K4=>Rc rfl (Kz K4 (SQ fun _ K5=>Cd rfl ?_ ?_))) <;> clear H K4
 ·intro h9 a H
  try have p9:=dT h9
  have hk2:k < n:=by omega
  refine kP H (Kc K5 (SQ fun _ K6=>SB (SR fun _ K7=>Rm rfl (ak K7 rfl (SR fun _ K8=>Rm rfl (Rm rfl ?_))))));clear H K5 K7;intro a H;refine FB (Li:=[]) (L:=B (S k)) H wn rfl rfl (hf k hk2 _ _ hgm (Hp.owns (Li:=[]) H.hp)) rfl ?_;clear H;rintro v13 FV L13 a w ⟨s3,rfl,rfl,h3⟩ J9 H;refine kH H (ak K8 rfl (SR fun _ K9=>Rm rfl (Rc rfl (Kz K9 (Cd rfl ?_ ?_))))) <;> clear H K8 K9
  ·intro nZ a H
   try have tq:=dT nZ
   have hE:kE E n=E k:=by rw [CO hk2,au tq] at he;exact he.symm
   exact kP H (SR fun _ aT=>Rm rfl (ak aT rfl (LR results84 rfl fun H=>H.hp.eP ⟨s3,by rw [hE],rfl,fun h=>absurd (hE.symm.trans h) tq⟩)))
  intro nZ a H
  try have tq:=dF nZ
  have hS:=h3 (jJ.1 tq);subst hS;refine kP H (Kc K6 (SC (Rd rfl (Rm rfl ?_))));clear H K6;intro a H;refine aI ?_;refine cK ((k+1,FV)) (by exact (H).sub ⟨rfl,rfl,rfl,aD⟩) ?_ ?_
  ·(try dsimp only);exact ⟨by omega,by rw [CO hk2,ah tq] at he;exact he,fun b o h=>J9 b o (hgm b o h)⟩
  first|omega|(dsimp only;omega)
 intro h9 a H
 try have p9:=dF h9
 refine dQ ?_;refine K2 _ _ ?_;clear K2;exact kP H (SR fun _ bC=>ak bC rfl (LR results84 rfl fun H=>H.hp.eP ⟨S n,aF vi (by rw [iq (by simp;omega)] at he;exact he),by rw [show k=n by omega],fun _=>rfl⟩))
abbrev Jz (b ms ml mr mb mu:Nat) (L:OL) (s:CS):OL:=fJ b ms ml mr mb mu s.n :: (mb,fH (fM s.bL)) :: L
theorem ahv {m:Nat} (ih:Eo m) (hm:m≤4294967296) {G:GH} {L:OL} {st:List bR} {li:List fV} {rv:List fG} {b ms ml mr mb mu:Nat} {s:CS} {l:List ay} {v:aj} {body note:Bool} {t:Int} {x3 x4 x5:Nat}
  (hck:tH G st li rv ms ml mr mu) (h3:aL G x3 0=some (aJ b 0)) (h4:aL G x4 0=some v) (h5:∀ (j:Nat) (u:aj),[.bool body,.bool note,vi t][j]?=some u→aL G x5 (0+j)=some u)
  (hv:av G (.sl 11 (l.map ay.dat)) v) (hz:bq l≤m) (ht0:0≤t) (Dy:t≤4) (hs0:0≤s.n) (hs1:s.n+(bq l:Nat)≤1099511627776) :
  Rt (.func (.func 94) #[] #[(aJ x3 0),(aJ x4 0),(aJ x5 0)]) G l.length (zX (eY (aX st li rv) body note t) l s) (Jz b ms ml mr mb mu L) (oO (eY (aX st li rv) body note t) l s):=by
 intro k hk G1 w0 Ht hO;refine mo (caps:=[(aJ x3 0),(aJ x4 0),(aJ x5 0)]) adR ?_;replace h3:=aM Ht h3;replace h4:=aM Ht h4;replace h5:=fun j u hj=>aM Ht (h5 j u hj);replace hck:=hck.mono Ht;replace hv:=hv.mono Ht;obtain ⟨A,c,rfl,hc1,hc2,hg⟩:=hv.slice;rw [bU] at *;obtain ⟨o,xo,pA,pn,pc,dA,dn,dc,yA,yn,yc,fA,fn,fc,rA,rn,rc,rfl,hrow,hhd,hfl,hrw⟩:=wX hk hg;obtain ⟨hn0,hn1⟩:=YG (aX st li rv) body note t l s k (by omega)
 have hdz:bq (l.drop k)=1+dw l[k].dat+bq (l.drop (k+1)):=by
  simp only [bq];rw [kS hk,eT,eX]
 have DF:=Ei (iM hk)
 have hE:zX (eY (aX st li rv) body note t) l s k=(eY (aX st li rv) body note t l[k] (oO (eY (aX st li rv) body note t) l s k)).1:=by unfold zX;rw [gY hk]
 have hS:oO (eY (aX st li rv) body note t) l s (k+1)=(eY (aX st li rv) body note t l[k] (oO (eY (aX st li rv) body note t) l s k)).2:=by rw [oO,gY hk]
 rw [hE,hS]
 generalize oO (eY (aX st li rv) body note t) l s k=s1 at *
 refine kg (N:=13) (T:=[(0,_),(1,_),(2,_),(3,_)]) func94 rfl ntmps94 rfl rfl hO ?_;intro a H;refine kP H (SR fun _ K1=>ak K1 rfl (SQ fun _ K2=>?_));clear H K1;intro a H;refine dI hmx [[],[],[],[1,2],[1,2,3],[],(ra 0 6),(ra 0 7)] [6,7] (by kernel_rfl) [_,_,_,_,.agg #[vi l[k].kind,vi l[k].code,vi l[k].id,.string l[k].text,.slice pA pn pc,vi l[k].head.marks.ins,vi l[k].head.marks.move,.slice dA dn dc,.slice yA yn yc,.slice fA fn fc,.slice rA rn rc],.agg #[.bool body,.bool note,vi t]] H (aG (X0 rfl fun hG=>Rg FI rfl (aM hG h3)) (X0 rfl fun hG=>Rg gW rfl (aM hG h4)) (Z0 rfl (Rm rfl)) (Z2 1 7 2 8 rfl (Ri fU dx rfl rfl)) (aG ?_ ?_ (bN rfl) (bN rfl) bZ)) ?_
 ·refine dO 3 9 rfl rfl fun _ a w G1 hG HT H fin=>?_;refine bK dx (cs:=[_,_,_,_,_,_,_,_,_,_,_]) H wn rfl rfl (fun j v hj=>H.hp.aL (aM hG (hrow j v hj))) rfl ?_;clear H;intro a H;exact fin H iJ rfl
 ·refine uN rfl fun _ a w G1 hG HT H fin=>?_;refine bK Lm (cs:=[.bool body,.bool note,vi t]) H wn rfl rfl (fun j v hj=>H.hp.aL (aM hG (h5 j v hj))) rfl ?_;clear H;intro a H;exact fin H iJ rfl
 clear H;intro a w G ng H hv;have H:=H.aQ (hv 0 6 rfl rfl) rfl;have H:=H.aQ (hv 4 10 rfl rfl) rfl;have H:=H.aQ (hv 5 11 rfl rfl) rfl;clear hv;refine gV adS (Li:=[]) (L:=Jz b ms ml mr mb mu L s1) H wn rfl (ahw ih hm _ _ _ st li rv b ms ml mr mb mu s1 l[k] _ _ _ _ _ body note t (hck.mono ng) (Hp.owns (Li:=[]) H.hp) (hhd.mono ng) (hfl.mono ng) (hrw.mono ng) (by omega) ht0 Dy (by omega) (by omega)) rfl ?_;clear H;rintro v12 _ _ a w ⟨s3,rfl,rfl,h12⟩ - H;dsimp only [List.nil_append] at H;refine kH H (Ra rfl ?_);clear H;intro a H;refine aI ⟨rfl,?_⟩;refine K2 _ _ ?_;clear K2;refine lr H results94 rfl ?_;exact H.hp.eP ⟨s3,rfl,rfl,h12⟩
theorem ahz {m:Nat} (ih:Eo m) (hm:m≤4294967296):Eo (m+1):=by
 intro G L w0 st li rv b ms ml mr mb mu s l v body note t hck hO hv hz ht0 Dy hs0 hs1;obtain ⟨hA1,hA2⟩:=Wu (aX st li rv) body note t l s;refine Calls.aaA (R:=fun u G' L'=>IW b ms ml mr mb mu L (jy (aX st li rv) body note t l s) u L') ?_ fun _ _ _ h=>h;obtain ⟨A,c,rfl,hc1,hc2,-⟩:=hv.slice;rw [bU] at *;have hll:=zF l;refine kg (N:=11) (T:=[(0,_),(1,_),(2,_)]) func60 rfl ntmps60 rfl rfl hO ?_;intro a H;refine dH (fun _ K1=>?_);refine fq (cs:=[_]) H wn rfl rfl rfl ?_;clear H;intro b3 a w hb3 H;refine fq (cs:=[_]) H wn rfl rfl rfl ?_;clear H;intro b4 a w hb4 H;refine fq (cs:=[_,_,_]) H wn rfl rfl rfl ?_;clear H;intro b5 a w hb5 H;refine kH H (ak K1 rfl (SQ fun _ K2=>?_));clear H K1;intro a H;obtain ⟨ZP,Kg,yR,H⟩:=H.dS;obtain ⟨ZO,EZ,uo,H⟩:=H.dS;obtain ⟨Ga,BI,um,H⟩:=H.dS;replace yR:=BI _ _ (EZ _ _ yR);replace uo:=BI _ _ uo;have hma:∀ b o,G b=some o→Ga b=some o:=fun b o h=>BI _ _ (EZ _ _ (Kg _ _ h))
 have g3:aL Ga b3 0=some (aJ b 0):=by unfold aL;rw [um];rfl
 have g4:aL Ga b4 0=some (.slice A l.length c):=by unfold aL;rw [uo];rfl
 have g5:∀ (j:Nat) (u:aj),[.bool body,.bool note,vi t][j]?=some u→aL Ga b5 (0+j)=some u:=by
  intro j u hj;unfold aL;rw [yR];simpa using hj
 have hcb:=ahv (mb:=mb) (L:=L) (s:=s) ih hm (hck.mono hma) g3 g4 g5 (hv.mono hma) (by omega) ht0 Dy hs0 hs1;refine kP H (SC (Rg gW rfl (by assumption) ?_));clear H;intro a H;refine kH H (Rl fU rfl ?_);clear H;intro a H;refine qd H wn rfl rfl ?_;clear H;intro a H;refine gV EI (Li:=[]) (L:=Jz b ms ml mr mb mu L s) H wn rfl (aam _ _ (Jz b ms ml mr mb mu L) (oO (eY (aX st li rv) body note t) l s) l.length (zX (eY (aX st li rv) body note t) l s) _ (Hp.owns (Li:=[]) H.hp) (by omega) hcb) rfl ?_;clear H;rintro v10 _ _ a w ⟨s3,rfl,rfl,h10⟩ - H;dsimp only [List.nil_append] at H;exact kH H (aV K2 rfl (LR results60 rfl fun H=>H.hp.eP ⟨s3,by rw [hA1],rfl,fun h=>by rw [hA1] at h;exact (h10 h).trans (hA2 (hA1.trans h)).symm⟩))
theorem Kw:∀ m:Nat,m≤4294967297→Eo m
 | 0,_=>fun _ _ _ _ _ _ _ _ _ _ _ _ _ _ _ _ _ _ _ _ _ h=>absurd h (by omega)
 | m+1,hm=>ahz (Kw m (by omega)) (by omega)
end
section
open Go.RowKit
theorem aer:bY prog 176 1 1:=⟨by kernel_rfl⟩
theorem aes:bY prog 176 2 2:=⟨by kernel_rfl⟩
theorem adO:∀ args w,(callFunc 87 args).run prog w=.ok (.enter 87 args) w:=enters func87 rfl (by kernel_rfl)
theorem adN:∀ args w,(callFunc 85 args).run prog w=.ok (.enter 85 args) w:=enters func85 rfl (by kernel_rfl)
theorem ajy {G:GH} {bl:Nat} {l:List fG} {A:Option Addr} {n c:Nat} (hb:aL G bl 0=some (.slice A n c)) (hv:av G (.sl 3 (l.map fG.dat)) (.slice A n c)):rD (.func (.func 87) #[] #[(aJ bl 0)]) G l.length fun k=>(l[k]?.map fG.id).getD 0:=by
 intro k hk G1 w0 hm hG;refine mo (caps:=[(aJ bl 0)]) adO ?_;replace hb:=aM hm hb
 obtain rfl:n=l.length:=by have:=hv.len;simpa using this
 obtain ⟨b,o,rfl,hrow⟩:=Qj (hv.mono hm) hk;have hq:=hrow 0 _ rfl;refine eN [(0,_),(1,_)] func87 rfl ntmps87 rfl rfl hG ?_;intro a H;refine kP H (SR fun _ K1=>ak K1 rfl (SR fun _ K2=>Rg Ce rfl (by assumption) ?_));clear H K1;intro a H;refine kH H (Rm rfl (Ri Ci Eb rfl rfl (Rf Uq rfl (Rg aH rfl (by assumption) ?_))));clear H;intro a H;exact kH H (ak K2 rfl (LR results87 rfl fun H=>H.rt (by dsimp only;rw [gY hk];rfl)))
def Qd (l:List fG) (i:Nat) (x:fG):Int:=dK [oL (fun k=>(l[k]?.map fG.id).getD 0) i,cu (!vV x.author) 39,cu (!decide (0≤x.time∧x.time≤1099511627776)) 40]
def D5 (l:List fG) (i:Nat):Int:=match l[i]? with|some x=>Qd l i x|none=>0
theorem ajp {G:GH} {bl:Nat} {l:List fG} {A:Option Addr} {n c:Nat} (hb:aL G bl 0=some (.slice A n c)) (hv:av G (.sl 3 (l.map fG.dat)) (.slice A n c)) (hl:l.length≤4294967296) (ht:∀ x∈l,x.author.size < 4611686018427387904):rD (.func (.func 85) #[] #[(aJ bl 0)]) G l.length (D5 l):=by
 intro k hk G1 w0 hm hG;refine mo (caps:=[(aJ bl 0)]) adN ?_;replace hb:=aM hm hb;replace hv:=hv.mono hm;have hcb:=ajy hb hv
 obtain rfl:n=l.length:=by have:=hv.len;simpa using this
 obtain ⟨b,o,rfl,hrow⟩:=Qj hv hk;have hte:=ht _ (iM hk)
 have he:D5 l k=Qd l k l[k]:=by unfold D5;rw [gY hk]
 obtain ⟨x,hx⟩:∃ x,x=l[k]:=⟨_,rfl⟩;rw [← hx] at hrow hte he;refine eN [(0,_),(1,_)] func85 rfl ntmps85 rfl rfl hG ?_;intro a H;refine kP H (SR fun _ K1=>ak K1 rfl (SQ fun _ K2=>?_));clear H K1;intro a H;have H:=H.sub (T':=[(0,_),(1,_)]) ⟨rfl,rfl,aD⟩;refine dI hmx [[],[],[0,1],[],[],[3,4],[3,4,5],(ra 3 4),(ra 0 8),(ra 0 9),(ra 0 10),[],[],[11,12],[11,12,13],(ra 11 4),(ra 0 16),(ra 0 17),(ra 0 18),(ra 0 19),(ra 0 20),(ra 0 21)] [19,20,21] (by kernel_rfl) [_,.func (.func 87) #[] #[(aJ bl 0)],vi (oL (fun k=>(l[k]?.map fG.id).getD 0) k),_,_,_,_,_,.bool (vV x.author),_,vi (cu (!vV x.author) 39),_,_,_,_,_,.bool (decide (0≤x.time∧x.time≤1099511627776)),_,vi (cu (!decide (0≤x.time∧x.time≤1099511627776)) 40)] H (aG (Z0 rfl (Rm rfl)) ?_ ?_ (X0 rfl fun hG=>Rg Ce rfl (aM hG hb)) (aG (Z0 rfl (Rm rfl)) (Z2 3 7 4 8 rfl (Ri Ci Eb rfl rfl)) (Z1 5 9 rfl (Rf aer rfl)) (X1 6 10 rfl fun hG=>Rg gG rfl (aM hG (hrow 1 _ rfl))) (aG ?_ (Z1 8 12 rfl (Rn rfl)) ?_ (X0 rfl fun hG=>Rg Ce rfl (aM hG hb)) (aG (Z0 rfl (Rm rfl)) (Z2 11 15 12 16 rfl (Ri Ci Eb rfl rfl)) (Z1 13 17 rfl (Rf aes rfl)) (X1 14 18 rfl fun hG=>Rg aH rfl (aM hG (hrow 2 _ rfl))) (aG ?_ (Z1 16 20 rfl (Rn rfl)) ?_ (bN rfl) (aU (bN rfl) (aU (bN rfl) bZ))))))) ?_
 ·refine uN rfl fun _ a w G1 hG HT H fin=>?_;refine qd H wn rfl rfl ?_;clear H;intro a H;exact fin H iJ rfl
 ·refine dG 0 4 1 5 rfl rfl fun _ a w G1 hG HT H fin=>?_;refine s_call Ni H wn rfl (Pm _ _ H.ro k _ _ (by omega) (fun i hi=>(hcb.mono hG) i (by omega))) rfl ?_;clear H;rintro v6 G6 a w rfl gM H;exact fin H gM (rfl)
 ·refine dO 7 11 rfl rfl fun _ a w G1 hG HT H fin=>?_;refine s_call Ue H wn rfl (Sz _ _ H.ro x.author hte) rfl ?_;clear H;rintro v12 zI a w ⟨rfl,-⟩ qC H;exact fin H qC (rfl)
 ·refine dO 9 13 rfl rfl fun _ a w G1 hG HT H fin=>?_;refine s_call iZ H wn rfl (jf _ _ H.ro _ 39) rfl ?_;clear H;rintro v14 FX a w ⟨rfl,-⟩ GX H;exact fin H GX (rfl)
 ·refine dO 15 19 rfl rfl fun _ a w G1 hG HT H fin=>?_;refine s_call uV H wn rfl (vo _ _ H.ro x.time 0 1099511627776) rfl ?_;clear H;rintro v20 En a w ⟨rfl,-⟩ afg H;exact fin H afg (rfl)
 ·refine dO 17 21 rfl rfl fun _ a w G1 hG HT H fin=>?_;refine s_call iZ H wn rfl (jf _ _ H.ro _ 40) rfl ?_;clear H;rintro v22 Zu a w ⟨rfl,-⟩ NV H;exact fin H NV (rfl)
 clear H;intro a w G ng H hv;have H:=H.aQ (hv 2 6 rfl rfl) rfl;have H:=H.aQ (hv 10 14 rfl rfl) rfl;have H:=H.aQ (hv 18 22 rfl rfl) rfl;clear hv;refine gU ou gF [_,_,_] [_,_,_] H wn rfl rfl rfl rfl rfl (by intro i q h;match i,h with|0,h=>exact h|1,h=>exact h|2,h=>exact h|n+3,h=>simp at h) rfl rfl ?_;clear H;intro b23 a w alH H;obtain ⟨I6,nJ,afL,H⟩:=H.dS;refine s_call pK H wn rfl (pR _ _ H.ro _ _ (DI [oL (fun k=>(l[k]?.map fG.id).getD 0) k,cu (!vV x.author) 39,cu (!decide (0≤x.time∧x.time≤1099511627776)) 40] afL (show 3≤maxLen by decide))) rfl ?_;clear H;rintro v24 _ a w ⟨rfl,rfl⟩ - H;refine kH H (Ra rfl ?_);clear H;intro a H;refine aI ⟨rfl,?_⟩;refine K2 _ _ ?_;clear K2;refine lr H results85 rfl ?_;exact H.rt (by rw [he,Qd])
def Gp (l:List fG):Int:=dK [cu (decide (256 < (l.length:Int))) 9,kE (D5 l) (min l.length 256)]
theorem abj (G:GH) (w0:World) (hG:Hold G w0) (l:List fG) (v:aj) (hv:av G (.sl 3 (l.map fG.dat)) v) (hl:l.length≤4294967296) (ht:∀ x∈l,x.author.size < 4611686018427387904) :
  Calls prog 56 #[v] w0 (bF w0 G fun u G'=>u=vi (Gp l)):=by
 obtain ⟨A,c,rfl,hc1,hc2,-⟩:=hv.slice;rw [bU] at *;refine eN [(0,_)] func56 rfl ntmps56 rfl rfl hG ?_;intro a H;refine dH (fun _ K1=>?_);refine fq (cs:=[_]) H wn rfl rfl rfl ?_;clear H;intro b1 a w hb1 H;refine kH H (ak K1 rfl (SQ fun _ K2=>?_));clear H K1;intro a H;have H:=H.sub (T':=[(1,_)]) ⟨rfl,aD⟩;obtain ⟨Ga,hma,hb1',H⟩:=H.dS
 have hbl:aL Ga b1 0=some (.slice A l.length c):=by unfold aL;rw [hb1'];rfl
 have hcb:=ajp hbl (hv.mono hma) hl ht;refine dI hmx [[],[0],[0,1],[0,1,2],[],[4],[4,5],[],(ra 0 8),(ra 0 9),(ra 0 10),(ra 0 11)] [9,10,11] (by kernel_rfl) [_,_,_,vi (cu (decide (256 < (l.length:Int))) 9),_,_,vi ((min l.length 256:Nat):Int),.func (.func 85) #[] #[(aJ b1 0)],vi (kE (D5 l) (min l.length 256))] H (aG (X0 rfl fun hG=>Rg Ce rfl (aM hG hbl)) (Z1 0 3 rfl (Rl Ci rfl)) (Z1 1 4 rfl (Rc rfl)) ?_ (aG (X0 rfl fun hG=>Rg Ce rfl (aM hG hbl)) (Z1 4 7 rfl (Rl Ci rfl)) ?_ ?_ (aG ?_ (bN rfl) (bN rfl) (bN rfl) bZ))) ?_
 ·refine dO 2 5 rfl rfl fun _ a w G1 hG HT H fin=>?_;refine s_call iZ H wn rfl (jf _ _ H.ro _ 9) rfl ?_;clear H;rintro v6 G6 a w ⟨rfl,-⟩ gM H;exact fin H gM (rfl)
 ·refine dO 5 8 rfl rfl fun _ a w G1 hG HT H fin=>?_;refine KW H wn rfl rfl rfl ?_;clear H;intro a H;exact fin H iJ (aF vi (by omega))
 ·refine uN rfl fun _ a w G1 hG HT H fin=>?_;refine qd H wn rfl rfl ?_;clear H;intro a H;exact fin H iJ rfl
 ·refine dG 6 9 7 10 rfl rfl fun _ a w G1 hG HT H fin=>?_;refine s_call EI H wn rfl (Gf _ _ H.ro (min l.length 256) (D5 l) _ (by omega) ((hcb.mono hG).le (Nat.min_le_left _ _))) rfl ?_;clear H;rintro v11 wM a w rfl jS H;exact fin H jS (rfl)
 clear H;intro a w G ng H hv;have H:=H.aQ (hv 3 6 rfl rfl) rfl;have H:=H.aQ (hv 8 11 rfl rfl) rfl;clear hv;refine gU ou gF [_,_] [_,_] H wn rfl rfl rfl rfl rfl (by intro i q h;match i,h with|0,h=>exact h|1,h=>exact h|n+2,h=>simp at h) rfl rfl ?_;clear H;intro b12 a w BD H;obtain ⟨zI,xD,Dm,H⟩:=H.dS;refine s_call pK H wn rfl (pR _ _ H.ro _ _ (wH Dm)) rfl ?_;clear H;rintro v13 _ a w ⟨rfl,rfl⟩ - H;refine kH H (Ra rfl ?_);clear H;intro a H;refine aI ⟨rfl,?_⟩;refine K2 _ _ ?_;clear K2;refine lr H results56 rfl ?_;exact H.rt rfl
theorem uY:∀ {l:List Int},dK l=0→∀ x∈l,x=0
 | [],_,_,h=>by cases h
 | e :: r,h,x,hx=>by
  unfold dK at h
  by_cases he:e=0
  ·rw [ah (fun h'=>h' he)] at h
   rcases lq.1 hx with rfl|hx
   ·exact he
   exact uY h x hx
  rw [au he] at h;exact absurd h he
theorem Sm {E:Nat→Int} {n:Nat} (h:kE E n=0) (i:Nat) (hi:i < n):E i=0:=uY h _ (by simp;exact ⟨i,hi,rfl⟩)
theorem Wn {id:Nat→Int} {i:Nat} (h:oL id i=0):1≤id i∧id i≤1073741824∧(0 < i→id (i - 1) < id i):=by
 unfold oL at h
 by_cases h1:1≤id i∧id i≤1073741824
 ·rw [ah (fun h'=>h' h1)] at h
  by_cases h2:0 < i∧id i=id (i - 1)
  ·rw [au h2] at h;cases h
  rw [ah h2] at h
  by_cases h3:0 < i∧id i < id (i - 1)
  ·rw [au h3] at h;cases h
  exact ⟨h1.1,h1.2,fun h0=>by omega⟩
 rw [au h1] at h;cases h
theorem Wo {l:List Int} (h:∀ i (h:i+1 < l.length),l[i] < l[i+1]):zH l:=by
 have hlt:∀ (j i:Nat) (hj:j < l.length) (hi:i < j),l[i] < l[j]:=by
  intro j
  induction j with
  | zero=>intro i _ hi;omega
  | succ j ih =>
   intro i hj hi;have h1:=h j hj
   by_cases e:i=j
   ·subst e;exact h1
   have:=ih i (by omega) (by omega);omega
 intro k hk hm;obtain ⟨i,hi,he⟩:=List.getElem_of_mem hm;rw [List.length_take] at hi;have:=hlt k i hk (by omega);rw [List.getElem_take] at he
 omega
theorem ajq {l:List fG} (h:Gp l=0):zH (l.map fG.id):=by
 have h1:=uY h _ (iC);have h2:=uY h _ (jZ _ iC)
 have hl:l.length≤256:=by
  unfold cu at h1
  by_cases hd:256 < (l.length:Int)
  ·rw [au (aC hd)] at h1;cases h1
  omega
 refine Wo fun i hi=>?_;rw [bU] at hi;have h3:=Sm h2 (i+1) (by omega)
 unfold D5 at h3
 rw [gY hi] at h3;have h4:=(Wn (uY h3 _ iC)).2.2 (by omega);rw [Nat.add_sub_cancel,gY hi,gY (show i < l.length by omega)] at h4
 simpa using h4
theorem ahX {l:List fV} (h:Gn l=0):zH (l.map fV.id):=by
 have h1:=uY h _ (iC);have h2:=uY h _ (jZ _ iC)
 have hl:l.length≤64:=by
  unfold cu at h1
  by_cases hd:64 < (l.length:Int)
  ·rw [au (aC hd)] at h1;cases h1
  omega
 refine Wo fun i hi=>?_;rw [bU] at hi;have h3:=Sm h2 (i+1) (by omega)
 unfold DR at h3
 have h4:=(Wn (uY h3 _ iC)).2.2 (by omega);rw [Nat.add_sub_cancel,gY hi,gY (show i < l.length by omega)] at h4
 simpa using h4
theorem aky {l:List bR} (h:gB l=0):zH (l.map bR.id):=by
 unfold gB at h
 by_cases h1:128 < l.length
 ·rw [au h1] at h;cases h
 rw [ah h1] at h
 by_cases h2:rM (xU l) 0 l.length≠0
 ·rw [au h2] at h;exact absurd h h2
 intro k hk;rw [bU] at hk;have:=Xq (jJ.1 h2) k hk;rw [← List.map_take,List.getElem_map];exact this
end
section
open Go.RowKit
theorem adz:∀ args w,(callFunc 57 args).run prog w=.ok (.enter 57 args) w:=enters func57 rfl (by kernel_rfl)
theorem LB:Ty prog 36 4 96 [.slice none 0 0,.slice none 0 0,.slice none 0 0,.slice none 0 0] true:=⟨by kernel_rfl,by kernel_rfl⟩
theorem adx:∀ args w,(callFunc 55 args).run prog w=.ok (.enter 55 args) w:=enters func55 rfl (by kernel_rfl)
theorem ady:∀ args w,(callFunc 56 args).run prog w=.ok (.enter 56 args) w:=enters func56 rfl (by kernel_rfl)
theorem JK:bY prog 38 1 1:=⟨by kernel_rfl⟩
theorem Nu (e:Int):dK [e]=e:=by
 by_cases h:e=0 <;> simp [dK,h]
structure wL where
 flow:List ay
 fin:iG
 revs:List fG
 ny:zL
structure Cr (G:GH) (D:nE) (d:wL):Prop where
 fl:av G (.sl 11 (d.flow.map ay.dat)) (fI D.f)
 hd:jI G d.fin (fI D.p) (fI D.d) (fI D.y)
 ins:D.ins=d.fin.marks.ins
 mv:D.move=d.fin.marks.move
 rv:av G (.sl 3 (d.revs.map fG.dat)) (fI D.r)
 st:Et G d.ny (fI D.s1) (fI D.s2) (fI D.s3) (fI D.s4)
theorem Et.mono {G G':GH} (hm:∀ b o,G b=some o→G' b=some o) {s:zL} {a b c d:aj} (h:Et G s a b c d):Et G' s a b c d:=⟨h.st.mono hm,h.li.mono hm,h.cm.mono hm,h.va.mono hm⟩
theorem Cr.mono {G G':GH} (hm:∀ b o,G b=some o→G' b=some o) {D:nE} {d:wL} (h:Cr G D d):Cr G' D d:=⟨h.fl.mono hm,h.hd.mono hm,h.ins,h.mv,h.rv.mono hm,h.st.mono hm⟩
structure IY (d:wL):Prop where
 fl:bq d.flow≤1073741824
 hd:qh d.fin≤4294967296
 rn:d.revs.length≤4294967296
 rt:∀ x∈d.revs,x.author.size < 4611686018427387904
 sn:d.ny.styles.length≤4294967296
 st:Mh d.ny
abbrev wL.sO (d:wL):gN:=aX d.ny.styles d.ny.lists d.revs
def vE (m:vO):Bool:=decide ((m.ins≠0∨m.move≠0)∨0 < (m.dh.length:Int))
def mO (d:wL):Int:=dK [dK [Jw d.ny,Gp d.revs],dK [iI d.sO 3 d.fin,cu (vE d.fin.marks) 21],(jy d.sO true false 0 d.flow ⟨0,[]⟩).1,cu (decide (16384 < (jy d.sO true false 0 d.flow ⟨0,[]⟩).2.n)) 9]
theorem abm (G:GH) (w0:World) (hG:Hold G w0) (D:nE) (d:wL) (hR:Cr G D d) (hz:IY d) :
  Calls prog 33 #[D.val] w0 (bF w0 G fun u G'=>u=vi (mO d)):=by
 obtain ⟨df,dp,dd,dy,dr,d1,d2,d3,d4,ins,mv⟩:=D;obtain ⟨hfl,hhd,hin,hmv,xL,hst⟩:=hR;dsimp only at hfl hhd hin hmv xL hst;subst hin;subst hmv;obtain ⟨zf,zh,zr,zt,zs,zg⟩:=hz;have hdl:=hhd.dh.len;rw [bU] at hdl
 have hdn:d.fin.marks.dh.length≤4294967296:=by
  have h1:=IK d.fin;have h2:=sj (d.fin.marks.dh.map jE.dat);rw [bU] at h2;omega
 refine eN [(0,_)] func33 rfl ntmps33 rfl rfl hG ?_;intro a H;refine dH (fun _ K1=>?_);refine fq (cs:=[_,_,_,_,_,_,_,_,_,_,_]) H wn rfl rfl rfl ?_;clear H;intro b1 a w hb1 H;refine kH H (ak K1 rfl (SQ fun _ K2=>SQ fun _ K3=>?_));clear H K1;intro a H;refine dI hmx [[],[0],[0,1],[],[3],(ra 0 5),(ra 0 6),(ra 0 7),(ra 0 8)] [6,7,8] (by kernel_rfl) [_,.agg #[fI d1,fI d2,fI d3,fI d4],vi (Jw d.ny),_,fI dr,vi (Gp d.revs)] H (aG (Z0 rfl (Rf JL rfl)) ?_ ?_ (Z0 rfl (Rf Nr rfl)) (aG (Z1 3 11 rfl (Ro Ce 0 rfl)) ?_ (bN rfl) (bN rfl) (aU (bN rfl) bZ))) ?_
 ·refine dO 0 8 rfl rfl fun _ a w G1 hG HT H fin=>?_;refine bK LB (cs:=[_,_,_,_]) H wn rfl rfl (H.hp.eF 0 rfl rfl) rfl ?_;clear H;intro a H;exact fin H iJ rfl
 ·refine dO 1 9 rfl rfl fun _ a w G1 hG HT H fin=>?_;refine s_call adx H wn rfl (abk _ _ H.ro d.ny _ _ _ _ (hst.mono hG) zg) rfl ?_;clear H;rintro v10 yw a w rfl ni H;exact fin H ni (rfl)
 ·refine dO 4 12 rfl rfl fun _ a w G1 hG HT H fin=>?_;refine s_call ady H wn rfl (abj _ _ H.ro d.revs _ (xL.mono hG) zr zt) rfl ?_;clear H;rintro v13 FV a w rfl JV H;exact fin H JV (rfl)
 clear H;intro a w G ng H hv;have H:=H.aQ (hv 2 10 rfl rfl) rfl;have H:=H.aQ (hv 5 13 rfl rfl) rfl;clear hv;refine gU ou gF [_,_] [_,_] H wn rfl rfl rfl rfl rfl (by intro i q h;match i,h with|0,h=>exact h|1,h=>exact h|n+2,h=>simp at h) rfl rfl ?_;clear H;intro b14 a w Ou H;obtain ⟨FX,OH,afI,H⟩:=H.dS;have hg1:=fun b o h=>OH b o (ng b o h);replace hfl:=hfl.mono hg1;replace hhd:=hhd.mono hg1;replace xL:=xL.mono hg1;replace hst:=hst.mono hg1;refine s_call pK H wn rfl (pR _ _ H.ro _ _ (wH afI)) rfl ?_;clear H;rintro v15 _ a w ⟨rfl,rfl⟩ - H;refine kH H (Ra rfl ?_);clear H;intro a H;refine aI ⟨rfl,?_⟩;refine K3 _ _ ?_;clear K3;refine kP H (SR fun _ K4=>Rm rfl (Rc rfl (Kz K4 (Cd rfl ?_ ?_)))) <;> clear H K4
 ·intro eu a H
  try have mI:=dT eu
  have hE:mO d=dK [Jw d.ny,Gp d.revs]:=by rw [mO,dK,au mI]
  exact kP H (SR fun _ K5=>Rm rfl (ak K5 rfl (LR results33 rfl fun H=>H.rt (by rw [hE]))))
 intro eu a H
 try have mI:=dF eu
 have e1:=jJ.1 mI;have s1:=uY e1 _ iC;have s2:=uY e1 _ (jZ _ iC);have t1:=uY s1 _ iC;have t2:=uY s1 _ (jZ _ iC);refine fT ?_;refine K2 _ _ ?_;clear K2;refine dH (fun _ K6=>?_);refine bK rz (cs:=[_,_,_,_,_,_,_,_,_,_,_]) H wn rfl rfl (H.hp.eF 0 rfl rfl) rfl ?_;clear H;intro a H;refine gV adz (Li:=[_]) (L:=[]) H wn rfl (aiB _ _ (Hp.owns (Li:=[_]) H.hp) ⟨df,dp,dd,dy,dr,d1,d2,d3,d4,d.fin.marks.ins,d.fin.marks.move⟩ d.ny.styles d.ny.lists d.revs hst.st hst.li xL (aky t1) (ahX t2) (ajq s2) zs zg.ln zr) rfl ?_;clear H;rintro v20 En _ a w ⟨b,ms,ml,mr,mb,mu,rfl,rfl,hck⟩ BG H;dsimp only [lca,bD] at H;replace hfl:=hfl.mono BG;replace hhd:=hhd.mono BG;refine kH H (ak K6 rfl (SR fun _ K7=>Rf JK rfl (Rf tY rfl ?_)));clear H K6;intro a H;refine bK FL (cs:=[_,_,_,_]) H wn rfl rfl (H.hp.eF 0 rfl rfl) rfl ?_;clear H;intro a H;refine eZ FL H wn rfl ?_;clear H;intro b5 a w hb5 H;refine bM FL 0 (vs:=[_,_,_,_]) _ H wn rfl rfl rfl rfl rfl rfl rfl rfl ?_;clear H;intro w H;dsimp only [List.set,setRow] at H;refine K7 _ _ ?_;clear K7;refine bG (fun _ K8=>?_);refine bG (fun _ K9=>?_)
 by_cases c0:d.fin.marks.ins≠0
 ·skip;have c1:d.fin.marks.ins≠0∨d.fin.marks.move≠0:=Or.inl c0;refine dI hmx [[],[],[1],[0,1,2],[],[4],[4,5],(ra 0 7),(ra 0 8),(ra 0 9),(ra 0 10),(ra 0 11),(ra 0 12),(ra 0 13),(ra 0 14),(ra 0 15),(ra 0 16),(ra 0 17),(ra 0 18),(ra 0 19),(ra 0 20),(ra 0 21)] [19,20,21] (by kernel_rfl) [_,_,yT d.fin (fI dp) (fI dd) (fI dy),vi (iI d.sO 3 d.fin),_,vi d.fin.marks.ins,_,_,undef,undef,undef,.bool (decide (d.fin.marks.ins≠0∨d.fin.marks.move≠0)),_,undef,undef,undef,undef,.bool (vE d.fin.marks),vi (cu (vE d.fin.marks) 21)] H (aG (Z0 rfl (Rm rfl)) (Z0 rfl (Rf JK rfl)) ?_ ?_ (aG (Z0 rfl (Rf wm rfl)) (Z1 4 28 rfl (Ro aH 0 rfl)) (Z1 5 29 rfl (Rc rfl)) (Z1 6 30 rfl (Rm rfl)) (aG (aN (j:=7) (by kernel_rfl) (fun _ _ _ _ _ h=>h) rfl rfl rfl rfl rfl (fun _ _ h=>aO h (aB (aC c0))) rfl (fun _=>rfl)) (aN (j:=7) (by kernel_rfl) (fun _ _ _ _ _ h=>h) rfl rfl rfl rfl rfl (fun _ _ h=>aO h (aB (aC c0))) rfl (fun _=>rfl)) (aN (j:=7) (by kernel_rfl) (fun _ _ _ _ _ h=>h) rfl rfl rfl rfl rfl (fun _ _ h=>aO h (aB (aC c0))) rfl (fun _=>rfl)) ?_ (aG (Z1 11 35 rfl (Rm rfl)) (aN (j:=12) (by kernel_rfl) (fun _ _ _ _ _ h=>h) rfl rfl rfl rfl rfl (fun _ _ h=>aO h (aB (aC c1))) rfl (fun _=>rfl)) (aN (j:=12) (by kernel_rfl) (fun _ _ _ _ _ h=>h) rfl rfl rfl rfl rfl (fun _ _ h=>aO h (aB (aC c1))) rfl (fun _=>rfl)) (aN (j:=12) (by kernel_rfl) (fun _ _ _ _ _ h=>h) rfl rfl rfl rfl rfl (fun _ _ h=>aO h (aB (aC c1))) rfl (fun _=>rfl)) (aG (aN (j:=12) (by kernel_rfl) (fun _ _ _ _ _ h=>h) rfl rfl rfl rfl rfl (fun _ _ h=>aO h (aB (aC c1))) rfl (fun _=>rfl)) ?_ ?_ (bN rfl) (aU (bN rfl) (aU (bN rfl) bZ))))))) ?_
  ·refine dO 1 25 rfl rfl fun _ a w G1 hG HT H fin=>?_;refine bK qG (cs:=[_,_,_,_,_]) H wn rfl rfl (H.hp.eF 1 rfl rfl) rfl ?_;clear H;intro a H;exact fin H iJ rfl
  ·refine dG 0 24 2 26 rfl rfl fun _ a w G1 hG HT H fin=>?_;refine gV EH (Li:=[_,_]) (L:=fJ b ms ml mr mb mu 0 :: (mb,fH []) :: []) H wn rfl (EU _ _ _ d.ny.styles d.ny.lists d.revs b ms ml mr mb mu _ (hck.mono hG) (Hp.owns (Li:=[_,_]) H.hp) 3 d.fin _ _ _ (hhd.mono hG) zh) rfl ?_;clear H;rintro v27 _ _ a w ⟨rfl,rfl,rfl⟩ GY H;dsimp only [lca,bD] at H;exact fin H GY (rfl)
  ·refine dG 7 31 10 34 rfl rfl fun _ a w G1 hG HT H fin=>?_;refine kH H (Pt (aC c0) rfl ?_);clear H;intro a H;exact fin H iJ (by show _=_;first|exact aB (aC c1).symm|exact aB (by simp [c0]))
  ·refine dG 12 36 16 40 rfl rfl fun _ a w G1 hG HT H fin=>?_;refine kH H (Pt (aC c1) rfl ?_);clear H;intro a H;exact fin H iJ (by show _=_;first|exact aB (jY (Or.inl c1)).symm|exact aB (by simp [vE,c1]))
  ·refine dO 17 41 rfl rfl fun _ a w G1 hG HT H fin=>?_;refine s_call iZ H wn rfl (jf _ _ H.ro _ 21) rfl ?_;clear H;rintro v42 I9 a w ⟨rfl,-⟩ Di H;exact fin H Di (rfl)
  clear H;intro a w G gM H hv;have H:=H.aQ (hv 3 27 rfl rfl) rfl;have H:=H.aQ (hv 18 42 rfl rfl) rfl;clear hv;refine gU ou gF [_,_] [_,_] H wn rfl rfl rfl rfl rfl (by intro i q h;match i,h with|0,h=>exact h|1,h=>exact h|n+2,h=>simp at h) rfl rfl ?_;clear H;intro SF a w Vf H;obtain ⟨FY,BH,He,H⟩:=H.dS;have BF:=fun b o h=>BH b o (gM b o h);replace hfl:=hfl.mono BF;replace hck:=hck.mono BF;refine s_call pK H wn rfl (pR _ _ H.ro _ _ (wH He)) rfl ?_;clear H;rintro v44 _ a w ⟨rfl,rfl⟩ - H;refine kH H (Ra rfl ?_);clear H;intro a H;refine aI ⟨rfl,?_⟩;refine K9 _ _ ?_;clear K9;refine kP H (SR fun _ aT=>Rm rfl (Rc rfl (Kz aT (Cd rfl ?_ ?_)))) <;> clear H aT
  ·intro h46 a H
   try have p46:=dT h46
   have hE:mO d=dK [iI d.sO 3 d.fin,cu (vE d.fin.marks) 21]:=by rw [mO,dK,ah (by simpa using e1),dK,au p46]
   exact kP H (SR fun _ bC=>Rm rfl (ak bC rfl (LR results33 rfl fun H=>H.rt (by rw [hE]))))
  intro h46 a H
  try have p46:=dF h46
  have e2:=jJ.1 p46;refine kP H (Kc K8 (SQ fun _ bJ=>SR fun _ bT=>Rm rfl (aW Bo gW 1 rfl rfl ?_)));clear H K8;intro a H;refine ku Cb [_,_,_] H wn rfl rfl rfl rfl ?_;clear H;intro a H;refine gV GD (Li:=[_,_]) (L:=fJ b ms ml mr mb mu 0 :: (mb,fH []) :: []) H wn rfl (Kw 4294967297 (by omega) _ _ _ d.ny.styles d.ny.lists d.revs b ms ml mr mb mu ⟨0,[]⟩ d.flow _ true false 0 hck (Hp.owns (Li:=[_,_]) H.hp) hfl (by omega) (by omega) (by omega) (by decide) (by dsimp only;omega)) rfl ?_;clear H;rintro v52 _ _ a w ⟨rfl,s3,rfl,rfl,h3⟩ - H;dsimp only [lca,bD] at H;refine kH H (ak bT rfl (SR fun _ bS=>Rm rfl (Rc rfl (Kz bS (Cd rfl ?_ ?_))))) <;> clear H bT bS
  ·intro iw a H
   try have p54:=dT iw
   have hE:mO d=(jy d.sO true false 0 d.flow ⟨0,[]⟩).1:=by rw [mO,dK,ah (by simpa using e1),dK,ah (by simpa using e2),dK,au p54]
   exact kP H (SR fun _ dD=>Rm rfl (ak dD rfl (LR results33 rfl fun H=>H.rt (by rw [hE]))))
  intro iw a H
  try have p54:=dF iw
  have e3:=jJ.1 p54;have hs3:=h3 e3;subst hs3;refine kP H (Kc bJ (SR fun _ dM=>Rm rfl (Rk rfl (aW CV aH 2 rfl rfl (Rc rfl ?_)))));clear H bJ;intro a H;refine s_call iZ H wn rfl (jf _ _ H.ro _ 9) rfl ?_;clear H;rintro v61 _ a w ⟨rfl,rfl⟩ - H
  have hE:mO d=cu (decide (16384 < (jy d.sO true false 0 d.flow ⟨0,[]⟩).2.n)) 9:=by rw [mO,dK,ah (by simpa using e1),dK,ah (by simpa using e2),dK,ah (by simpa using e3)];exact Nu _
  exact kH H (ak dM rfl (LR results33 rfl fun H=>H.rt (by rw [hE])))
 skip
 by_cases c1:d.fin.marks.ins≠0∨d.fin.marks.move≠0
 ·skip;refine dI hmx [[],[],[1],[0,1,2],[],[4],[4,5],(ra 0 7),(ra 0 8),(ra 0 9),(ra 0 10),(ra 0 11),(ra 0 12),(ra 0 13),(ra 0 14),(ra 0 15),(ra 0 16),(ra 0 17),(ra 0 18),(ra 0 19),(ra 0 20),(ra 0 21)] [19,20,21] (by kernel_rfl) [_,_,yT d.fin (fI dp) (fI dd) (fI dy),vi (iI d.sO 3 d.fin),_,vi d.fin.marks.ins,_,_,_,vi d.fin.marks.move,_,.bool (decide (d.fin.marks.ins≠0∨d.fin.marks.move≠0)),_,undef,undef,undef,undef,.bool (vE d.fin.marks),vi (cu (vE d.fin.marks) 21)] H (aG (Z0 rfl (Rm rfl)) (Z0 rfl (Rf JK rfl)) ?_ ?_ (aG (Z0 rfl (Rf wm rfl)) (Z1 4 28 rfl (Ro aH 0 rfl)) (Z1 5 29 rfl (Rc rfl)) (Z1 6 30 rfl (Rm rfl)) (aG (Z1 7 31 rfl (YF Bn (aK c0) rfl)) (Z2 8 32 7 31 rfl (YO aH 0 (aK c0) rfl)) (Z2 9 33 7 31 rfl (YC (aK c0) rfl)) ?_ (aG (Z1 11 35 rfl (Rm rfl)) (aN (j:=12) (by kernel_rfl) (fun _ _ _ _ _ h=>h) rfl rfl rfl rfl rfl (fun _ _ h=>aO h (aB (aC c1))) rfl (fun _=>rfl)) (aN (j:=12) (by kernel_rfl) (fun _ _ _ _ _ h=>h) rfl rfl rfl rfl rfl (fun _ _ h=>aO h (aB (aC c1))) rfl (fun _=>rfl)) (aN (j:=12) (by kernel_rfl) (fun _ _ _ _ _ h=>h) rfl rfl rfl rfl rfl (fun _ _ h=>aO h (aB (aC c1))) rfl (fun _=>rfl)) (aG (aN (j:=12) (by kernel_rfl) (fun _ _ _ _ _ h=>h) rfl rfl rfl rfl rfl (fun _ _ h=>aO h (aB (aC c1))) rfl (fun _=>rfl)) ?_ ?_ (bN rfl) (aU (bN rfl) (aU (bN rfl) bZ))))))) ?_
  ·refine dO 1 25 rfl rfl fun _ a w G1 hG HT H fin=>?_;refine bK qG (cs:=[_,_,_,_,_]) H wn rfl rfl (H.hp.eF 1 rfl rfl) rfl ?_;clear H;intro a H;exact fin H iJ rfl
  ·refine dG 0 24 2 26 rfl rfl fun _ a w G1 hG HT H fin=>?_;refine gV EH (Li:=[_,_]) (L:=fJ b ms ml mr mb mu 0 :: (mb,fH []) :: []) H wn rfl (EU _ _ _ d.ny.styles d.ny.lists d.revs b ms ml mr mb mu _ (hck.mono hG) (Hp.owns (Li:=[_,_]) H.hp) 3 d.fin _ _ _ (hhd.mono hG) zh) rfl ?_;clear H;rintro v27 _ _ a w ⟨rfl,rfl,rfl⟩ GY H;dsimp only [lca,bD] at H;exact fin H GY (rfl)
  ·refine dG 7 31 10 34 rfl rfl fun _ a w G1 hG HT H fin=>?_;refine kH H (Pf (aK c0) rfl ?_);clear H;intro a H;exact fin H iJ (by show _=_;first|exact aB (aC c1).symm|exact aB (by simp [c0]))
  ·refine dG 12 36 16 40 rfl rfl fun _ a w G1 hG HT H fin=>?_;refine kH H (Pt (aC c1) rfl ?_);clear H;intro a H;exact fin H iJ (by show _=_;first|exact aB (jY (Or.inl c1)).symm|exact aB (by simp [vE,c1]))
  ·refine dO 17 41 rfl rfl fun _ a w G1 hG HT H fin=>?_;refine s_call iZ H wn rfl (jf _ _ H.ro _ 21) rfl ?_;clear H;rintro v42 I9 a w ⟨rfl,-⟩ Di H;exact fin H Di (rfl)
  clear H;intro a w G gM H hv;have H:=H.aQ (hv 3 27 rfl rfl) rfl;have H:=H.aQ (hv 18 42 rfl rfl) rfl;clear hv;refine gU ou gF [_,_] [_,_] H wn rfl rfl rfl rfl rfl (by intro i q h;match i,h with|0,h=>exact h|1,h=>exact h|n+2,h=>simp at h) rfl rfl ?_;clear H;intro SF a w Vf H;obtain ⟨FY,BH,He,H⟩:=H.dS;have BF:=fun b o h=>BH b o (gM b o h);replace hfl:=hfl.mono BF;replace hck:=hck.mono BF;refine s_call pK H wn rfl (pR _ _ H.ro _ _ (wH He)) rfl ?_;clear H;rintro v44 _ a w ⟨rfl,rfl⟩ - H;refine kH H (Ra rfl ?_);clear H;intro a H;refine aI ⟨rfl,?_⟩;refine K9 _ _ ?_;clear K9;refine kP H (SR fun _ cZ=>Rm rfl (Rc rfl (Kz cZ (Cd rfl ?_ ?_)))) <;> clear H cZ
  ·intro h46 a H
   try have p46:=dT h46
   have hE:mO d=dK [iI d.sO 3 d.fin,cu (vE d.fin.marks) 21]:=by rw [mO,dK,ah (by simpa using e1),dK,au p46]
   exact kP H (SR fun _ dW=>Rm rfl (ak dW rfl (LR results33 rfl fun H=>H.rt (by rw [hE]))))
  intro h46 a H
  try have p46:=dF h46
  have e2:=jJ.1 p46;refine kP H (Kc K8 (SQ fun _ fZ=>SR fun _ eG=>Rm rfl (aW Bo gW 1 rfl rfl ?_)));clear H K8;intro a H;refine ku Cb [_,_,_] H wn rfl rfl rfl rfl ?_;clear H;intro a H;refine gV GD (Li:=[_,_]) (L:=fJ b ms ml mr mb mu 0 :: (mb,fH []) :: []) H wn rfl (Kw 4294967297 (by omega) _ _ _ d.ny.styles d.ny.lists d.revs b ms ml mr mb mu ⟨0,[]⟩ d.flow _ true false 0 hck (Hp.owns (Li:=[_,_]) H.hp) hfl (by omega) (by omega) (by omega) (by decide) (by dsimp only;omega)) rfl ?_;clear H;rintro v52 _ _ a w ⟨rfl,s3,rfl,rfl,h3⟩ - H;dsimp only [lca,bD] at H;refine kH H (ak eG rfl (SR fun _ gq=>Rm rfl (Rc rfl (Kz gq (Cd rfl ?_ ?_))))) <;> clear H eG gq
  ·intro iw a H
   try have p54:=dT iw
   have hE:mO d=(jy d.sO true false 0 d.flow ⟨0,[]⟩).1:=by rw [mO,dK,ah (by simpa using e1),dK,ah (by simpa using e2),dK,au p54]
   exact kP H (SR fun _ iB=>Rm rfl (ak iB rfl (LR results33 rfl fun H=>H.rt (by rw [hE]))))
  intro iw a H
  try have p54:=dF iw
  have e3:=jJ.1 p54;have hs3:=h3 e3;subst hs3;refine kP H (Kc fZ (SR fun _ jv=>Rm rfl (Rk rfl (aW CV aH 2 rfl rfl (Rc rfl ?_)))));clear H fZ;intro a H;refine s_call iZ H wn rfl (jf _ _ H.ro _ 9) rfl ?_;clear H;rintro v61 _ a w ⟨rfl,rfl⟩ - H
  have hE:mO d=cu (decide (16384 < (jy d.sO true false 0 d.flow ⟨0,[]⟩).2.n)) 9:=by rw [mO,dK,ah (by simpa using e1),dK,ah (by simpa using e2),dK,ah (by simpa using e3)];exact Nu _
  exact kH H (ak jv rfl (LR results33 rfl fun H=>H.rt (by rw [hE])))
 skip;refine dI hmx [[],[],[1],[0,1,2],[],[4],[4,5],(ra 0 7),(ra 0 8),(ra 0 9),(ra 0 10),(ra 0 11),(ra 0 12),(ra 0 13),(ra 0 14),(ra 0 15),(ra 0 16),(ra 0 17),(ra 0 18),(ra 0 19),(ra 0 20),(ra 0 21)] [19,20,21] (by kernel_rfl) [_,_,yT d.fin (fI dp) (fI dd) (fI dy),vi (iI d.sO 3 d.fin),_,vi d.fin.marks.ins,_,_,_,vi d.fin.marks.move,_,.bool (decide (d.fin.marks.ins≠0∨d.fin.marks.move≠0)),_,_,fI dd,vi d.fin.marks.dh.length,_,.bool (vE d.fin.marks),vi (cu (vE d.fin.marks) 21)] H (aG (Z0 rfl (Rm rfl)) (Z0 rfl (Rf JK rfl)) ?_ ?_ (aG (Z0 rfl (Rf wm rfl)) (Z1 4 28 rfl (Ro aH 0 rfl)) (Z1 5 29 rfl (Rc rfl)) (Z1 6 30 rfl (Rm rfl)) (aG (Z1 7 31 rfl (YF Bn (aK c0) rfl)) (Z2 8 32 7 31 rfl (YO aH 0 (aK c0) rfl)) (Z2 9 33 7 31 rfl (YC (aK c0) rfl)) ?_ (aG (Z1 11 35 rfl (Rm rfl)) (Z1 12 36 rfl (YF wo (aK c1) rfl)) (Z2 13 37 12 36 rfl (YO wI 0 (aK c1) rfl)) ?_ (aG (Z2 15 39 12 36 rfl (YC (aK c1) rfl)) ?_ ?_ (bN rfl) (aU (bN rfl) (aU (bN rfl) bZ))))))) ?_
 ·refine dO 1 25 rfl rfl fun _ a w G1 hG HT H fin=>?_;refine bK qG (cs:=[_,_,_,_,_]) H wn rfl rfl (H.hp.eF 1 rfl rfl) rfl ?_;clear H;intro a H;exact fin H iJ rfl
 ·refine dG 0 24 2 26 rfl rfl fun _ a w G1 hG HT H fin=>?_;refine gV EH (Li:=[_,_]) (L:=fJ b ms ml mr mb mu 0 :: (mb,fH []) :: []) H wn rfl (EU _ _ _ d.ny.styles d.ny.lists d.revs b ms ml mr mb mu _ (hck.mono hG) (Hp.owns (Li:=[_,_]) H.hp) 3 d.fin _ _ _ (hhd.mono hG) zh) rfl ?_;clear H;rintro v27 _ _ a w ⟨rfl,rfl,rfl⟩ GY H;dsimp only [lca,bD] at H;exact fin H GY (rfl)
 ·refine dG 7 31 10 34 rfl rfl fun _ a w G1 hG HT H fin=>?_;refine kH H (Pf (aK c0) rfl ?_);clear H;intro a H;exact fin H iJ (by show _=_;first|exact aB (aC c1).symm|exact aB (by simp [c0]))
 ·refine dG 14 38 12 36 rfl rfl fun _ a w G1 hG HT H fin=>?_;refine kH H (YL qH (aK c1) rfl ?_);clear H;intro a H;exact fin H iJ (by show _=_;first|rfl|exact aF (fun n:Nat=>vi n) hdl)
 ·refine dG 12 36 16 40 rfl rfl fun _ a w G1 hG HT H fin=>?_;refine kH H (Pf (aK c1) rfl ?_);clear H;intro a H;exact fin H iJ (by show _=_;first|exact aB (jY (Or.inl c1)).symm|exact aB (by simp [vE,c1]))
 ·refine dO 17 41 rfl rfl fun _ a w G1 hG HT H fin=>?_;refine s_call iZ H wn rfl (jf _ _ H.ro _ 21) rfl ?_;clear H;rintro v42 I9 a w ⟨rfl,-⟩ Di H;exact fin H Di (rfl)
 clear H;intro a w G gM H hv;have H:=H.aQ (hv 3 27 rfl rfl) rfl;have H:=H.aQ (hv 18 42 rfl rfl) rfl;clear hv;refine gU ou gF [_,_] [_,_] H wn rfl rfl rfl rfl rfl (by intro i q h;match i,h with|0,h=>exact h|1,h=>exact h|n+2,h=>simp at h) rfl rfl ?_;clear H;intro SF a w Vf H;obtain ⟨FY,BH,He,H⟩:=H.dS;have BF:=fun b o h=>BH b o (gM b o h);replace hfl:=hfl.mono BF;replace hck:=hck.mono BF;refine s_call pK H wn rfl (pR _ _ H.ro _ _ (wH He)) rfl ?_;clear H;rintro v44 _ a w ⟨rfl,rfl⟩ - H;refine kH H (Ra rfl ?_);clear H;intro a H;refine aI ⟨rfl,?_⟩;refine K9 _ _ ?_;clear K9;refine kP H (SR fun _ jB=>Rm rfl (Rc rfl (Kz jB (Cd rfl ?_ ?_)))) <;> clear H jB
 ·intro h46 a H
  try have p46:=dT h46
  have hE:mO d=dK [iI d.sO 3 d.fin,cu (vE d.fin.marks) 21]:=by rw [mO,dK,ah (by simpa using e1),dK,au p46]
  exact kP H (SR fun _ iX=>Rm rfl (ak iX rfl (LR results33 rfl fun H=>H.rt (by rw [hE]))))
 intro h46 a H
 try have p46:=dF h46
 have e2:=jJ.1 p46;refine kP H (Kc K8 (SQ fun _ kD=>SR fun _ kZ=>Rm rfl (aW Bo gW 1 rfl rfl ?_)));clear H K8;intro a H;refine ku Cb [_,_,_] H wn rfl rfl rfl rfl ?_;clear H;intro a H;refine gV GD (Li:=[_,_]) (L:=fJ b ms ml mr mb mu 0 :: (mb,fH []) :: []) H wn rfl (Kw 4294967297 (by omega) _ _ _ d.ny.styles d.ny.lists d.revs b ms ml mr mb mu ⟨0,[]⟩ d.flow _ true false 0 hck (Hp.owns (Li:=[_,_]) H.hp) hfl (by omega) (by omega) (by omega) (by decide) (by dsimp only;omega)) rfl ?_;clear H;rintro v52 _ _ a w ⟨rfl,s3,rfl,rfl,h3⟩ - H;dsimp only [lca,bD] at H;refine kH H (ak kZ rfl (SR fun _ jC=>Rm rfl (Rc rfl (Kz jC (Cd rfl ?_ ?_))))) <;> clear H kZ jC
 ·intro iw a H
  try have p54:=dT iw
  have hE:mO d=(jy d.sO true false 0 d.flow ⟨0,[]⟩).1:=by rw [mO,dK,ah (by simpa using e1),dK,ah (by simpa using e2),dK,au p54]
  exact kP H (SR fun _ oz=>Rm rfl (ak oz rfl (LR results33 rfl fun H=>H.rt (by rw [hE]))))
 intro iw a H
 try have p54:=dF iw
 have e3:=jJ.1 p54;have hs3:=h3 e3;subst hs3;refine kP H (Kc kD (SR fun _ oZ=>Rm rfl (Rk rfl (aW CV aH 2 rfl rfl (Rc rfl ?_)))));clear H kD;intro a H;refine s_call iZ H wn rfl (jf _ _ H.ro _ 9) rfl ?_;clear H;rintro v61 _ a w ⟨rfl,rfl⟩ - H
 have hE:mO d=cu (decide (16384 < (jy d.sO true false 0 d.flow ⟨0,[]⟩).2.n)) 9:=by rw [mO,dK,ah (by simpa using e1),dK,ah (by simpa using e2),dK,ah (by simpa using e3)];exact Nu _
 exact kH H (ak oZ rfl (LR results33 rfl fun H=>H.rt (by rw [hE])))
end
section
open Go.RowKit
theorem Nb:∀ args w,(callFunc 32 args).run prog w=.ok (.enter 32 args) w:=enters func32 rfl (by kernel_rfl)
theorem ado:∀ args w,(callFunc 33 args).run prog w=.ok (.enter 33 args) w:=enters func33 rfl (by kernel_rfl)
theorem aiF {d:wL} (h:mO d=0):zK d.flow:=by
 have h1:=uY h _ (jZ _ (jZ _ iC));exact zK.of (Tn h1)
abbrev zT (b:Nat) (n:Int):Nat × Obj:=(b,.cells #[vi n] 3 (0,0))
def SmQ (bl:Nat) (left:Int) (z:Nat) (u:aj) (_:GH) (L':OL):Prop:=∃ b lf,u=.bool b∧L'=[zT bl lf]∧left - (z:Int)≤lf∧lf≤left
def Mf (n:Nat):Prop:=∀ (G:GH) (w0:World) (l:List ay) (v:aj) (Fh left:Int) (bl:Nat),gX G [zT bl left] w0→av G (.sl 11 (l.map ay.dat)) v→bq l < n→0≤Fh→Fh≤1000→left≤1000→-1000000000000≤left - (bq l:Int) →
 Calls prog 32 #[v,vi Fh,(aJ bl 0)] w0 (gH w0 G [zT bl left] (SmQ bl left (bq l)))
theorem Zb (l m:List bP):gZ (l++m)=gZ l+gZ m:=by simp [gZ,QC]
theorem Y6 (l m:List bO):jA (l++m)=jA l+jA m:=by simp [jA,QC]
theorem aln {l:List ay} {k:Nat} (h:k < l.length):bq (l.take (k+1))=bq (l.take k)+(1+dw l[k].dat):=by rw [jF h,alm];simp [bq,eX]
theorem alp {l:List bP} {k:Nat} (h:k < l.length):gZ (l.take (k+1))=gZ (l.take k)+(1+dw l[k].dat):=by rw [jF h,Zb];simp [gZ,eX]
theorem alk {l:List bO} {k:Nat} (h:k < l.length):jA (l.take (k+1))=jA (l.take k)+(1+dw l[k].dat):=by rw [jF h,Y6];simp [jA,eX]
theorem Za (l:List ay) (k:Nat):bq (l.take k)≤bq l:=IL (List.take_sublist k l)
theorem Zc (l:List bP) (k:Nat):gZ (l.take k)≤gZ l:=by
 have:=Zb (l.take k) (l.drop k);rw [List.take_append_drop] at this;omega
theorem Y7 (l:List bO) (k:Nat):jA (l.take k)≤jA l:=by
 have:=Y6 (l.take k) (l.drop k);rw [List.take_append_drop] at this;omega
set_option maxHeartbeats 4000000 in
theorem akm {n:Nat} (ih:Mf n) (hn:n≤4294967296):Mf (n+1):=by
 intro G w0 l v Fh left bl hO hv hz hl0 hl1 hf1 hf0;obtain ⟨A,c,rfl,hc1,hc2,hg⟩:=hv.slice;rw [bU] at *;have hll:=zF l;refine kg (N:=133) (T:=[(0,_),(1,_),(2,_)]) func32 rfl ntmps32 rfl rfl hO ?_;intro a H;refine kP H (SR fun _ K1=>ak K1 rfl (SQ fun _ K2=>SR fun _ K3=>ak K3 rfl (SB ?_)));clear H K1 K3;intro a H;skip;refine eU (ι:=Nat × Int × GH) (Tc:=[(0,_),(1,_),(2,_)]) (Lc:=[]) (fun gh=>[(7,vi gh.1)]) (fun gh=>[zT bl gh.2.1]) (fun gh=>gh.2.2) (fun gh=>gh.1≤l.length∧left - (bq (l.take gh.1):Int)≤gh.2.1∧gh.2.1≤left∧(∀ b o,G b=some o→gh.2.2 b=some o)) (fun gh=>l.length - gh.1) ((0,left,G)) (by exact (H).sub ⟨rfl,rfl,rfl,rfl,aD⟩) ?_ ?_
 ·exact ⟨by omega,by show left - ((0:Nat):Int)≤left;omega,Int.le_refl _,fun _ _ h=>h⟩
 clear H;intro gh a w hI H;obtain ⟨k,lf,g⟩:=gh;dsimp only at hI H;obtain ⟨hk,hlo,hhi,hgm⟩:=hI;have hzk:=Za l k;dsimp only [lca,bD] at H;refine kP H (SQ fun _ K4=>SR fun _ K5=>Rm rfl (Rm rfl (Rl fU rfl (Rc rfl (Kz K5 (Cd rfl ?_ ?_)))))) <;> clear H K5
 ·intro gu a H
  try have qF:=dT gu
  have hk2:k < l.length:=by omega
  obtain ⟨b,o,pA,pn,pc,dA,dn,dc,yA,yn,yc,fA,fn,fc,rA,rn,rc,rfl,hrow,hhd,hfl,hrw⟩:=wX hk2 hg;have hrn:=hrw.len;rw [bU] at hrn;subst hrn;have r3:aL g b (o+k*11+3)=some (.string l[k].text):=aM hgm (hrow 3 _ rfl);have r4:aL g b (o+k*11+4+0)=some (.slice pA pn pc):=aM hgm (hrow 4 _ rfl);have r9:aL g b (o+k*11+9)=some (.slice fA fn fc):=aM hgm (hrow 9 _ rfl);have Fu:aL g b (o+k*11+10)=some (.slice rA l[k].rows.length rc):=aM hgm (hrow 10 _ rfl);have hzi:=nU l[k];have hzs:=aln hk2;have hzt:=Za l (k+1);refine kP H (Kc K4 (SQ fun _ K6=>SB (SR fun _ K7=>Rm rfl (Rk rfl (Ro aH 0 rfl (Rs rfl (Rk rfl ?_)))))));clear H K4;intro a H;refine bM aH 0 (vs:=[_]) _ H wn rfl rfl rfl rfl rfl rfl rfl rfl ?_;clear H;intro w H;dsimp only [List.set,setRow] at H;refine K7 _ _ ?_;clear K7;refine kP H (SQ fun _ K8=>SR fun _ K9=>Rm rfl (Rk rfl (Ro aH 0 rfl (Rc rfl (Rm rfl (Sp 25 rfl ?_ ?_)))))) <;> clear H
  ·intro lY a H
   try have p25:=dT lY
   refine kH H (aS lY rfl (Pt lY rfl (Rm rfl (aY rfl rfl (aS rfl rfl (aS rfl rfl (Pt rfl rfl (Rm rfl (aY rfl rfl (aY rfl rfl (aS rfl rfl (Pt rfl rfl (Rm rfl (aY rfl rfl (aS rfl rfl (aS rfl rfl (Pt rfl rfl (Rm rfl (aY rfl rfl (aY rfl rfl (aS rfl rfl (aS rfl rfl ?_))))))))))))))))))))));clear H;intro a H;exact kH H (Pt rfl rfl (Kz K9 (Ct rfl rfl (SR fun _ aT=>ak aT rfl (LR results32 rfl fun H=>H.hp.eP ⟨_,_,rfl,rfl,by omega,by omega⟩)))))
  intro lY a H
  try have p25:=dF lY
  refine kH H (YM lY rfl (YC lY rfl (Pf lY rfl (Rm rfl (Sp 29 rfl ?_ ?_))))) <;> clear H
  ·intro iD a H
   try have p29:=dT iD
   refine kH H (aY iD rfl (aS iD rfl (aS iD rfl (Pt iD rfl (Rm rfl (aY rfl rfl (aY rfl rfl (aS rfl rfl (Pt rfl rfl (Rm rfl (aY rfl rfl (aS rfl rfl (aS rfl rfl (Pt rfl rfl (Rm rfl (aY rfl rfl (aY rfl rfl (aS rfl rfl (aS rfl rfl (Pt rfl rfl (Kz K9 ?_)))))))))))))))))))));clear H K9;intro a H;refine qL H rfl rfl ?_;exact kP H (SR fun _ bC=>ak bC rfl (LR results32 rfl fun H=>H.hp.eP ⟨_,_,rfl,rfl,by omega,by omega⟩))
  intro iD a H
  try have p29:=dF iD
  refine kH H (YM iD rfl (YM iD rfl (YI fU dx iD rfl rfl (YF tZ iD rfl (YR gG iD rfl (by assumption) ?_)))));clear H;intro a H;refine Ca gy H (wg H rfl rfl iD) rfl rfl ?_;clear H;intro a H;refine kH H (YC iD rfl (Pf iD rfl (Rm rfl (Sp 38 rfl ?_ ?_)))) <;> clear H
  ·intro oI a H
   try have p38:=dT oI
   exact kH H (aY oI rfl (aY oI rfl (aS oI rfl (Pt oI rfl (Rm rfl (aY rfl rfl (aS rfl rfl (aS rfl rfl (Pt rfl rfl (Rm rfl (aY rfl rfl (aY rfl rfl (aS rfl rfl (aS rfl rfl (Pt rfl rfl (Kz K9 (Ct rfl rfl (SR fun _ bJ=>ak bJ rfl (LR results32 rfl fun H=>H.hp.eP ⟨_,_,rfl,rfl,by omega,by omega⟩)))))))))))))))))))
  intro oI a H
  try have p38:=dF oI
  refine kH H (YM oI rfl (YM oI rfl (YI fU dx oI rfl rfl (YF Bq oI rfl (YF CX oI rfl (YR AZ oI rfl (by assumption) ?_))))));clear H;intro a H;refine kH H (YL oU oI rfl (YC oI rfl (Pf oI rfl (Rm rfl (Sp 48 rfl ?_ ?_))))) <;> clear H
  ·intro h48 a H
   try have p48:=dT h48
   exact kH H (aY h48 rfl (aS h48 rfl (aS h48 rfl (Pt h48 rfl (Rm rfl (aY rfl rfl (aY rfl rfl (aS rfl rfl (aS rfl rfl (Pt rfl rfl (Kz K9 (Ct rfl rfl (SR fun _ bT=>ak bT rfl (LR results32 rfl fun H=>H.hp.eP ⟨_,_,rfl,rfl,by omega,by omega⟩))))))))))))))
  intro h48 a H
  try have p48:=dF h48
  refine kH H (YM h48 rfl (YM h48 rfl (YI fU dx h48 rfl rfl (YF oH h48 rfl (YR oQ h48 rfl (by assumption) ?_)))));clear H;intro a H;refine kH H (YL lS h48 rfl (YC h48 rfl (Pf h48 rfl (Rm rfl (Sp 57 rfl ?_ ?_))))) <;> clear H
  ·intro h57 a H
   try have p57:=dT h57
   exact kH H (aY h57 rfl (aY h57 rfl (aS h57 rfl (aS h57 rfl (Pt h57 rfl (Kz K9 (Ct rfl rfl (SR fun _ bS=>ak bS rfl (LR results32 rfl fun H=>H.hp.eP ⟨_,_,rfl,rfl,by omega,by omega⟩)))))))))
  intro h57 a H
  try have p57:=dF h57
  refine kH H (YM h57 rfl (YM h57 rfl (YI fU dx h57 rfl rfl (YF wW h57 rfl (YR gW h57 rfl (by assumption) ?_)))));clear H;intro a H;refine kH H (YM h57 rfl ?_);clear H;intro a H;refine mW _ H (wg H rfl rfl h57) rfl rfl rfl (by omega) (by omega) rfl ?_;clear H;intro a H;refine kH H (YM h57 rfl ?_);clear H;intro a H;refine gV Nb (Li:=[]) (L:=[zT bl _]) H (wg H rfl rfl h57) rfl (ih _ _ l[k].flow _ (Fh - 1) _ bl (Hp.owns (Li:=[]) H.hp) (hfl.mono hgm) (by omega) (by omega) (by omega) (by omega) (by omega)) rfl ?_;clear H;rintro v66 ZK L66 a w ⟨b66,lf66,rfl,rfl,alX,alU⟩ Vt H;dsimp only [List.nil_append] at H;replace Fu:=aM Vt Fu;have agh:=fun b o h=>Vt b o (hgm b o h);refine kH H (YN h57 rfl (Pf h57 rfl (Kz K9 (Cd rfl ?_ ?_)))) <;> clear H K9
  ·intro h68 a H
   try have p68:=dT h68
   exact kP H (SR fun _ dD=>ak dD rfl (LR results32 rfl fun H=>H.hp.eP ⟨_,_,rfl,rfl,by omega,by omega⟩))
  intro h68 a H
  try have p68:=dF h68
  refine kP H (Kc K8 (SR fun _ dM=>ak dM rfl (SB ?_)));clear H K8 dM;intro a H;skip;refine eU (ι:=Nat × Int × GH) (Tc:=[(0,_),(1,_),(2,_),(7,_)]) (Lc:=[]) (fun gh=>[(8,vi gh.1)]) (fun gh=>[zT bl gh.2.1]) (fun gh=>gh.2.2) (fun gh=>gh.1≤l[k].rows.length∧lf66 - (gZ (l[k].rows.take gh.1):Int)≤gh.2.1∧gh.2.1≤lf66∧(∀ b o,G b=some o→gh.2.2 b=some o)∧aL gh.2.2 b (o+k*11+10)=some (.slice rA l[k].rows.length rc)) (fun gh=>l[k].rows.length - gh.1) ((0,lf66,ZK)) (by exact (H).sub ⟨rfl,rfl,rfl,rfl,rfl,aD⟩) ?_ ?_
  ·exact ⟨by omega,by show lf66 - ((0:Nat):Int)≤lf66;omega,Int.le_refl _,agh,Fu⟩
  clear H;intro gh a w hI H;obtain ⟨j,lf2,g2⟩:=gh;dsimp only at hI H;obtain ⟨hj,hlo2,hhi2,oK,q10⟩:=hI;have amn:=Zc l[k].rows j;dsimp only [lca,bD] at H;refine kP H (SQ fun _ cZ=>SR fun _ dW=>Rm rfl (Rm rfl (Rm rfl (Ri fU dx rfl rfl (Rf oH rfl (Rg oQ rfl (by assumption) ?_))))));clear H;intro a H;refine kH H (Rl lS rfl (Rc rfl (Kz dW (Cd rfl ?_ ?_)))) <;> clear H dW
  ·intro Ae a H
   try have P6:=dT Ae
   have hj2:j < l[k].rows.length:=by omega
   obtain ⟨b2,o2,uA,un,uc,eA,en,ec,zA,zn,zc,cA,cn,cc,rfl,hrow2,xJ,hcl⟩:=Fx hj2 (hrw.mono oK).at_;have hcn:=hcl.len;rw [bU] at hcn;subst hcn;have t5:aL g2 b2 (o2+j*6+5)=some (.slice cA l[k].rows[j].cells.length cc):=hrow2 5 _ rfl;have aml:=Bf l[k].rows[j];have amq:=alp hj2;have ams:=Zc l[k].rows (j+1);refine kP H (Kc cZ (SQ fun _ fZ=>SB (SQ fun _ eG=>SR fun _ gq=>Rm rfl (Rm rfl (Ri fU dx rfl rfl (Rf oH rfl (Rg oQ rfl (by assumption) ?_)))))));clear H cZ;intro a H;refine kH H (Rm rfl (Ri lS jV rfl rfl (Rf uf rfl (Rg uI rfl (by assumption) ?_))));clear H;intro a H;refine kH H (Rl oV rfl (Rc rfl (Kz gq (Cd rfl ?_ ?_)))) <;> clear H gq
   ·intro NQ a H
    try have p89:=dT NQ
    exact kP H (SR fun _ iB=>ak iB rfl (LR results32 rfl fun H=>H.hp.eP ⟨_,_,rfl,rfl,by omega,by omega⟩))
   intro NQ a H
   try have p89:=dF NQ
   refine kP H (Kc eG (SR fun _ jv=>ak jv rfl (SB ?_)));clear H eG jv;intro a H;skip;refine eU (ι:=Nat × Int × GH) (Tc:=[(0,_),(1,_),(2,_),(7,_),(8,_)]) (Lc:=[]) (fun gh=>[(9,vi gh.1)]) (fun gh=>[zT bl gh.2.1]) (fun gh=>gh.2.2) (fun gh=>gh.1≤l[k].rows[j].cells.length∧lf2 - (jA (l[k].rows[j].cells.take gh.1):Int)≤gh.2.1∧gh.2.1≤lf2∧(∀ b o,G b=some o→gh.2.2 b=some o)∧aL gh.2.2 b (o+k*11+10)=some (.slice (some ⟨b2,o2,none⟩) l[k].rows.length rc)∧aL gh.2.2 b2 (o2+j*6+5)=some (.slice cA l[k].rows[j].cells.length cc)∧(∀ b o,g2 b=some o→gh.2.2 b=some o)) (fun gh=>l[k].rows[j].cells.length - gh.1) ((0,lf2,g2)) (by exact (H).sub ⟨rfl,rfl,rfl,rfl,rfl,rfl,aD⟩) ?_ ?_
   ·exact ⟨by omega,by show lf2 - ((0:Nat):Int)≤lf2;omega,Int.le_refl _,oK,q10,t5,fun _ _ h=>h⟩
   clear H;intro gh a w hI H;obtain ⟨m,lf3,g3⟩:=gh;dsimp only at hI H;obtain ⟨hm,hlo3,hhi3,Al,s10,s5,Vm⟩:=hI;have amo:=Y7 l[k].rows[j].cells m;dsimp only [lca,bD] at H;refine kP H (SQ fun _ jB=>SR fun _ iX=>Rm rfl (Rm rfl (Rm rfl (Ri fU dx rfl rfl (Rf oH rfl (Rg oQ rfl (by assumption) ?_))))));clear H;intro a H;refine kH H (Rm rfl (Ri lS jV rfl rfl (Rf uf rfl (Rg uI rfl (by assumption) ?_))));clear H;intro a H;refine kH H (Rl oV rfl (Rc rfl (Kz iX (Cd rfl ?_ ?_)))) <;> clear H iX
   ·intro Nz a H
    try have aiL:=dT Nz
    have hm2:m < l[k].rows[j].cells.length:=by omega
    obtain ⟨b3,o3,x1,x2,x3,x4,x5,x6,x7,x8,x9,gA,gn,gc,rfl,hrow3,hch,hcf⟩:=EC hm2 (hcl.mono Vm).at_;have u6:aL g3 b3 (o3+m*7+6)=some (.slice gA gn gc):=hrow3 6 _ rfl;have amm:=Bd l[k].rows[j].cells[m];have amr:=alk hm2;have amt:=Y7 l[k].rows[j].cells (m+1);refine kP H (Kc jB (SQ fun _ kD=>SB (SR fun _ kZ=>Rm rfl (Rk rfl (Ro aH 0 rfl (Rs rfl (Rk rfl ?_)))))));clear H jB;intro a H;refine bM aH 0 (vs:=[_]) _ H wn rfl rfl rfl rfl rfl rfl rfl rfl ?_;clear H;intro w H;dsimp only [List.set,setRow] at H;refine kZ _ _ ?_;clear kZ;refine kP H (SR fun _ jC=>Rm rfl (Rk rfl (Ro aH 0 rfl (Rc rfl (Rm rfl (Sp 113 rfl ?_ ?_)))))) <;> clear H
    ·intro kL a H
     try have aiN:=dT kL
     exact kH H (aY kL rfl (aY kL rfl (aY kL rfl (aY kL rfl (aY kL rfl (aY kL rfl (Pt kL rfl (Kz jC (Ct rfl rfl (SR fun _ oz=>ak oz rfl (LR results32 rfl fun H=>H.hp.eP ⟨_,_,rfl,rfl,by omega,by omega⟩)))))))))))
    intro kL a H
    try have aiN:=dF kL
    refine kH H (YM kL rfl (YM kL rfl (YI fU dx kL rfl rfl (YF oH kL rfl (YR oQ kL rfl (by assumption) ?_)))));clear H;intro a H;refine kH H (YM kL rfl (YI lS jV kL rfl rfl (YF uf kL rfl (YR uI kL rfl (by assumption) ?_))));clear H;intro a H;refine kH H (YM kL rfl (YI oV kN kL rfl rfl (YF CZ kL rfl (YR gW kL rfl (by assumption) ?_))));clear H;intro a H;refine kH H (YM kL rfl ?_);clear H;intro a H;refine mW _ H (wg H rfl rfl kL) rfl rfl rfl (by omega) (by omega) rfl ?_;clear H;intro a H;refine kH H (YM kL rfl ?_);clear H;intro a H;refine gV Nb (Li:=[]) (L:=[zT bl _]) H (wg H rfl rfl kL) rfl (ih _ _ l[k].rows[j].cells[m].flow _ (Fh - 1) _ bl (Hp.owns (Li:=[]) H.hp) hcf (by omega) (by omega) (by omega) (by omega) (by omega)) rfl ?_;clear H;rintro v130 Zr alu a w ⟨aly,ahS,rfl,rfl,alW,alT⟩ Ka H;dsimp only [List.nil_append] at H;refine kH H (YN kL rfl (Pf kL rfl (Kz jC (Cd rfl ?_ ?_)))) <;> clear H jC
    ·intro Bu a H
     try have Xr:=dT Bu
     exact kP H (SR fun _ oZ=>ak oZ rfl (LR results32 rfl fun H=>H.hp.eP ⟨_,_,rfl,rfl,by omega,by omega⟩))
    intro Bu a H
    try have Xr:=dF Bu
    refine kP H (Kc kD (SC (Rm rfl (Rd rfl (Ra rfl ?_)))));clear H kD;intro a H;refine aI ?_;refine cK ((m+1,ahS,Zr)) (by exact (H).sub ⟨rfl,rfl,rfl,rfl,rfl,rfl,aD⟩) ?_ ?_
    ·(try dsimp only);exact ⟨by omega,by omega,by omega,fun b o h=>Ka b o (Al b o h),aM Ka s10,aM Ka s5,fun b o h=>Ka b o (Vm b o h)⟩
    first|omega|(dsimp only;omega)
   intro Nz a H
   try have aiL:=dF Nz
   refine dQ ?_;refine fZ _ _ ?_;clear fZ;refine kP H (SC (Rm rfl (Rd rfl (Ra rfl ?_))));clear H;intro a H;refine aI ?_;refine cK ((j+1,lf3,g3)) (by exact (H).sub ⟨rfl,rfl,rfl,rfl,rfl,aD⟩) ?_ ?_
   ·(try dsimp only);exact ⟨by omega,by omega,by omega,Al,s10⟩
   first|omega|(dsimp only;omega)
  intro Ae a H
  try have P6:=dF Ae
  refine dQ ?_;refine K6 _ _ ?_;clear K6;refine kP H (SC (Rm rfl (Rd rfl (Ra rfl ?_))));clear H;intro a H;refine aI ?_;refine cK ((k+1,lf2,g2)) (by exact (H).sub ⟨rfl,rfl,rfl,rfl,aD⟩) ?_ ?_
  ·(try dsimp only);exact ⟨by omega,by omega,by omega,oK⟩
  first|omega|(dsimp only;omega)
 intro gu a H
 try have qF:=dF gu
 refine dQ ?_;refine K2 _ _ ?_;clear K2;exact kP H (SR fun _ qj=>ak qj rfl (LR results32 rfl fun H=>H.hp.eP ⟨_,_,rfl,rfl,by omega,by omega⟩))
theorem Yb:∀ n:Nat,n≤4294967296→Mf n
 | 0,_=>fun _ _ _ _ _ _ _ _ _ hz=>absurd hz (Nat.not_lt_zero _)
 | n+1,h=>akm (Yb n (by omega)) (by omega)
theorem akl (G:GH) (w0:World) (hG:Hold G w0) (D:nE) (d:wL) (hR:Cr G D d) (hz:IY d) :
  Calls prog 10 #[D.val] w0 (bF w0 G fun u G'=>∃ b,u=.bool b∧(b=true→mO d=0)):=by
 have yY:=hz.fl;refine eN [(0,_)] func10 rfl ntmps10 rfl rfl hG ?_;intro a H;refine dH (fun _ K1=>?_);refine fq (cs:=[_,_,_,_,_,_,_,_,_,_,_]) H wn rfl rfl rfl ?_;clear H;intro b1 a w hb1 H;refine kH H (ak K1 rfl (SQ fun _ K2=>?_));clear H K1;intro a H;obtain ⟨Ga,hma,hb1',H⟩:=H.dS;have hga:=fun j v hj=>wY hb1' 0 D.cells rfl j v hj;have hgs:=fun j v hj=>wY hb1' 7 [fI D.s1,fI D.s2,fI D.s3,fI D.s4] rfl j v hj
 have hgr:aL Ga b1 6=some (fI D.r):=by unfold aL;rw [hb1'];rfl
 have hgf:aL Ga b1 0=some (fI D.f):=by unfold aL;rw [hb1'];rfl
 replace hR:=hR.mono hma;refine nY ?_;refine eZ aH H wn rfl ?_;clear H;intro b3 a w hb3 H;refine bM aH 0 (vs:=[_]) _ H wn rfl rfl rfl rfl rfl rfl rfl rfl ?_;clear H;intro w H;dsimp only [List.set,setRow] at H;refine kH H (Kn K2 (SR fun _ K3=>Rf JL rfl ?_));clear H K2;intro a H;refine bK LB (cs:=[fI D.s1,fI D.s2,fI D.s3,fI D.s4]) H wn rfl rfl (fun j v hj=>H.hp.aL (hgs j v hj)) rfl ?_;clear H;intro a H;refine eZ LB H wn rfl ?_;clear H;intro b4 a w hb4 H;refine bM LB 0 (vs:=[_,_,_,_]) _ H wn rfl rfl rfl rfl rfl rfl rfl rfl ?_;clear H;intro w H;dsimp only [List.set,setRow] at H;refine K3 _ _ ?_;clear K3;refine kP H (SR fun _ K4=>aW UA Ee 0 rfl rfl (Rl Cj rfl (Rc rfl (Rm rfl (Sp 11 rfl ?_ ?_))))) <;> clear H
 ·intro h11 a H
  try have nM:=dT h11
  refine kH H (YF Np h11 rfl (YO sF 0 h11 rfl (YL nC h11 rfl (YC h11 rfl (Pt h11 rfl (Rm rfl (Sp 17 rfl ?_ ?_))))))) <;> clear H
  ·intro eu a H
   try have mI:=dT eu
   refine kH H (YF Nq eu rfl (YO Ed 0 eu rfl (YL Eh eu rfl (YC eu rfl (Pt eu rfl (Rm rfl (Sp 23 rfl ?_ ?_))))))) <;> clear H
   ·intro h23 a H
    try have rW:=dT h23
    refine kH H (YF UC h23 rfl (YO wJ 0 h23 rfl (YL yj h23 rfl (YC h23 rfl (Pt h23 rfl (Rm rfl (Sp 29 rfl ?_ ?_))))))) <;> clear H
    ·intro iD a H
     try have p29:=dT iD
     refine kH H (YF Nr iD rfl (YR Ce iD rfl (by assumption) ?_));clear H;intro a H;refine kH H (YL Ci iD rfl (YC iD rfl (Pt iD rfl (Rm rfl (Sp 35 rfl ?_ ?_))))) <;> clear H
     ·intro mY a H
      try have p35:=dT mY
      refine kH H (YF Bo mY rfl (YR gW mY rfl (by assumption) ?_));clear H;intro a H;refine gV Nb (Li:=[_]) (L:=[zT b3 150]) H (wg H rfl rfl mY) rfl (Yb 4294967296 (bV _) _ _ d.flow _ 12 150 b3 (Hp.owns (Li:=[_]) H.hp) hR.fl (by omega) (by decide) (by decide) (by decide) (by omega)) rfl ?_;clear H;rintro v38 I8 L38 a w ⟨SE,lf38,rfl,rfl,-,-⟩ EX H;refine kH H (Pt mY rfl (Rm rfl (Sp 40 rfl ?_ ?_))) <;> clear H
      ·intro lJ a H
       try have p40:=dT lJ
       refine bK rz (cs:=D.cells) H (wg H rfl rfl lJ) rfl rfl (fun j v hj=>H.hp.aL (aM EX (hga j v hj))) rfl ?_;clear H;intro a H;refine s_call ado H (wg H rfl rfl lJ) rfl (abm _ _ H.ro D d (hR.mono EX) hz) rfl ?_;clear H;rintro v42 I9 a w rfl amb H;exact kH H (YC lJ rfl (Pt lJ rfl (ak K4 rfl (LR results10 rfl fun H=>H.rt ⟨_,rfl,fun h=>by first|assumption|(simp_all;done)⟩))))
      intro lJ a H
      try have p40:=dF lJ
      exact kH H (aY lJ rfl (Pf lJ rfl (ak K4 rfl (LR results10 rfl fun H=>H.rt ⟨_,rfl,fun h=>by first|assumption|(simp_all;done)⟩))))
     intro mY a H
     try have p35:=dF mY
     exact kH H (aY mY rfl (Pf mY rfl (Rm rfl (aY rfl rfl (Pf rfl rfl (ak K4 rfl (LR results10 rfl fun H=>H.rt ⟨_,rfl,fun h=>by first|assumption|(simp_all;done)⟩)))))))
    intro iD a H
    try have p29:=dF iD
    exact kH H (aS iD rfl (aS iD rfl (Pf iD rfl (Rm rfl (aY rfl rfl (Pf rfl rfl (Rm rfl (aY rfl rfl (Pf rfl rfl (ak K4 rfl (LR results10 rfl fun H=>H.rt ⟨_,rfl,fun h=>by first|assumption|(simp_all;done)⟩)))))))))))
   intro h23 a H
   try have rW:=dF h23
   exact kH H (aS h23 rfl (aS h23 rfl (Pf h23 rfl (Rm rfl (aS rfl rfl (aS rfl rfl (Pf rfl rfl (Rm rfl (aY rfl rfl (Pf rfl rfl (Rm rfl (aY rfl rfl (Pf rfl rfl (ak K4 rfl (LR results10 rfl fun H=>H.rt ⟨_,rfl,fun h=>by first|assumption|(simp_all;done)⟩)))))))))))))))
  intro eu a H
  try have mI:=dF eu
  exact kH H (aS eu rfl (aS eu rfl (Pf eu rfl (Rm rfl (aS rfl rfl (aS rfl rfl (Pf rfl rfl (Rm rfl (aS rfl rfl (aS rfl rfl (Pf rfl rfl (Rm rfl (aY rfl rfl (Pf rfl rfl (Rm rfl (aY rfl rfl (Pf rfl rfl (ak K4 rfl (LR results10 rfl fun H=>H.rt ⟨_,rfl,fun h=>by first|assumption|(simp_all;done)⟩)))))))))))))))))))
 intro h11 a H
 try have nM:=dF h11
 exact kH H (aS h11 rfl (aS h11 rfl (Pf h11 rfl (Rm rfl (aS rfl rfl (aS rfl rfl (Pf rfl rfl (Rm rfl (aS rfl rfl (aS rfl rfl (Pf rfl rfl (Rm rfl (aS rfl rfl (aS rfl rfl (Pf rfl rfl (Rm rfl (aY rfl rfl (Pf rfl rfl (Rm rfl (aY rfl rfl (Pf rfl rfl (ak K4 rfl (LR results10 rfl fun H=>H.rt ⟨_,rfl,fun h=>by first|assumption|(simp_all;done)⟩)))))))))))))))))))))))
end
section
open Go.RowKit
end
end Go.Proofs.YteopmoocmoigcaaGreat
