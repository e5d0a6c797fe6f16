/-
  What the claim stands on, part 5: Ml16 Dn Ms16 Fd16 Par It Div Rc Nrm Pas L14 L14b L14c L14d L14e Sl Kt K16 Rws Itm Its Rvs Chd Sm16 Rg16 Mn Pb16.
-/
import Derived.Test.YteopmoocmoigcaaGreatWud
namespace Go.Proofs.YteopmoocmoigcaaGreat
open Go.Proofs.Tryz
section
open Go.RowKit
theorem Ng:∀ args w,(callFunc 12 args).run prog w=.ok (.enter 12 args) w:=enters func12 rfl (by kernel_rfl)
theorem acV:∀ args w,(callFunc 36 args).run prog w=.ok (.enter 36 args) w:=enters func36 rfl (by kernel_rfl)
theorem ake (G:GH) (w0:World) (hG:Hold G w0) (x:aA) (i2 i3:Int) (p i5 i6 d l f r:aj) (hs:x.text.size < 4611686018427387904) :
  Calls prog 36 #[.agg #[vi x.kind,vi i2,vi i3,.string x.text,p,i5,i6,d,l,f,r]] w0 (bE w0 G fun v G'=>v=vi (dY x:Nat)∧G=G'):=by
 refine eN [(0,_)] func36 rfl ntmps36 rfl rfl hG ?_;intro a H;refine dB (fun _ K1=>?_);refine eU (cs:=[_,_,_,_,_,_,_,_,_,_,_]) H wn rfl rfl rfl ?_;clear H;intro b1 a w hb1 H;refine kH H (ak K1 rfl (SQ fun _ K2=>SR fun _ K3=>aP jB aC 0 rfl rfl (Rc rfl (Kz K3 (Cd rfl ?_ ?_))))) <;> clear H K1 K3
 ·intro h7 a H
  try have p7:=dT h7
  refine kP H (SR fun _ K4=>aP uj fZ 0 rfl rfl ?_);clear H;intro a H;refine s_call Np H wn rfl (MX _ _ H.ro _ hs) rfl ?_;clear H;rintro v11 _ a w ⟨rfl,rfl⟩ - H;refine kH H (Rm rfl ?_);clear H;intro a H;(iterate 2 refine kN H wn rfl rfl rfl ?_;clear H;intro a H);exact kH H (Ra rfl (ak K4 rfl (SR fun _ K5=>Rm rfl (ak K5 rfl (LR results36 rfl fun H=>H.rt ⟨by unfold dY;rw [au p7],rfl⟩)))))
 intro h7 a H
 try have p7:=dF h7
 exact kP H (Kc K2 (SR fun _ K6=>ak K6 rfl (LR results36 rfl fun H=>H.rt ⟨by unfold dY;rw [ah p7];rfl,rfl⟩)))
theorem ZY {G:GH} {l:List aY} {xs:List aj} (h:fE G 5 (l.map aY.dat) xs):xs=qM l:=by
 obtain ⟨css,rfl,h2,h3⟩:=h;rw [bQ] at h2
 have e:css=l.map aY.cells:=by
  apply List.ext_getElem?
  intro j;rw [qL]
  by_cases hj:j < l.length
  ·have h4:=(h3 j l[j].dat css[j] (by simp [hj]) (gY (by omega))).1;rw [gY hj,gY (by omega),Sk h4];rfl
  rw [List.getElem?_eq_none (by omega),List.getElem?_eq_none (by omega)];rfl
 rw [e];rfl
theorem Sj (a b:List aY):qM (a++b)=qM a++qM b:=by unfold qM;rw [mZ,List.flatten_append]
abbrev vK (v:aj) (A:List aY) (Lo:OL):Prop:=dx 47 5 v A.length (qM A) Lo
theorem vK.one {v:aj} {A:List aY} {Lo:OL} (a:aY) (h:dx 47 5 v (A.length+1) (qM A++a.cells) Lo):vK v (A++[a]) Lo:=by
 show dx _ 5 v (A++[a]).length (qM (A++[a])) Lo
 rw [iA,Sj]
 have e:qM [a]=a.cells:=by simp [qM]
 rw [e];exact h
theorem vK.app {G:GH} {v:aj} {A B:List aY} {n:Nat} {news:List aj} {Lo:OL} (h:dx 47 5 v (A.length+n) (qM A++news) Lo) (hn:B.length=n) (hc:fE G 5 (B.map aY.dat) news):vK v (A++B) Lo:=by
 show dx _ 5 v (A++B).length (qM (A++B)) Lo
 rw [iA,Sj,hn,← ZY hc];exact h
def Mr (m:Nat):Prop:=∀ (G:GH) (w0:World),Hold G w0→∀ (g:Int) (l:List aA) (u:aj),av G (.sl 11 (l.map aA.dat)) u→eY l→bC l < m →
 Calls prog 12 #[u,vi g] w0 (bE w0 G fun r G'=>av G' (.sl 5 ((dL g 0 l).map aY.dat)) r)
set_option maxHeartbeats 4000000 in
theorem ahw {m:Nat} (ih:Mr m) (hm:m≤1073741824):Mr (m+1):=by
 intro G w0 hG g l u hu hok hz;obtain ⟨A,c,rfl,hc1,hc2,hgu⟩:=hu.slice;rw [bQ] at *;have hll:=CQ l;have hln:=wP g 0 l;have hml:maxLen=9223372036854775807:=rfl;refine eN [(0,_),(1,_)] func12 rfl ntmps12 rfl rfl hG ?_;intro a H;refine kP H (SR fun _ K1=>ak K1 rfl (SR fun _ K2=>ak K2 rfl (SR fun _ K3=>ak K3 rfl (SQ fun _ K4=>SR fun _ K5=>ak K5 rfl (SB ?_)))));clear H K1 K2 K3 K5;intro a H;skip;refine eT (ι:=Nat × Nat × aj × List aY × OL × GH) (Tc:=[(0,_),(1,_)]) (Lc:=[]) (fun gh=>[(5,gh.2.2.1),(6,vi gh.2.1),(7,vi gh.1)]) (fun gh=>[]++gh.2.2.2.2.1) (fun gh=>gh.2.2.2.2.2) (fun gh=>gh.1≤l.length∧vK gh.2.2.1 gh.2.2.2.1 gh.2.2.2.2.1∧gh.2.2.2.1++dL g gh.2.1 (l.drop gh.1)=dL g 0 l∧eY (l.drop gh.1)∧gh.2.1+bC (l.drop gh.1)≤4294967297∧(∀ b o,G b=some o→gh.2.2.2.2.2 b=some o)) (fun gh=>l.length - gh.1) ((0,0,.slice none 0 0,[],[],G)) (by exact (H).sub ⟨rfl,rfl,rfl,rfl,rfl,aD⟩) ?_ ?_
 ·exact ⟨iy _,dx.nil,rfl,hok,by dsimp only;rw [uP];omega,fun _ _ h=>h⟩
 clear H;intro gh a w hI H;obtain ⟨k,t,v5,A1,Lo,g1⟩:=gh;dsimp only at hI H;obtain ⟨hk,hr1,hX,hok1,hat,hg1⟩:=hI
 have hl1:A1.length≤bC l:=by have:=ay List.length hX;rw [iA] at this;omega
 obtain ⟨v5A,v5c,rfl,-,-⟩:=hr1.shape;dsimp only [lca,bg] at H;refine kP H (SQ fun _ K6=>SR fun _ K7=>Rm rfl (Rm rfl (Rl gV rfl (Rc rfl (Kz K7 (Cd rfl ?_ ?_)))))) <;> clear H K7
 ·intro dW a H
  try have mQ:=dT dW
  have hk2:k < l.length:=by omega
  obtain ⟨b,o,pA,pn,pc,dA,dn,dc,yA,yn,yc,fA,fn,fc,rA,rn,rc,rfl,hrow,hhd,hfl,hrw⟩:=Ai hk2 hgu;replace hrow:=fun j u hj=>aK hg1 (hrow j u hj);replace hfl:=hfl.mono hg1;replace hrw:=hrw.mono hg1;have hrn:=hrw.len;rw [bQ] at hrn;subst hrn;have hzs:=YH hk2;have hzi:=oU l[k];have Kl:=IK (iL hk2);have DR:=PL l[k];rw [lW hk2] at hX hok1;obtain ⟨hox,hok2⟩:=hok1.head;rw [dL,MC,hox.n1] at hX;rw [hox.n1] at DR;obtain ⟨x,hx⟩:∃ x,x=l[k]:=⟨_,rfl⟩;rw [← hx] at hX hox hrow hhd hfl hrw hzs hzi Kl DR;have hrl:=IQ x.rows;refine kP H (Kc K6 (SQ fun _ K8=>SB (SR fun _ K9=>Rm rfl (Rm rfl (Ri gV dM rfl rfl ?_)))));clear H K6;intro a H;refine bD dM (cs:=[vi x.kind,vi x.code,vi x.id,.string x.text,.slice pA pn pc,vi x.head.marks.ins,vi x.head.marks.move,.slice dA dn dc,.slice yA yn yc,.slice fA fn fc,.slice rA x.rows.length rc]) H wn rfl rfl (fun j v hj=>H.hp.aI (hrow j v hj)) rfl ?_;clear H;intro a H;refine eB dM H wn rfl ?_;clear H;intro b8 a w Dz H;refine bH dM 0 (vs:=[_,_,_,_,_,_,_,_,_,_,_]) _ H wn rfl rfl rfl rfl rfl rfl rfl rfl ?_;clear H;intro w H;dsimp only [List.set,setRow] at H;refine K9 _ _ ?_;clear K9;refine pF (ι:=aj × List aY × OL) (Tc:=[(0,_),(1,_),(6,_),(7,_),(8,_)]) (Lc:=[(_,_)]) (fun gh=>[(5,gh.1)]) (fun gh=>[]++gh.2.2) (fun gh=>g1) (fun gh=>vK gh.1 gh.2.1 gh.2.2∧gh.2.1=A1++(if x.kind=8 then [⟨x.code,x.id,x.text,g,(t:Int)⟩] else [])) (by exact (H).sub ⟨rfl,rfl,rfl,rfl,rfl,aD⟩) ?_ ?_
  ·skip;refine kP H (SR fun _ aT=>aP jB aC 0 rfl rfl (Rc rfl (Kz aT (Cd rfl ?_ ?_)))) <;> clear H aT
   ·intro h23 a H
    try have rU:=dT h23
    refine kP H (SC (Rm rfl (aP Dr aC 0 rfl rfl (aP Af aC 0 rfl rfl (aP uj fZ 0 rfl rfl (Rm rfl (Rm rfl ?_)))))));clear H;intro a H;refine iT Qu [_,_] H wn rfl rfl rfl rfl ?_;clear H;intro a H;refine iT X5 [_,_,_,_,_] H wn rfl rfl rfl rfl ?_;clear H;intro a H;refine gQ kF gq [_,_,_,_,_] [_,_,_,_,_] H wn rfl rfl rfl rfl rfl (by intro i q h;match i,h with|0,h=>exact h|n+1,h=>simp at h) rfl rfl ?_;clear H;intro b35 a w akU H;refine nU (Li:=[_,_]) (Lo:=Lo) (news:=[vi x.code,vi x.id,.string x.text,vi g,vi t]) kF gq rfl rfl H wn rfl rfl hr1 rfl (H.hp.dS 0 rfl rfl) rfl (by omega) (by omega) rfl ?_;clear H;intro v36 Zv a w agp H;refine kH H (Ra rfl ?_);clear H;intro a H;refine aH ?_;refine ⟨(v36,A1++[⟨x.code,x.id,x.text,g,(t:Int)⟩],Zv),by exact (H.dK (Pl:=[_,_]) (cB:=[_]) [1] (by decide) rfl).sub ⟨rfl,rfl,rfl,rfl,rfl,rfl,aD⟩,?_⟩;(try dsimp only);exact ⟨vK.one ⟨x.code,x.id,x.text,g,(t:Int)⟩ agp,by rw [au rU]⟩
   intro h23 a H
   try have rU:=dF h23
   refine gI ?_;refine ⟨(_,A1,Lo),by exact (H).sub ⟨rfl,rfl,rfl,rfl,rfl,rfl,aD⟩,?_⟩;(try dsimp only);exact ⟨hr1,by rw [ah rU,mX]⟩
  clear H;intro gh a w hI H;obtain ⟨v2,A2,Je⟩:=gh;dsimp only at hI H;obtain ⟨hr2,hX2⟩:=hI
  have hl2:A2.length≤bC l+1:=by rw [hX2,iA];split <;> simp only [nL,List.length_nil] <;> omega
  obtain ⟨v2A,v2c,rfl,-,-⟩:=hr2.shape;dsimp only [lca,bg] at H;refine pF (ι:=aj × List aY × OL × GH) (Tc:=[(0,_),(1,_),(6,_),(7,_),(8,_)]) (Lc:=[(_,_)]) (fun gh=>[(5,gh.1)]) (fun gh=>[]++gh.2.2.1) (fun gh=>gh.2.2.2) (fun gh=>vK gh.1 gh.2.1 gh.2.2.1∧gh.2.1=A2++(if x.kind=6 then dL x.id 0 x.flow else [])∧gh.2.1.length≤bC l+1∧(∀ b o,g1 b=some o→gh.2.2.2 b=some o)) (by exact (H).sub ⟨rfl,rfl,rfl,rfl,rfl,aD⟩) ?_ ?_
  ·skip;refine kP H (SR fun _ bq=>aP jB aC 0 rfl rfl (Rc rfl (Kz bq (Cd rfl ?_ ?_)))) <;> clear H bq
   ·intro kU a H
    try have p39:=dT kU
    refine kP H (SC (Rm rfl (aP yV iD 0 rfl rfl (aP Af aC 0 rfl rfl ?_))));clear H;intro a H;refine s_call Ng H wn rfl (ih _ _ H.ro x.id x.flow _ hfl hox.fl (by omega)) rfl ?_;clear H;rintro v45 Mh a w OY OM H;obtain ⟨A45,n45,c45,rfl⟩:=OY.form;have hn45:=OY.len;rw [bQ] at hn45;have ali:=wP x.id 0 x.flow;refine Xz (Li:=[_]) (Lo:=Je) kF gq rfl rfl H wn rfl rfl hr2 OY (by omega) (by omega) rfl ?_;clear H;intro v46 C9 alM a w agr afA H;refine kH H (Ra rfl ?_);clear H;intro a H;refine aH ?_;refine ⟨(v46,A2++dL x.id 0 x.flow,C9,Mh),by exact (H).sub ⟨rfl,rfl,rfl,rfl,rfl,rfl,aD⟩,?_⟩;(try dsimp only);exact ⟨vK.app agr hn45.symm afA,by rw [au p39],by have:=ay List.length hX;simp only [hX2,iA,au p39,ah (show ¬ x.kind=8 by omega),List.length_nil] at this ⊢;omega,OM⟩
   intro kU a H
   try have p39:=dF kU
   refine gI ?_;refine ⟨(_,A2,Je,g1),by exact (H).sub ⟨rfl,rfl,rfl,rfl,rfl,rfl,aD⟩,?_⟩;(try dsimp only);exact ⟨hr2,by rw [ah p39,mX],hl2,fun _ _ h=>h⟩
  clear H;intro gh a w hI H;obtain ⟨v3,A3,Zu,g2⟩:=gh;dsimp only at hI H;obtain ⟨hr3,hX3,hl3,hg2⟩:=hI;obtain ⟨LP,LQ,rfl,-,-⟩:=hr3.shape;dsimp only [lca,bg] at H;refine kP H (SQ fun _ bF=>SR fun _ bJ=>ak bJ rfl (SB ?_));clear H bJ;intro a H;skip;refine eT (ι:=Nat × aj × List aY × OL × GH) (Tc:=[(0,_),(1,_),(6,_),(7,_),(8,_)]) (Lc:=[(_,_)]) (fun gh=>[(5,gh.2.1),(9,vi gh.1)]) (fun gh=>[]++gh.2.2.2.1) (fun gh=>gh.2.2.2.2) (fun gh=>gh.1≤x.rows.length∧vK gh.2.1 gh.2.2.1 gh.2.2.2.1∧gh.2.2.1++kY (x.rows.drop gh.1)=A3++kY x.rows∧(∀ b o,g2 b=some o→gh.2.2.2.2 b=some o)) (fun gh=>x.rows.length - gh.1) ((0,_,A3,Zu,g2)) (by exact (H).sub ⟨rfl,rfl,rfl,rfl,rfl,rfl,rfl,aD⟩) ?_ ?_
  ·exact ⟨iy _,hr3,rfl,fun _ _ h=>h⟩
  clear H;intro gh a w hI H;obtain ⟨rk,v4,A4,RU,g3⟩:=gh;dsimp only at hI H;obtain ⟨Ki,hr4,EY,hg3⟩:=hI;obtain ⟨v4A,v4c,rfl,-,-⟩:=hr4.shape;dsimp only [lca,bg] at H;refine kP H (SQ fun _ bN=>SR fun _ cK=>Rm rfl (aP qN rz 0 rfl rfl (Rl mU rfl (Rc rfl (Kz cK (Cd rfl ?_ ?_)))))) <;> clear H cK
  ·intro jf a H
   try have p51:=dT jf
   have hk3:rk < x.rows.length:=by omega
   obtain ⟨b2,o2,qA,qn,qc,eA,en,ec,zA,zn,zc,cA,cn,cc,rfl,hrow2,AO,hcl⟩:=Im hk3 ((hrw.mono hg2).mono hg3).at_;have hcn:=hcl.len;rw [bQ] at hcn;subst hcn;have r5:aI g3 b2 (o2+rk*6+5)=some (.slice cA x.rows[rk].cells.length cc):=hrow2 5 _ rfl;have hsz2:=LY hk3;have hcs:=II x.rows[rk].cells;have hoc:=hox.rw _ (iL hk3);have har:=ME x.rows;rw [lW hk3,kY,Sb] at EY;obtain ⟨y,hy⟩:∃ y,y=x.rows[rk]:=⟨_,rfl⟩;rw [← hy] at r5 EY hrow2 AO hcl hsz2 hcs hoc;refine kP H (Kc bN (SQ fun _ dw=>SB (SR fun _ bY=>ak bY rfl (SB ?_))));clear H bN bY;intro a H;skip;refine eT (ι:=Nat × aj × List aY × OL × GH) (Tc:=[(0,_),(1,_),(6,_),(7,_),(8,_),(9,_)]) (Lc:=[(_,_)]) (fun gh=>[(5,gh.2.1),(10,vi gh.1)]) (fun gh=>[]++gh.2.2.2.1) (fun gh=>gh.2.2.2.2) (fun gh=>gh.1≤y.cells.length∧vK gh.2.1 gh.2.2.1 gh.2.2.2.1∧gh.2.2.1++(nJ (y.cells.drop gh.1)++kY (x.rows.drop (rk+1)))=A4++(nJ y.cells++kY (x.rows.drop (rk+1)))∧(∀ b o,g3 b=some o→gh.2.2.2.2 b=some o)) (fun gh=>y.cells.length - gh.1) ((0,_,A4,RU,g3)) (by exact (H).sub ⟨rfl,rfl,rfl,rfl,rfl,rfl,rfl,rfl,aD⟩) ?_ ?_
   ·exact ⟨iy _,hr4,rfl,fun _ _ h=>h⟩
   clear H;intro gh a w hI H;obtain ⟨ck,v5',A5,RX,g4⟩:=gh;dsimp only at hI H;obtain ⟨hck,O5,EZ,hg4⟩:=hI;have Qc:=aK hg4 r5
   have hl5:A5.length≤bC l+1+ig x.rows:=by
    have h1:=ay List.length EZ;have h2:=ay List.length EY
    simp only [iA] at h1 h2
    omega
   obtain ⟨FR,FT,rfl,-,-⟩:=O5.shape;dsimp only [lca,bg] at H;refine kP H (SQ fun _ dz=>SR fun _ fC=>Rm rfl (aP qN rz 0 rfl rfl (Rm rfl (Ri mU kE rfl rfl (Rf vV rfl (Rg wI rfl Qc (Rl qH rfl (Rc rfl (Kz fC (Cd rfl ?_ ?_)))))))))) <;> clear H fC
   ·intro xE a H
    try have p62:=dT xE
    have hk4:ck < y.cells.length:=by omega
    obtain ⟨b3,o3,sA,sn,sc,tA,tn,tc,uA,un,uc,gA,gn,gc,rfl,hrow3,hch,hcf⟩:=Gm hk4 (hcl.mono hg4).at_;have O9:=LX hk4;have Ke:=hoc _ (iL hk4);have hlz:=wP y.cells[ck].id 0 y.cells[ck].flow;rw [lW hk4,nJ,R8,oo] at EZ;obtain ⟨z,hzy⟩:∃ z,z=y.cells[ck]:=⟨_,rfl⟩;rw [← hzy] at EZ hrow3 hch hcf O9 Ke hlz;refine kP H (Kc dz (SQ fun _ dN=>SB ?_));clear H dz;intro a H
    have ny:∀ (bT:Nat) (v:aj) (G G':GH),(∀ k o,G k=some o→G' k=some o)→(fun (bT:Nat) (v:aj) (G:GH)=>match bT with|0=>v=.slice FR A5.length FT|1=>v=(aJ b8 10)|2=>v=.slice (some ⟨b2,o2,none⟩) x.rows.length rc|3=>v=vi rk|4=>v=(aJ b2 (o2+rk*6))|5=>v=(aJ b2 (o2+rk*6+5))|6=>v=.slice (some ⟨b3,o3,none⟩) y.cells.length cc|7=>v=vi ck|8=>v=(aJ b3 (o3+ck*7))|9=>v=(aJ b3 (o3+ck*7+6))|10=>v=.slice gA gn gc|11=>v=(aJ b8 10)|12=>v=.slice (some ⟨b2,o2,none⟩) x.rows.length rc|13=>v=vi rk|14=>v=(aJ b2 (o2+rk*6))|15=>v=(aJ b2 (o2+rk*6+5))|16=>v=.slice (some ⟨b3,o3,none⟩) y.cells.length cc|17=>v=vi ck|18=>v=(aJ b3 (o3+ck*7))|19=>v=(aJ b3 (o3+ck*7+0))|20=>v=vi z.id|21=>av G (.sl 5 ((dL z.id 0 z.flow).map aY.dat)) v|_=>True) bT v G→(fun (bT:Nat) (v:aj) (G:GH)=>match bT with|0=>v=.slice FR A5.length FT|1=>v=(aJ b8 10)|2=>v=.slice (some ⟨b2,o2,none⟩) x.rows.length rc|3=>v=vi rk|4=>v=(aJ b2 (o2+rk*6))|5=>v=(aJ b2 (o2+rk*6+5))|6=>v=.slice (some ⟨b3,o3,none⟩) y.cells.length cc|7=>v=vi ck|8=>v=(aJ b3 (o3+ck*7))|9=>v=(aJ b3 (o3+ck*7+6))|10=>v=.slice gA gn gc|11=>v=(aJ b8 10)|12=>v=.slice (some ⟨b2,o2,none⟩) x.rows.length rc|13=>v=vi rk|14=>v=(aJ b2 (o2+rk*6))|15=>v=(aJ b2 (o2+rk*6+5))|16=>v=.slice (some ⟨b3,o3,none⟩) y.cells.length cc|17=>v=vi ck|18=>v=(aJ b3 (o3+ck*7))|19=>v=(aJ b3 (o3+ck*7+0))|20=>v=vi z.id|21=>av G (.sl 5 ((dL z.id 0 z.flow).map aY.dat)) v|_=>True) bT v G':=by
     intro bT v G G' hm h
     match bT,h with
     | 0,h=>exact h
     | 1,h=>exact h
     | 2,h=>exact h
     | 3,h=>exact h
     | 4,h=>exact h
     | 5,h=>exact h
     | 6,h=>exact h
     | 7,h=>exact h
     | 8,h=>exact h
     | 9,h=>exact h
     | 10,h=>exact h
     | 11,h=>exact h
     | 12,h=>exact h
     | 13,h=>exact h
     | 14,h=>exact h
     | 15,h=>exact h
     | 16,h=>exact h
     | 17,h=>exact h
     | 18,h=>exact h
     | 19,h=>exact h
     | 20,h=>exact h
     | 21,h=>exact av.mono hm h
     | 22,h=>exact trivial
     | 23,h=>exact trivial
     | _+24,h=>exact trivial
    refine BK (hmx) [[],[],[1],[],[1,2,3],(ra 1 4),(ra 1 5),[],(ra 1 7),(ra 1 8),(ra 1 9),[],[11],[],[11,12,13],(ra 11 4),(ra 11 5),[],(ra 11 7),(ra 11 8),(ra 11 9),(ra 1 20),(ra 0 22),(ra 0 23)] [22,23] (by kernel_rfl) (by kernel_rfl) (fun (bT:Nat) (v:aj) (G:GH)=>match bT with|0=>v=.slice FR A5.length FT|1=>v=(aJ b8 10)|2=>v=.slice (some ⟨b2,o2,none⟩) x.rows.length rc|3=>v=vi rk|4=>v=(aJ b2 (o2+rk*6))|5=>v=(aJ b2 (o2+rk*6+5))|6=>v=.slice (some ⟨b3,o3,none⟩) y.cells.length cc|7=>v=vi ck|8=>v=(aJ b3 (o3+ck*7))|9=>v=(aJ b3 (o3+ck*7+6))|10=>v=.slice gA gn gc|11=>v=(aJ b8 10)|12=>v=.slice (some ⟨b2,o2,none⟩) x.rows.length rc|13=>v=vi rk|14=>v=(aJ b2 (o2+rk*6))|15=>v=(aJ b2 (o2+rk*6+5))|16=>v=.slice (some ⟨b3,o3,none⟩) y.cells.length cc|17=>v=vi ck|18=>v=(aJ b3 (o3+ck*7))|19=>v=(aJ b3 (o3+ck*7+0))|20=>v=vi z.id|21=>av G (.sl 5 ((dL z.id 0 z.flow).map aY.dat)) v|_=>True) ny H ?_ ?_
    ·clear H;refine aF ?_ ?_ ?_ ?_ (aF ?_ ?_ ?_ ?_ (aF ?_ ?_ ?_ ?_ (aF ?_ ?_ ?_ ?_ (aF ?_ ?_ ?_ ?_ (aF ?_ ?_ (bK rfl) (bK rfl) bX)))))
     ·refine dQ [] rfl trivial (by kernel_rfl) ny rfl rfl ?_;intro bR a w G1 hG HT H fin;exact kH H (Rm rfl fun _ H=>fin H iJ rfl)
     ·refine dQ [] rfl trivial (by kernel_rfl) ny rfl rfl ?_;intro bR a w G1 hG HT H fin;exact kH H (Rf qN rfl fun _ H=>fin H iJ rfl)
     ·refine dQ [(1,66,_)] rfl ⟨fun _ _ h=>h,aD⟩ (by kernel_rfl) ny rfl rfl ?_;intro bR a w G1 hG HT H fin;exact kH H (Ro rz 0 rfl fun _ H=>fin H iJ rfl)
     ·refine dQ [] rfl trivial (by kernel_rfl) ny rfl rfl ?_;intro bR a w G1 hG HT H fin;exact kH H (Rm rfl fun _ H=>fin H iJ rfl)
     ·refine dQ [(2,67,_),(3,68,_)] rfl ⟨fun _ _ h=>h,fun _ _ h=>h,aD⟩ (by kernel_rfl) ny rfl rfl ?_;intro bR a w G1 hG HT H fin;exact kH H (Ri mU kE rfl rfl fun _ H=>fin H iJ rfl)
     ·refine dQ [(4,69,_)] rfl ⟨fun _ _ h=>h,aD⟩ (by kernel_rfl) ny rfl rfl ?_;intro bR a w G1 hG HT H fin;exact kH H (Rf vV rfl fun _ H=>fin H iJ rfl)
     ·refine dQ [(5,70,_)] rfl ⟨fun _ _ h=>h,aD⟩ (by kernel_rfl) ny rfl rfl ?_;intro bR a w G1 hG HT H fin;exact kH H (Rg wI rfl (aK hG Qc) fun _ H=>fin H iJ rfl)
     ·refine dQ [] rfl trivial (by kernel_rfl) ny rfl rfl ?_;intro bR a w G1 hG HT H fin;exact kH H (Rm rfl fun _ H=>fin H iJ rfl)
     ·refine dQ [(6,71,_),(7,72,_)] rfl ⟨fun _ _ h=>h,fun _ _ h=>h,aD⟩ (by kernel_rfl) ny rfl rfl ?_;intro bR a w G1 hG HT H fin;exact kH H (Ri qH mF rfl rfl fun _ H=>fin H iJ rfl)
     ·refine dQ [(8,73,_)] rfl ⟨fun _ _ h=>h,aD⟩ (by kernel_rfl) ny rfl rfl ?_;intro bR a w G1 hG HT H fin;exact kH H (Rf ET rfl fun _ H=>fin H iJ rfl)
     ·refine dQ [(9,74,_)] rfl ⟨fun _ _ h=>h,aD⟩ (by kernel_rfl) ny rfl rfl ?_;intro bR a w G1 hG HT H fin;exact kH H (Rg iD rfl (aK hG (hrow3 6 _ rfl)) fun _ H=>fin H iJ rfl)
     ·refine dQ [] rfl trivial (by kernel_rfl) ny rfl rfl ?_;intro bR a w G1 hG HT H fin;exact kH H (Rf qN rfl fun _ H=>fin H iJ rfl)
     ·refine dQ [(11,76,_)] rfl ⟨fun _ _ h=>h,aD⟩ (by kernel_rfl) ny rfl rfl ?_;intro bR a w G1 hG HT H fin;exact kH H (Ro rz 0 rfl fun _ H=>fin H iJ rfl)
     ·refine dQ [] rfl trivial (by kernel_rfl) ny rfl rfl ?_;intro bR a w G1 hG HT H fin;exact kH H (Rm rfl fun _ H=>fin H iJ rfl)
     ·refine dQ [(12,77,_),(13,78,_)] rfl ⟨fun _ _ h=>h,fun _ _ h=>h,aD⟩ (by kernel_rfl) ny rfl rfl ?_;intro bR a w G1 hG HT H fin;exact kH H (Ri mU kE rfl rfl fun _ H=>fin H iJ rfl)
     ·refine dQ [(14,79,_)] rfl ⟨fun _ _ h=>h,aD⟩ (by kernel_rfl) ny rfl rfl ?_;intro bR a w G1 hG HT H fin;exact kH H (Rf vV rfl fun _ H=>fin H iJ rfl)
     ·refine dQ [(15,80,_)] rfl ⟨fun _ _ h=>h,aD⟩ (by kernel_rfl) ny rfl rfl ?_;intro bR a w G1 hG HT H fin;exact kH H (Rg wI rfl (aK hG Qc) fun _ H=>fin H iJ rfl)
     ·refine dQ [] rfl trivial (by kernel_rfl) ny rfl rfl ?_;intro bR a w G1 hG HT H fin;exact kH H (Rm rfl fun _ H=>fin H iJ rfl)
     ·refine dQ [(16,81,_),(17,82,_)] rfl ⟨fun _ _ h=>h,fun _ _ h=>h,aD⟩ (by kernel_rfl) ny rfl rfl ?_;intro bR a w G1 hG HT H fin;exact kH H (Ri qH mF rfl rfl fun _ H=>fin H iJ rfl)
     ·refine dQ [(18,83,_)] rfl ⟨fun _ _ h=>h,aD⟩ (by kernel_rfl) ny rfl rfl ?_;intro bR a w G1 hG HT H fin;exact kH H (Rf GU rfl fun _ H=>fin H iJ rfl)
     ·refine dQ [(19,84,_)] rfl ⟨fun _ _ h=>h,aD⟩ (by kernel_rfl) ny rfl rfl ?_;intro bR a w G1 hG HT H fin;exact kH H (Rg aC rfl (aK hG (hrow3 0 _ rfl)) fun _ H=>fin H iJ rfl)
     refine dQ [(10,75,_),(20,85,_)] rfl ⟨fun _ _ h=>h,fun _ _ h=>h,aD⟩ (by kernel_rfl) ny rfl rfl ?_;intro bR a w G1 hG HT H fin;refine s_call Ng H wn rfl (ih _ _ H.ro z.id z.flow _ (hcf.mono hG) Ke (by omega)) rfl ?_;clear H;rintro v86 G86 a w Fg aeW H;exact fin H aeW (Fg)
    clear H;intro a w G NY H hv;have H:=H.aR (hv 0 65 rfl rfl) rfl;obtain ⟨u86,agB,Fg⟩:=hv 21 86 (by decide) rfl;(try dsimp only at Fg);obtain ⟨A86,n86,c86,rfl⟩:=Fg.form;have Vn:=Fg.len;rw [bQ] at Vn;have H:=H.kI agB;clear hv;refine Xz (Li:=[_]) (Lo:=RX) kF gq rfl rfl H wn rfl rfl O5 Fg (by omega) (by omega) rfl ?_;clear H;intro v87 Ml alN a w O7 afB H;refine kH H (Ra rfl ?_);clear H;intro a H;refine aH ⟨rfl,?_⟩;refine dN _ _ ?_;clear dN;refine kP H (SC (Rm rfl (Rd rfl (Ra rfl ?_))));clear H;intro a H;refine aH ?_;refine cu ((ck+1,v87,A5++dL z.id 0 z.flow,Ml,_)) (by exact (H).sub ⟨rfl,rfl,rfl,rfl,rfl,rfl,rfl,rfl,aD⟩) ?_ ?_
    ·(try dsimp only);exact ⟨by omega,vK.app O7 Vn.symm afB,by rw [← EZ,oo],fun b o h=>NY b o (hg4 b o h)⟩
    first|omega|(dsimp only;omega)
   intro xE a H
   try have p62:=dF xE
   refine dU ?_;refine dw _ _ ?_;clear dw;refine kP H (SC (Rm rfl (Rd rfl (Ra rfl ?_))));clear H;intro a H;refine aH ?_;refine cu ((rk+1,_,A5,RX,g4)) (by exact (H).sub ⟨rfl,rfl,rfl,rfl,rfl,rfl,rfl,aD⟩) ?_ ?_
   ·(try dsimp only);rw [iK (by omega),nJ,kJ] at EZ;exact ⟨by omega,O5,EZ.trans EY,fun b o h=>hg4 b o (hg3 b o h)⟩
   first|omega|(dsimp only;omega)
  intro jf a H
  try have p51:=dF jf
  refine dU ?_;refine bF _ _ ?_;clear bF;refine kP H (SC (Rm rfl ?_));clear H;intro a H;refine bD dM (cs:=[_,_,_,_,_,_,_,_,_,_,_]) H wn rfl rfl (H.hp.dS 0 rfl rfl) rfl ?_;clear H;intro a H;refine s_call acV H wn rfl (ake _ _ H.ro x _ _ _ _ _ _ _ _ _ (by omega)) rfl ?_;clear H;rintro v90 _ a w ⟨rfl,rfl⟩ - H;refine kH H (Rd rfl (aU K8 rfl (SC (Rm rfl (Rd rfl (Ra rfl ?_))))));clear H K8;intro a H;refine aH ?_;refine cu ((k+1,t+dY x,_,A4,RU,g3)) (by exact (H.dK (Pl:=[_]) (cB:=[]) [] (by decide) rfl).sub ⟨rfl,rfl,rfl,rfl,rfl,aD⟩) ?_ ?_
  ·try dsimp only
   have agn:(if x.kind=7 then kY x.rows else [])=kY x.rows:=by
    by_cases h7:x.kind=7
    ·rw [au h7]
    rw [ah h7,hox.KS h7];rfl
   rw [iK (by omega),kY,mX] at EY;exact ⟨by omega,hr4,by rw [EY,hX3,hX2,← hX,agn];simp only [oo],hok2,by omega,fun b o h=>hg3 b o (hg2 b o (hg1 b o h))⟩
  first|omega|(dsimp only;omega)
 intro dW a H
 try have mQ:=dF dW
 refine dU ?_;refine K4 _ _ ?_;clear K4;refine kP H (SR fun _ fQ=>Rm rfl (ak fQ rfl ?_));clear H fQ;intro a H;refine lr H results12 rfl ?_;rw [iK (by omega),dL,mX] at hX;obtain ⟨Gr,hmr,hrep,H⟩:=St.uo (Li:=[]) H hr1 (rows:=A1.map aY.dat) (by simp) (MI _ _);exact H.rt (by rw [← hX];exact hrep)
theorem WB:∀ m:Nat,m≤1073741825→Mr m
 | 0,_=>fun _ _ _ _ _ _ _ _ h=>absurd h (by omega)
 | m+1,hm=>ahw (WB m (by omega)) (by omega)
def pR (A:List aY) (c i:Int):Int:=match A.findIdx? (fun a=>decide (a.code=c∧a.id=i)) with|some k=>k|none=>-1
theorem BQ (G:GH) (w0:World) (hG:Hold G w0) (A:List aY) (v:aj) (c i:Int) (hv:av G (.sl 5 (A.map aY.dat)) v) (hl:A.length≤4294967296) :
  Calls prog 38 #[v,vi c,vi i] w0 (bE w0 G fun u G'=>u=vi (pR A c i)∧G=G'):=by
 obtain ⟨vA,n,cc,rfl⟩:=hv.form;have hn:=hv.len;rw [bQ] at hn;subst hn;refine eN [(0,_),(1,_),(2,_)] func38 rfl ntmps38 rfl rfl hG ?_;intro a H;refine kP H (SR fun _ K1=>ak K1 rfl (SQ fun _ K2=>SR fun _ K3=>ak K3 rfl (SB ?_)));clear H K1 K3;intro a H;skip;refine eT (ι:=Nat) (Tc:=[(0,_),(1,_),(2,_)]) (Lc:=[]) (fun gh=>[(7,vi gh)]) (fun gh=>[]) (fun gh=>G) (fun gh=>gh≤A.length∧(A.take gh).findIdx? (fun a=>decide (a.code=c∧a.id=i))=none) (fun gh=>A.length - gh) (0) (by exact (H).sub ⟨rfl,rfl,rfl,rfl,aD⟩) ?_ ?_
 ·exact ⟨by omega,rfl⟩
 clear H;intro gh a w hI H;obtain ⟨k,hgh⟩:∃ x,x=gh:=⟨_,rfl⟩;subst hgh;obtain ⟨hk,hno⟩:=hI;dsimp only [lca,bg] at H;refine kP H (SQ fun _ K4=>SR fun _ K5=>Rm rfl (Rm rfl (Rl kF rfl (Rc rfl (Kz K5 (Cd rfl ?_ ?_)))))) <;> clear H K5
 ·intro h11 a H
  try have nR:=dT h11
  have hk2:k < A.length:=by omega
  obtain ⟨b,o,rfl,hrow⟩:=BJ hv hk2;refine kP H (Kc K4 (SQ fun _ K6=>SB (SR fun _ K7=>Rm rfl (Rm rfl (Ri kF gq rfl rfl (Rf jr rfl (Rg aC rfl (hrow 0 _ rfl) (Rm rfl (Rc rfl (Rm rfl (Sp 21 rfl ?_ ?_))))))))))) <;> clear H K4
  ·intro h21 a H
   try have pV:=dT h21
   refine kH H (YM h21 rfl (YM h21 rfl (YI kF gq h21 rfl rfl (YF nM h21 rfl (YR aC h21 rfl (hrow 1 _ rfl) (YM h21 rfl (YC h21 rfl (Pt h21 rfl (Kz K7 (Cd rfl ?_ ?_)))))))))) <;> clear H K7
   ·intro jW a H
    try have p29:=dT jW
    exact kP H (SR fun _ K8=>Rm rfl (ak K8 rfl (LR results38 rfl fun H=>H.rt ⟨by unfold pR;rw [uF hk2 hno (by simp_all)],rfl⟩)))
   intro jW a H
   try have p29:=dF jW
   refine kP H (Kc K6 (SC (Rm rfl (Rd rfl (Ra rfl ?_)))));clear H K6;intro a H;refine aH ?_;refine cu ((k+1)) (by exact (H).sub ⟨rfl,rfl,rfl,rfl,aD⟩) ?_ ?_
   ·exact ⟨by omega,AX hk2 hno (by simp_all)⟩
   first|omega|(dsimp only;omega)
  intro h21 a H
  try have pV:=dF h21
  refine kH H (aX h21 rfl (aQ h21 rfl (aQ h21 rfl (Pf h21 rfl (Kz K7 (Cf rfl rfl (Kc K6 (SC (Rm rfl (Rd rfl (Ra rfl ?_)))))))))));clear H K7 K6;intro a H;refine aH ?_;refine cu ((k+1)) (by exact (H).sub ⟨rfl,rfl,rfl,rfl,aD⟩) ?_ ?_
  ·exact ⟨by omega,AX hk2 hno (by simp_all)⟩
  first|omega|(dsimp only;omega)
 intro h11 a H
 try have nR:=dF h11
 refine dU ?_;refine K2 _ _ ?_;clear K2;exact kP H (SR fun _ K9=>ak K9 rfl (LR results38 rfl fun H=>H.rt ⟨by rw [show A.take k=A from jH (by omega)] at hno;unfold pR;rw [hno],rfl⟩))
end
section
open Go.RowKit
section
variable {N:Nat} {D:List Deferred} {w0:World} {F:Nat→Prop} {G0 G G1 G2:GH} {L L1 L2:OL} {T Xs:List (Nat × aj)}
variable {r:Option Nat} {P:Program} {Q:Exit→Act→World→Prop} {l:List Oper} {a a':Act} {w w':World}
end
end
section
open Go.RowKit
theorem BL:∀ args w,(callFunc 38 args).run prog w=.ok (.enter 38 args) w:=enters func38 rfl (by kernel_rfl)
theorem V4 {A:List aY} {p:aY→Bool}:match A.findIdx? p with|some k=>∃ hk:k < A.length,A.find? p=some A[k]|none=>A.find? p=none:=by
 cases h:A.findIdx? p with
 | none =>
  dsimp only;rw [List.find?_eq_none];intro x hx;have:=List.findIdx?_eq_none_iff.1 h x hx
  simp [this]
 | some k =>
  obtain ⟨hk,h1,h2⟩:=List.findIdx?_eq_some_iff_getElem.1 h;refine ⟨hk,?_⟩;rw [List.find?_eq_some_iff_getElem];exact ⟨h1,k,hk,rfl,fun j hj=>by simpa using h2 j hj⟩
theorem Kt {A:List aY} {c i:Int} (h:¬ 0≤pR A c i):iU A c i=none:=by
 have:=V4 (A:=A) (p:=fun a=>decide (a.code=c∧a.id=i))
 unfold pR at h
 cases hk:A.findIdx? (fun a=>decide (a.code=c∧a.id=i)) with
 | none=>rw [hk] at this;exact this
 | some k=>rw [hk] at h;exact absurd (Int.natCast_nonneg k) h
theorem Fq {A:List aY} {c i:Int} (h:0≤pR A c i):∃ (j:Nat) (hj:j < A.length),pR A c i=j∧iU A c i=some A[j]:=by
 have:=V4 (A:=A) (p:=fun a=>decide (a.code=c∧a.id=i))
 unfold pR at h ⊢
 cases hk:A.findIdx? (fun a=>decide (a.code=c∧a.id=i)) with
 | none=>rw [hk] at h;exact absurd h (by decide)
 | some k=>rw [hk] at this;obtain ⟨hj,e⟩:=this;exact ⟨k,hj,rfl,e⟩
theorem Ib {A:List aY} (hnd:A.Nodup) {c:Int} {k:Nat} (hk:k < A.length) (hc:A[k].code=c):(!decide (pR A c A[k].id=(k:Int)))=!jE A c A[k]:=by
 have hmem:0≤pR A c A[k].id:=by
  unfold pR
  cases hi:A.findIdx? (fun a=>decide (a.code=c∧a.id=A[k].id)) with
  | none =>
   have:=List.findIdx?_eq_none_iff.1 hi A[k] (iL hk)
   simp [hc] at this
  | some j=>exact Int.natCast_nonneg j
 obtain ⟨j,hj,e1,e2⟩:=Fq hmem
 unfold jE
 rw [e1,e2]
 congr 1
 rw [ng,decide_eq_true_iff,decide_eq_true_iff]
 constructor
 ·intro e
  obtain rfl:j=k:=by omega
  exact ⟨hc,rfl⟩
 rintro ⟨-,e⟩;have:=(List.getElem_inj hnd).1 (Option.some.inj e)
 omega
theorem adK:FX prog 55 [(0,0),(1,1),(2,2),(4,2)]:=⟨by kernel_rfl,by kernel_rfl,by kernel_rfl,by kernel_rfl,by kernel_rfl⟩
theorem Qt {G:GH} {A:List kG} {v:Option Addr} {n c k:Nat} (h:av G (.sl 6 (A.map kG.dat)) (.slice v n c)) (hk:k < A.length):∃ b o,v=some ⟨b,o,none⟩∧∀ j u,A[k].cells[j]?=some u→aI G b (o+k*6+j)=some u:=by
 obtain ⟨b,o,cs,rfl,hcl,hrow,hr⟩:=h.at_ k A[k].dat (by simp [hk]);obtain rfl:=XW hr;exact ⟨b,o,rfl,hrow⟩
end
section
open Go.RowKit
theorem acW:∀ args w,(callFunc 37 args).run prog w=.ok (.enter 37 args) w:=enters func37 rfl (by kernel_rfl)
theorem aei:bW prog 55 1 1:=⟨by kernel_rfl⟩
theorem TJ:∀ args w,(callFunc 14 args).run prog w=.ok (.enter 14 args) w:=enters func14 rfl (by kernel_rfl)
theorem acZ:∀ args w,(callFunc 46 args).run prog w=.ok (.enter 46 args) w:=enters func46 rfl (by kernel_rfl)
theorem ada:∀ args w,(callFunc 47 args).run prog w=.ok (.enter 47 args) w:=enters func47 rfl (by kernel_rfl)
theorem SF (G:GH) (w0:World) (hG:Hold G w0) (D:mI) (l:List aA) (hv:av G (.sl 11 (l.map aA.dat)) (eD D.f)) (hok:eY l) (hz:bC l≤1073741824) :
  Calls prog 14 #[D.val] w0 (bE w0 G fun u G'=>av G' (.sl 6 ((zD (dL 0 0 l) 1).map kG.dat)) u):=by
 refine eN [(0,_)] func14 rfl ntmps14 rfl rfl hG ?_;intro a H;refine dB (fun _ K1=>?_);refine eU (cs:=[_,_,_,_,_,_,_,_,_,_,_]) H wn rfl rfl rfl ?_;clear H;intro b1 a w hb1 H;refine kH H (ak K1 rfl (SQ fun _ K2=>?_));clear H K1;intro a H;obtain ⟨Ga,hma,hb',H⟩:=H.dP;have hga:=fun j v hj=>xq hb' 0 D.cells rfl j v hj;refine pE ?_;refine bD ru (cs:=D.cells) H wn rfl rfl (fun j v hj=>H.hp.aI (hga j v hj)) rfl ?_;clear H;intro a H;refine s_call acW H wn rfl (ajG _ _ H.ro D l (hv.mono hma) hok hz 1 (by omega)) rfl ?_;clear H;rintro v4 G4 a w hr Hy H;obtain ⟨A4,n4,c4,rfl⟩:=hr.form;exact kH H (aU K2 rfl (LR results14 rfl fun H=>H.rt hr))
theorem aer {G:GH} {b:Nat} {s:ByteArray} (hb:aI G b 0=some (.string s)) (x:kG):uM (.func (.func 47) #[] #[(aJ b 0)]) G x.dat (decide (x.name=s)):=by
 intro G1 w0 cs hm hG hr;obtain rfl:=XW hr;refine lX (caps:=[(aJ b 0)]) ada ?_;replace hb:=aK hm hb;refine eN [(0,_),(1,_)] func47 rfl ntmps47 rfl rfl hG ?_;intro a H;refine dB (fun _ K1=>?_);refine eU (cs:=[_,_,_,_,_,_]) H wn rfl rfl rfl ?_;clear H;intro b2 a w hb2 H;refine kH H (ak K1 rfl (SR fun _ K2=>aP aei fZ 0 rfl rfl (Rg fZ rfl hb ?_)));clear H K1;intro a H;refine zy H wn rfl rfl rfl ?_;clear H;intro a H;exact kH H (ak K2 rfl (LR results47 rfl fun H=>H.rt (aG (by rw [ng,decide_eq_true_iff,beq_iff_eq];exact ⟨Jt,fun h=>by rw [h]⟩))))
theorem agM (G:GH) (w0:World) (hG:Hold G w0) (l:List kG) (p:kG→Bool) (v fv:aj) (hv:av G (.sl 6 (l.map kG.dat)) v) (hf:∀ x∈l,uM fv G x.dat (p x)) :
  Calls prog 46 #[v,fv] w0 (bE w0 G fun u G'=>u=vi (nP (l.findIdx? p))):=by
 obtain ⟨A,c,rfl,hc1,hc2,-⟩:=hv.slice;have hml:maxLen=9223372036854775807:=rfl;rw [bQ] at *;refine eN [(0,_),(1,_)] func46 rfl ntmps46 rfl rfl hG ?_;intro a H;refine kP H (SR fun _ K1=>ak K1 rfl (SQ fun _ K2=>SR fun _ K3=>Rm rfl (Rl Es rfl (Rm rfl (Kz K3 (SB ?_))))));clear H K1 K3;intro a H;skip;refine eT (ι:=Nat × GH) (Tc:=[(0,_),(1,_),(7,_)]) (Lc:=[]) (fun gh=>[(8,vi gh.1)]) (fun gh=>[]) (fun gh=>gh.2) (fun gh=>gh.1≤l.length∧(l.take gh.1).findIdx? p=none∧(∀ b o,G b=some o→gh.2 b=some o)) (fun gh=>l.length - gh.1) ((0,G)) (by exact (H).sub ⟨rfl,rfl,rfl,rfl,aD⟩) ?_ ?_
 ·exact ⟨by omega,rfl,fun _ _ h=>h⟩
 clear H;intro gh a w hI H;obtain ⟨k,g⟩:=gh;dsimp only at hI H;obtain ⟨hk,hno,hgm⟩:=hI;dsimp only [lca,bg] at H;refine kP H (SR fun _ K4=>Rc rfl (Kz K4 (SQ fun _ K5=>Cd rfl ?_ ?_))) <;> clear H K4
 ·intro h9 a H
  try have p9:=dT h9
  have hk2:k < l.length:=by omega
  obtain ⟨b,o,rfl,hrow⟩:=Qt hv hk2;refine kP H (Kc K5 (SQ fun _ K6=>SB (SR fun _ K7=>Rm rfl (ak K7 rfl (SR fun _ K8=>Rm rfl (Rm rfl (Rm rfl (Ri Es qE rfl rfl ?_))))))));clear H K5 K7;intro a H;refine bD qE (cs:=l[k].cells) H wn rfl rfl (fun j v hj=>H.hp.aI (aK hgm (hrow j v hj))) rfl ?_;clear H;intro a H;refine pX H wn rfl rfl (hf _ (iL hk2) _ _ _ hgm H.ro (XY _ l[k])) rfl ?_;clear H;rintro v16 rF a w rfl rQ H;refine K8 _ _ ?_;clear K8;refine kr H rfl ?_ ?_
  ·intro h16
   try have p16:=dT h16
   refine kP H (SR fun _ K9=>Rm rfl (ak K9 rfl ?_));clear H K9;intro a H;refine lr H results46 rfl ?_
   first
    | exact H.rt (by rw [uF hk2 hno h16];rfl)
    | exact H.rt (by rw [show l.take k=l from jH (by omega)] at hno;rw [hno];rfl)
  intro h16
  try have p16:=dF h16
  refine kP H (Kc K6 (SC (Rd rfl (Rm rfl ?_))));clear H K6;intro a H;refine aH ?_;refine cu ((k+1,rF)) (by exact (H).sub ⟨rfl,rfl,rfl,rfl,aD⟩) ?_ ?_
  ·(try dsimp only);exact ⟨by omega,AX hk2 hno h16,fun b o h=>rQ b o (hgm b o h)⟩
  first|omega|(dsimp only;omega)
 intro h9 a H
 try have p9:=dF h9
 refine dU ?_;refine K2 _ _ ?_;clear K2;refine kP H (SR fun _ aT=>ak aT rfl ?_);clear H aT;intro a H;refine lr H results46 rfl ?_
 first
  | exact H.rt (by rw [uF hk2 hno h16];rfl)
  | exact H.rt (by rw [show l.take k=l from jH (by omega)] at hno;rw [hno];rfl)
def akE:kG:=⟨0,⟨#[]⟩,0,0,0,0⟩
def GV (l:List aA) (s:ByteArray):Option kG:=(zD (dL 0 0 l) 1).find? fun x=>decide (x.name=s)
theorem agU {l:List kG} {p:kG→Bool}:(¬ 0≤nP (l.findIdx? p)→l.find? p=none)∧(0≤nP (l.findIdx? p)→∃ (k:Nat) (hk:k < l.length),nP (l.findIdx? p)=k∧l.find? p=some l[k]):=by
 cases h:l.findIdx? p with
 | none =>
  refine ⟨fun _=>?_,fun h=>absurd h (by decide)⟩;rw [List.find?_eq_none];intro x hx;have:=List.findIdx?_eq_none_iff.1 h x hx
  simp [this]
 | some k =>
  obtain ⟨hk,h1,h2⟩:=List.findIdx?_eq_some_iff_getElem.1 h;refine ⟨fun hn=>absurd (Int.natCast_nonneg k) hn,fun _=>⟨k,hk,rfl,?_⟩⟩;rw [List.find?_eq_some_iff_getElem];exact ⟨h1,k,hk,rfl,fun j hj=>by simpa using h2 j hj⟩
theorem ZL (G:GH) (w0:World) (hG:Hold G w0) (D:mI) (l:List aA) (s:ByteArray) (hv:av G (.sl 11 (l.map aA.dat)) (eD D.f)) (hok:eY l) (hz:bC l≤1073741824) :
  Calls prog 26 #[D.val,.string s] w0 (bE w0 G fun u G'=>u=.tuple #[.agg ((GV l s).getD akE).cells.toArray,.bool (GV l s).isSome]):=by
 refine eN [(0,_),(1,_)] func26 rfl ntmps26 rfl rfl hG ?_;intro a H;refine dB (fun _ K1=>?_);refine eU (cs:=[_,_,_,_,_,_,_,_,_,_,_]) H wn rfl rfl rfl ?_;clear H;intro b2 a w hb2 H;refine eU (cs:=[_]) H wn rfl rfl rfl ?_;clear H;intro b3 a w hb3 H;refine eB qE H wn rfl ?_;clear H;intro b4 a w hb4 H;refine kH H (ak K1 rfl (SQ fun _ K2=>?_));clear H K1;intro a H;have H:=H.dK (Pl:=[_,_,_]) (cB:=[_,_,_]) [2,1,0] (by decide) rfl;obtain ⟨Ga,hma,hb',H⟩:=H.dP;obtain ⟨Gb,hmb,xI,H⟩:=H.dP;have hga:=fun j v hj=>aK hmb (xq hb' 0 D.cells rfl j v hj);replace hv:=(hv.mono hma).mono hmb
 have hs3:aI Gb b3 0=some (.string s):=by unfold aI;rw [xI];rfl
 refine pE ?_;refine bD ru (cs:=D.cells) H wn rfl rfl (fun j v hj=>H.hp.aI (hga j v hj)) rfl ?_;clear H;intro a H;refine s_call TJ H wn rfl (SF _ _ H.ro D l hv hok hz) rfl ?_;clear H;rintro v9 G9 a w hr xK H;obtain ⟨R,hR⟩:∃ R,R=zD (dL 0 0 l) 1:=⟨_,rfl⟩
 have hfn:GV l s=R.find? fun x=>decide (x.name=s):=by rw [hR];rfl
 rw [← hR] at hr;obtain ⟨A9,n9,c9,rfl⟩:=hr.form;have Vo:=hr.len;rw [bQ] at Vo;subst Vo;refine kH H (aU K2 rfl (SQ fun _ K3=>SR fun _ K4=>Rm rfl ?_));clear H K2;intro a H;refine pY H wn rfl rfl ?_;clear H;intro a H;refine s_call acZ H wn rfl (agM _ _ H.ro R (fun x=>decide (x.name=s)) _ _ hr (fun x _=>aer (aK xK hs3) x)) rfl ?_;clear H;rintro v12 BA a w rfl DC H;obtain ⟨hx1,hx2⟩:=agU (l:=R) (p:=fun x=>decide (x.name=s));replace hr:=hr.mono DC;refine kH H (ak K4 rfl (SR fun _ K5=>Rm rfl (Rc rfl (Kz K5 (Cd rfl ?_ ?_))))) <;> clear H K4 K5
 ·intro dW a H
  try have mQ:=dT dW
  obtain ⟨k,hk,e1,e2⟩:=hx2 mQ;obtain ⟨b,o,rfl,hrow⟩:=Qt hr hk;rw [e1] at H;refine kP H (SR fun _ K6=>Rm rfl (Rm rfl (Ri Es qE rfl rfl ?_)));clear H;intro a H;refine bD qE (cs:=R[k].cells) H wn rfl rfl (fun j v hj=>H.hp.aI (hrow j v hj)) rfl ?_;clear H;intro a H;refine bH qE 0 (vs:=[_,_,_,_,_,_]) _ H wn rfl rfl rfl rfl rfl rfl rfl rfl ?_;clear H;intro w H;dsimp only [List.set,setRow] at H;refine kH H (ak K6 rfl ?_);clear H K6;intro a H;refine cZ ?_;refine (fG H results26 (.cons (Bh qE (cs:=[_,_,_,_,_,_]) H rfl rfl (H.hp.dS 0 rfl rfl)) (.cons (aW H rfl) .nil)) ?_).1;exact H.rt (by rw [hfn,e2];rfl)
 intro dW a H
 try have mQ:=dF dW
 have e2:=hx1 mQ;refine gI ?_;refine K3 _ _ ?_;clear K3;refine dB (fun _ K7=>?_);refine iT Qv [_,_,_,_,_,_] H wn rfl rfl rfl rfl ?_;clear H;intro a H;refine bH qE 0 (vs:=[_,_,_,_,_,_]) _ H wn rfl rfl rfl rfl rfl rfl rfl rfl ?_;clear H;intro w H;dsimp only [List.set,setRow] at H;refine kH H (ak K7 rfl ?_);clear H K7;intro a H;refine cZ ?_;refine (fG H results26 (.cons (Bh qE (cs:=[_,_,_,_,_,_]) H rfl rfl (H.hp.dS 0 rfl rfl)) (.cons (aW H rfl) .nil)) ?_).1;exact H.rt (by rw [hfn,e2];rfl)
end
section
open Go.RowKit
end
section
open Go.RowKit
theorem TB:∀ args w,(callFunc 103 args).run prog w=.ok (.enter 103 args) w:=enters func103 rfl (by kernel_rfl)
def gN:Nat→List aA→List (Nat × aA)
 | _,[]=>[]
 | o,x :: l=>(o,x) :: gN (o+dY x) l
def Fp (a:Nat × aA):AP:=fun args g=>∃ cs,args=[vi a.1,.agg cs.toArray]∧aZ g a.2.dat cs
theorem VY {A:List (Nat × aA)} {k:Nat} {args:List aj} {g:GH} (h:uK (A.map Fp) k args g):∃ (hk:k < A.length) (cs:List aj),args=[vi A[k].1,.agg cs.toArray]∧aZ g A[k].2.dat cs:=by
 obtain ⟨p,hp,hargs⟩:=h;rw [qL] at hp;obtain ⟨q,hq,rfl⟩:=lK.1 hp;obtain ⟨hk,rfl⟩:=jk.1 hq;obtain ⟨cs,h1,h2⟩:=hargs;exact ⟨hk,cs,h1,h2⟩
theorem WQ:∀ (l:List aA) (o:Nat),(gN o l).length=l.length
 | [],_=>rfl
 | x :: l,o=>by simp [gN,WQ l]
theorem QI (x:aA):dY x < dh x.dat:=by
 have:=oU x;have h2:=Gw x.text
 unfold dY;split <;> omega
set_option maxHeartbeats 1000000 in
theorem agR {G:GH} {bd:Nat} {l:List aA} {v:aj} (hb:aI G bd 0=some v) (hv:av G (.sl 11 (l.map aA.dat)) v) (hz:bC l≤4294967290) :
  Iter prog G (.func (.func 103) #[] #[(aJ bd 0)]) ((gN 0 l).map Fp):=by
 intro J Jx fv G1 L w0 U6 hGi uY hJx hJ hO hcb;refine lX (caps:=[(aJ bd 0)]) TB ?_;obtain ⟨A,c,rfl,hc1,hc2,hg⟩:=hv.slice;rw [bQ] at *;have hll:=CQ l;replace hb:=aK hGi hb;refine jO (N:=28) (T:=[(0,_),(1,_)]) func103 rfl ntmps103 rfl rfl hO ?_;intro a H;refine kP H (SR fun _ K1=>ak K1 rfl (SR fun _ K2=>Rg iD rfl (by assumption) ?_));clear H K1;intro a H;refine kH H (Rl gV rfl (Rm rfl (Kz K2 (SB ?_))));clear H K2;intro a H;skip;refine eT (ι:=Nat × Nat × Nat × OL × GH) (Tc:=[(0,_),(8,_),(9,_)]) (Lc:=[]) (fun gh=>[(3,vi gh.2.1),(10,vi gh.1)]) (fun gh=>[]++gh.2.2.2.1) (fun gh=>gh.2.2.2.2) (fun gh=>gh.1≤l.length∧(∀ b o,G1 b=some o→gh.2.2.2.2 b=some o)∧Now ((gN 0 l).map Fp) Fp J (gN 0 l).length gh.2.2.1 (gN gh.2.1 (l.drop gh.1)) gh.2.2.2.2 gh.2.2.2.1∧gh.2.1+bC (l.drop gh.1)≤4294967290) (fun gh=>l.length - gh.1) ((0,0,0,L,G1)) (by exact (H).sub ⟨rfl,rfl,rfl,rfl,rfl,aD⟩) ?_ ?_
 ·exact ⟨by omega,fun _ _ h=>h,⟨hJ,fun i a h=>by rw [kR,qL];rw [uP] at h;rw [h];rfl,by simp⟩,by simp;omega⟩
 clear H;intro gh a w hI H;obtain ⟨k,at_,j1,Lt,g⟩:=gh;dsimp only at hI H;obtain ⟨hk,hgm,dZ,hat⟩:=hI;dsimp only [lca,bg] at H;refine bA (fun _ K3=>?_);skip;refine kP H (SC (Rc rfl (Kn K3 (SQ fun _ K4=>Cd rfl ?_ ?_)))) <;> clear H K3
 ·intro h11 a H
  try have nR:=dT h11
  have hk2:k < l.length:=by omega
  obtain ⟨b,o,pA,pn,pc,dA,dn,dc,yA,yn,yc,fA,fn,fc,rA,rn,rc,rfl,hrow,hhd,hfl,hrw⟩:=Ai hk2 hg;have J2:∀ b o,G b=some o→g b=some o:=fun b o h=>hgm b o (hGi b o h);replace hrow:=fun j u hj=>aK J2 (hrow j u hj);have hsz2:=IK (iL hk2);have hn1:=QI l[k];have hzi:=oU l[k];rw [lW hk2] at dZ hat;rw [bC,eZ,eX] at hat;rw [gN] at dZ;refine kP H (Kc K4 (SQ fun _ K5=>SB (SR fun _ K6=>Ri gV dM rfl rfl ?_)));clear H K4;intro a H;refine bD dM (cs:=[_,_,_,_,_,_,_,_,_,_,_]) H wn rfl rfl (fun j v hj=>H.hp.aI (hrow j v hj)) rfl ?_;clear H;intro a H;refine eB dM H wn rfl ?_;clear H;intro b5 a w hb5 H;refine bH dM 0 (vs:=[_,_,_,_,_,_,_,_,_,_,_]) _ H wn rfl rfl rfl rfl rfl rfl rfl rfl ?_;clear H;intro w H;dsimp only [List.set,setRow] at H;refine K6 _ _ ?_;clear K6;refine kP H (SQ fun _ K7=>SR fun _ K8=>Rm rfl (Rm rfl ?_));clear H;intro a H;refine bD dM (cs:=[_,_,_,_,_,_,_,_,_,_,_]) H wn rfl rfl (H.hp.dS 0 rfl rfl) rfl ?_;clear H;intro a H;refine FC (Li:=[_]) (L:=Lt) H wn rfl rfl (hcb j1 _ _ _ _ ⟨_,dZ.head,_,rfl,aZ.mkItem (hhd.mono J2) (hfl.mono J2) (hrw.mono J2)⟩ hgm dZ.now (Hp.owns (Li:=[_]) H.hp)) rfl ?_;clear H;rintro v17 uL Mq a w ⟨b17,rfl,hb1,hb2⟩ nO H;refine kH H (Rn rfl (Kz K8 (Cd rfl ?_ ?_))) <;> clear H K8
  ·intro h18 a H
   try have wz:=dT h18
   refine cZ ?_;refine (leave0 H results103 ?_).1
   first
    | exact H.hp.fI (L':=Mq) (by repeat (first|exact fV _|apply List.Sublist.cons)) (.inr (hb2 (by simpa using h18)))
    | exact H.hp.eP (.inl (by have:=dZ.len;rw [iK (by omega)] at this;simp only [gN,List.length_nil,tT] at this;(try rw [bQ]);rw [← this];exact dZ.now))
  intro h18 a H
  try have wz:=dF h18
  refine gI ?_;refine K7 _ _ ?_;clear K7;refine dB (fun _ K9=>?_);refine bD dM (cs:=[_,_,_,_,_,_,_,_,_,_,_]) H wn rfl rfl (H.hp.dS 0 rfl rfl) rfl ?_;clear H;intro a H;refine s_call Nn H wn rfl (QJ _ _ H.ro _ _ _ _ _ _ _ _ _ _ (by omega)) rfl ?_;clear H;rintro v21 _ a w ⟨rfl,rfl⟩ - H;refine kH H (Rm rfl ?_);clear H;intro a H;(iterate 2 refine kN H wn rfl rfl rfl ?_;clear H;intro a H);refine kH H (Ra rfl (ak K9 rfl (SC (Rm rfl (Rm rfl (Rd rfl (aU K5 rfl (SC (Rd rfl (Rm rfl ?_))))))))));clear H K9 K5;intro a H;refine aH ?_;refine cu ((k+1,at_+dY l[k],j1+1,Mq,uL)) (by exact (H.dK (Pl:=[_]) (cB:=[]) [] (by decide) rfl).sub ⟨rfl,rfl,rfl,rfl,rfl,aD⟩) ?_ ?_
  ·(try dsimp only);exact ⟨by omega,fun b o h=>nO b o (hgm b o h),dZ.step (hb1 (by simpa using h18)),by show at_+dY l[k]+eX ((l.drop (k+1)).map aA.dat)≤4294967290;omega⟩
  first|omega|(dsimp only;omega)
 intro h11 a H
 try have nR:=dF h11
 refine dU ?_;refine (leave0 H results103 ?_).2
 first
  | exact H.hp.fI (L':=Mq) (by repeat (first|exact fV _|apply List.Sublist.cons)) (.inr (hb2 (by simpa using h18)))
  | exact H.hp.eP (.inl (by have:=dZ.len;rw [iK (by omega)] at this;simp only [gN,List.length_nil,tT] at this;(try rw [bQ]);rw [← this];exact dZ.now))
theorem agS (G:GH) (w0:World) (hG:Hold G w0) (l:List aA) (v:aj) (hv:av G (.sl 11 (l.map aA.dat)) v) (hz:bC l≤4294967290) :
  Calls prog 68 #[v] w0 (bE w0 G fun u G'=>∃ bd,u=.func (.func 103) #[] #[(aJ bd 0)]∧Iter prog G' u ((gN 0 l).map Fp)):=by
 obtain ⟨A,c,rfl,hc1,hc2,hg⟩:=hv.slice;refine eN [(0,_)] func68 rfl ntmps68 rfl rfl hG ?_;intro a H;refine dB (fun _ K1=>?_);refine eU (cs:=[_]) H wn rfl rfl rfl ?_;clear H;intro b1 a w hb1 H;refine kH H (ak K1 rfl (SR fun _ K2=>?_));clear H K1;intro a H;refine pY H wn rfl rfl ?_;clear H;intro a H;refine kH H (ak K2 rfl ?_);clear H K2;intro a H;refine cZ ?_;obtain ⟨G2,hm2,hb1,H⟩:=H.dP;refine lv H results68 rfl ?_;exact H.rt ⟨b1,rfl,agR (by unfold aI;rw [hb1];rfl) (hv.mono hm2) hz⟩
end
section
open Go.RowKit
theorem ado:∀ args w,(callFunc 68 args).run prog w=.ok (.enter 68 args) w:=enters func68 rfl (by kernel_rfl)
def vX (t:Int) (a:Nat × aA):Bool:=decide ((a.1:Int)+dY a.2≤t)
def lA (t:Int) (A:List (Nat × aA)):List aA:=(A.filter (vX t)).map (·.2)
def rA (t:Int) (A:List (Nat × aA)):List aA:=(A.filter fun a=>!vX t a).map (·.2)
theorem ahb {t:Int} {A:List (Nat × aA)} {k:Nat} (hk:k < A.length) (h:vX t A[k]=true):lA t (A.take (k+1))=lA t (A.take k)++[A[k].2]∧rA t (A.take (k+1))=rA t (A.take k):=by
 rw [jq hk];simp only [lA,rA,List.filter_append,mZ];simp [h]
theorem aha {t:Int} {A:List (Nat × aA)} {k:Nat} (hk:k < A.length) (h:vX t A[k]=false):lA t (A.take (k+1))=lA t (A.take k)∧rA t (A.take (k+1))=rA t (A.take k)++[A[k].2]:=by
 rw [jq hk];simp only [lA,rA,List.filter_append,mZ];simp [h]
theorem agZ (t:Int) (A:List (Nat × aA)):(lA t A).length≤A.length:=by simp only [lA,bQ];exact List.length_filter_le _ _
theorem ais (t:Int) (A:List (Nat × aA)):(rA t A).length≤A.length:=by simp only [rA,bQ];exact List.length_filter_le _ _
def vw (t:Int) (l:List aA):List aA:=lA t (gN 0 l)
def Cu (t:Int) (l:List aA):List aA:=rA t (gN 0 l)
theorem WR:∀ {l:List aA} {o:Nat} {a:Nat × aA},a∈gN o l→a.2∈l∧a.1+dh a.2.dat≤o+bC l
 | [],_,_,h=>by cases h
 | x :: l,o,a,h=>by
  rw [gN] at h;have hu:=QI x
  rcases kZ.1 h with rfl|h
  ·exact ⟨gD,by simp only [bC,eZ,eX];omega⟩
  obtain ⟨h1,h2⟩:=WR h;exact ⟨jN _ h1,by simp only [bC,eZ,eX] at *;omega⟩
theorem Tx (G:GH) (w0:World) (hG:Hold G w0) (l:List aA) (t:Int) (v:aj) (hv:av G (.sl 11 (l.map aA.dat)) v) (hz:bC l≤1073741824) (hcut:∀ a∈gN 0 l,vX t a=true∨t≤a.1) :
  Calls prog 43 #[v,vi t] w0 (bE w0 G fun u G'=>∃ x y,u=.tuple #[x,y]∧av G' (.sl 11 ((vw t l).map aA.dat)) x∧av G' (.sl 11 ((Cu t l).map aA.dat)) y):=by
 have hml:4294967297≤maxLen:=by decide
 have hll:=CQ l;have hol:=WQ l 0;obtain ⟨A,hA⟩:∃ A,A=gN 0 l:=⟨_,rfl⟩;refine eN [(0,_),(1,_)] func43 rfl ntmps43 rfl rfl hG ?_;intro a H;refine dB (fun _ K1=>?_);refine eU (cs:=[_]) H wn rfl rfl rfl ?_;clear H;intro b3 a w hb3 H;refine eB iD H wn rfl ?_;clear H;intro b4 a w hb4 H;refine eB iD H wn rfl ?_;clear H;intro b5 a w hb5 H;refine K1 _ _ ?_;clear K1;refine kP H (SQ fun _ K2=>SR fun _ K3=>Rm rfl ?_);clear H;intro a H;refine s_call ado H wn rfl (agS _ _ H.ro l v hv (by omega)) rfl ?_;clear H;rintro v14 FY a w ⟨bd,rfl,hit⟩ OH H;rw [← hA] at hit hcut hol;refine K3 _ _ ?_;clear K3;refine yP ?_;skip;refine SS (ι:=aj × aj × List aj × List aj × OL × OL) (κ:=Empty) (Lc:=[(_,_)]) (fun (k:Nat) (gh:aj × aj × List aj × List aj × OL × OL)=>[(b4,.cells #[gh.1] 22 (0,0)),(b5,.cells #[gh.2.1] 22 (0,0))]) (fun (k:Nat) (gh:aj × aj × List aj × List aj × OL × OL)=>gh.2.2.2.2.1++gh.2.2.2.2.2) (fun (k:Nat) (gh:aj × aj × List aj × List aj × OL × OL) (g:GH)=>dx 63 11 gh.1 (lA t (A.take k)).length gh.2.2.1 gh.2.2.2.2.1∧fE g 11 ((lA t (A.take k)).map aA.dat) gh.2.2.1∧dx 63 11 gh.2.1 (rA t (A.take k)).length gh.2.2.2.1 gh.2.2.2.2.2∧fE g 11 ((rA t (A.take k)).map aA.dat) gh.2.2.2.1) (fun x=>x.elim) (fun x=>x.elim) (fun x=>x.elim) (fun x=>x.elim) ((.slice none 0 0,.slice none 0 0,[],[],[],[])) (by exact (H.WK (A:=[_,_,_])).dK (Pl:=[_,_,_]) (cB:=[_,_,_]) [2,1,0] (by decide) rfl) rfl TB (hit) (fun _ _ h=>h) rfl (fun k args g h=>by obtain ⟨_,_,rfl,_⟩:=VY h;rfl) (fun k i G G' hm h=>⟨h.1,h.2.1.mono hm,h.2.2.1,h.2.2.2.mono hm⟩) (fun x=>x.elim) (⟨dx.nil,fE.nil,dx.nil,fE.nil⟩) ?_ ?_ ?_
 ·clear H;intro l2 Cr yO bk k args gh G2 w2 F2 B2 a hk2 hm2 hI Oy Ka VE H;obtain ⟨vl,vr,xl,xr,Ll,Lr⟩:=gh;dsimp only at hI H;obtain ⟨hk,cs,rfl,hcs⟩:=VY hk2;obtain ⟨-,hza⟩:=WR (l:=l) (o:=0) (a:=A[k]) (by rw [← hA];exact iL hk);have hzi:=oU A[k].2;have hun:=QI A[k].2;have hlk:=agZ t (A.take k);have Ki:=ais t (A.take k);rw [List.length_take] at hlk Ki;obtain ⟨pA,pn,pc,dA,dn,dc,yA,yn,yc,fA,fn,fc,Xk,rn,rc,rfl,hh,hf,hr⟩:=hcs.item;dsimp only [wU,List.cons_append,List.nil_append] at H;obtain ⟨hrl,hcl,hrr,hcr⟩:=hI;refine kP H (SR fun _ K4=>ak K4 rfl (SC ?_));clear H K4;intro a H;refine eB dM H wn rfl ?_;clear H;intro b7 a w Ce H;refine bH dM 0 (vs:=[_,_,_,_,_,_,_,_,_,_,_]) _ H wn rfl rfl rfl rfl rfl rfl rfl rfl ?_;clear H;intro w H;dsimp only [List.set,setRow] at H;refine aH ?_;refine Oy _ _ _ _ _ _ (by exact H.dK (Pl:=[_,_,_,_,_]) (cB:=[_,_,_,_,_]) [1,0,2,3,4] (by decide) rfl) ?_;clear H;intro w H;refine yP ?_;refine dB (fun _ K5=>?_);refine bD dM (cs:=[_,_,_,_,_,_,_,_,_,_,_]) H wn rfl rfl (H.hp.dS 1 rfl rfl) rfl ?_;clear H;intro a H;refine s_call Nn H wn rfl (QJ _ _ H.ro A[k].2 _ _ _ _ _ _ _ _ _ (by omega)) rfl ?_;clear H;rintro v19 _ a w ⟨rfl,rfl⟩ - H;refine kH H (Rm rfl ?_);clear H;intro a H;(iterate 2 refine kN H wn rfl rfl rfl ?_;clear H;intro a H);refine kH H (Ra rfl (ak K5 rfl (SB (SR fun _ K6=>Rm rfl (Rm rfl (Rd rfl (Ro aC 2 rfl (Rc rfl (ak K6 rfl (Cd rfl ?_ ?_)))))))))) <;> clear H K5 K6
  ·intro h50 a H
   try have p50:=dT h50
   have hfit:vX t A[k]=true:=h50;obtain ⟨e1,e2⟩:=ahb hk hfit;obtain ⟨vA,vc,rfl,-,-⟩:=hrl.shape;have H:=H.perm (Xh [_,_,_,_,_] bk Ll Lr);refine SI (i0:=3) (i1:=1) hmx (by kernel_rfl) gV iD dM rfl rfl rfl rfl rfl (by kernel_rfl) rfl (by decide) H rfl rfl rfl rfl rfl rfl hrl (by omega) (by omega) ?_;clear H;intro vl Ll wJ a w vg Vx H;have H:St _ _ _ _ _ _ ([_,_,_,_,_]++(bk++(Ll++Lr))) _ _ _:=H.perm (Xh [_,_,_,_,_] bk Ll Lr).symm;dsimp only [lca,bg] at H;obtain ⟨xl,hxl⟩:∃ x,x=xl++[vi A[k].2.kind,vi A[k].2.code,vi A[k].2.id,.string A[k].2.text,.slice pA pn pc,vi A[k].2.head.marks.ins,vi A[k].2.head.marks.move,.slice dA dn dc,.slice yA yn yc,.slice fA fn fc,.slice Xk rn rc]:=⟨_,rfl⟩;rw [← hxl] at Vx
   have hI:dx 63 11 vl (lA t (A.take (k+1))).length xl Ll∧fE wJ 11 ((lA t (A.take (k+1))).map aA.dat) xl∧dx 63 11 vr (rA t (A.take (k+1))).length xr Lr∧fE wJ 11 ((rA t (A.take (k+1))).map aA.dat) xr:=by
    rw [e1,e2,iA,mZ];exact ⟨Vx,by rw [hxl];exact (hcl.mono vg).snoc (hcs.mono vg) rfl,hrr,hcr.mono vg⟩
   refine Ka ((vl,vr,xl,xr,Ll,Lr)) _ _ _ _ _ (by exact H.dK (Pl:=[_,_,_,_,_]) (cB:=[_,_,_,_]) [0,2,3,4] (by decide) rfl) ?_;exact hI
  intro h50 a H
  try have p50:=dF h50
  have hfit:vX t A[k]=false:=h50;obtain ⟨e1,e2⟩:=aha hk hfit;refine kP H (SR fun _ K7=>Rm rfl (Ro aC 2 rfl (Rc rfl (ak K7 rfl (Cd rfl ?_ ?_))))) <;> clear H K7
  ·intro xE a H
   try have p62:=dT xE
   obtain ⟨vA,vc,rfl,-,-⟩:=hrr.shape;have H:=H.cast (Xg [_,_,_,_,_] bk Ll Lr);refine SI (i0:=4) (i1:=1) hmx (by kernel_rfl) gV iD dM rfl rfl rfl rfl rfl (by kernel_rfl) rfl (by decide) H rfl rfl rfl rfl rfl rfl hrr (by omega) (by omega) ?_;clear H;intro vr Lr wJ a w vg Vy H;have H:St _ _ _ _ _ _ ([_,_,_,_,_]++(bk++(Ll++Lr))) _ _ _:=H.cast (Xg [_,_,_,_,_] bk Ll Lr).symm;dsimp only [lca,bg] at H;obtain ⟨xr,Kk⟩:∃ x,x=xr++[vi A[k].2.kind,vi A[k].2.code,vi A[k].2.id,.string A[k].2.text,.slice pA pn pc,vi A[k].2.head.marks.ins,vi A[k].2.head.marks.move,.slice dA dn dc,.slice yA yn yc,.slice fA fn fc,.slice Xk rn rc]:=⟨_,rfl⟩;rw [← Kk] at Vy
   have hI:dx 63 11 vl (lA t (A.take (k+1))).length xl Ll∧fE wJ 11 ((lA t (A.take (k+1))).map aA.dat) xl∧dx 63 11 vr (rA t (A.take (k+1))).length xr Lr∧fE wJ 11 ((rA t (A.take (k+1))).map aA.dat) xr:=by
    rw [e1,e2,iA,mZ];exact ⟨hrl,hcl.mono vg,Vy,by rw [Kk];exact (hcr.mono vg).snoc (hcs.mono vg) rfl⟩
   refine Ka ((vl,vr,xl,xr,Ll,Lr)) _ _ _ _ _ (by exact H.dK (Pl:=[_,_,_,_,_]) (cB:=[_,_,_,_]) [0,2,3,4] (by decide) rfl) ?_;exact hI
  intro xE a H
  try have p62:=dF xE
  exact absurd (hcut _ (iL hk)) (by rw [hfit];simp only [Df,false_or];omega)
 ·clear H;intro QX gh Q9 a w hm2 hI H;obtain ⟨vl,vr,xl,xr,Ll,Lr⟩:=gh;dsimp only at hI H;dsimp only [lca,bg] at H;obtain ⟨hrl,hcl,hrr,hcr⟩:=hI;rw [show A.take (A.map Fp).length=A by rw [bQ,wT]] at hrl hcl hrr hcr;obtain ⟨lA0,lc0,rfl,-,-⟩:=hrl.shape;obtain ⟨rA0,rc0,rfl,-,-⟩:=hrr.shape;refine K2 _ _ ?_;clear K2;refine bA (fun _ K8=>?_);refine dI hmx [[],[],[0],[0,1,2]] [] (by kernel_rfl) [.slice lA0 (lA t A).length lc0,.slice rA0 (rA t A).length rc0] H (aF (Z0 rfl (Ro iD 2 rfl)) (Z0 rfl (Ro iD 3 rfl)) ?_ ?_ bX) ?_
  ·intro bR a w G1 _ bS hc hG HT hv;have H:=HT;clear bS;have H:=H.aR (hv 0 72 (hc 0 (by decide)) rfl) rfl;have Hb:=H.full;have H:=Hb;clear hc;refine bH iD 2 (vs:=[_]) _ H wn rfl rfl rfl rfl rfl rfl rfl rfl ?_;clear H;intro w H;dsimp only [List.set,setRow] at H;refine aH ⟨rfl,?_⟩;exact Tz rfl HT hG hv H
  ·intro bR a w G1 _ bS hc hG HT hv;have H:=HT;clear bS;have H:=H.aR (hv 1 73 (hc 1 (by decide)) rfl) rfl;have Hb:=H.full;have H:=Hb;clear hc;refine bH iD 3 (vs:=[_]) _ H wn rfl rfl rfl rfl rfl rfl rfl rfl ?_;clear H;intro w H;dsimp only [List.set,setRow] at H;refine aH ⟨rfl,?_⟩;exact Tz rfl HT hG hv H
  clear H;intro a w G JV H hv;clear hv;refine aH ⟨rfl,?_⟩;refine K8 _ _ ?_;clear K8;refine cZ ?_;obtain ⟨Ev,Ch,hgr,H⟩:=St.uo (Li:=[_,_,_,_]++Ll) (St.un (A:=[_,_,_,_]) H) hrr (rows:=(rA t A).map aA.dat) (by simp) (hcr.mono JV);obtain ⟨I4,sV,hgl,H⟩:=St.uo (Li:=[_,_,_,_]) H hrl (rows:=(lA t A).map aA.dat) (by simp) ((hcl.mono JV).mono Ch);replace hgr:=hgr.mono sV;refine (Ic H 0 rfl ?_).1;clear H;intro a w H;dsimp only [List.eraseIdx_cons_succ,List.eraseIdx_cons_zero] at H;refine (fG H results43 (.cons (tC iD H rfl (H.hp.nQ 1 rfl rfl)) (.cons (tC iD H rfl (H.hp.nQ 2 rfl rfl)) .nil)) ?_).1;exact H.rt ⟨_,_,rfl,by rw [vw,← hA];exact hgl,by rw [Cu,← hA];exact hgr⟩
 intro Dk x;exact x.elim
end
section
open Go.RowKit
theorem dx.ptr {e sz n c:Nat} {A:Option Addr} {xs:List aj} {Lo:OL} (h:dx e sz (.slice A n c) n xs Lo) (hn:0 < n):∃ b,A=some ⟨b,0,none⟩:=by
 rcases h.2 with ⟨_,h0,_⟩|⟨b,cap,cur,he,_⟩
 ·omega
 ·injection he with e1;exact ⟨b,e1⟩
theorem dx.at {w0 w:World} {F:Nat→Prop} {G0 G:GH} {L Lo:OL} {e sz n c b o:Nat} {xs:List aj} (h:dx e sz (.slice (some ⟨b,o,none⟩) n c) n xs Lo) (H:Hp w0 F G0 G L w) (hsub:∀ x∈Lo,x∈L) {i:Nat} {u:aj} (hi:xs[i]?=some u):w.cell? ⟨b,i,none⟩=some u:=by
 rcases h.2 with ⟨h1,_⟩|⟨b2,cap,cur,he,hl,h1,h2,h3,h4⟩
 ·cases h1
 ·injection he with e1
  injection e1 with e1
  injection e1 with e1
  subst e1
  refine H.Ww (c:=cur) (e:=e) (fz:=(0,0)) (hsub _ (by rw [hl];exact List.mem_singleton_self _)) ?_
  have hx:i < xs.length:=(jk.1 hi).1
  rw [h.1] at hx
  rw [← h4,tQ,au hx,Array.getElem?_toList] at hi
  exact hi
theorem flat_get {sz:Nat}:∀ {css:List (List aj)} {k:Nat} (hk:k < css.length) (h:∀ cs∈css,cs.length=sz) (j:Nat),j < sz→css.flatten[k*sz+j]?=css[k][j]?
 | c :: css,0,_,h,j,hj=>by
  rw [List.flatten_cons,Nat.zero_mul,kR,List.getElem_cons_zero,vO (by rw [h c gD];exact hj)]
 | c :: css,k+1,hk,h,j,hj=>by
  have ih:=flat_get (css:=css) (k:=k) (by simpa using hk) (fun cs hc=>h cs (jN _ hc)) j hj
  rw [List.flatten_cons,List.getElem_cons_succ,wS (by rw [h c gD,Nat.succ_mul];omega),h c gD,show (k+1)*sz+j - sz=k*sz+j by rw [Nat.succ_mul];omega]
  exact ih
theorem fE.at {G:GH} {sz:Nat} {rows:List (List Dat)} {xs:List aj} (h:fE G sz rows xs) {k:Nat} {r:List Dat} (hk:rows[k]?=some r):∃ cs,cs.length=sz∧(∀ j u,cs[j]?=some u→xs[k*sz+j]?=some u)∧aZ G r cs:=by
 obtain ⟨css,rfl,h2,h3⟩:=h
 have hkl:k < css.length:=by rw [h2];exact (jk.1 hk).1
 obtain ⟨hr,hl⟩:=h3 k r css[k] hk (gY hkl)
 refine ⟨css[k],hl,fun j u hj=>?_,hr⟩
 rw [flat_get hkl (fun cs hc=>?_) j (by rw [← hl];exact (jk.1 hj).1)]
 ·exact hj
 ·obtain ⟨i,hi,rfl⟩:=List.getElem_of_mem hc
  exact (h3 i rows[i] css[i] (gY (by omega)) (gY hi)).2
end
section
open Go.RowKit
theorem abL:∀ args w,(callFunc 104 args).run prog w=.ok (.enter 104 args) w:=enters func104 rfl (by kernel_rfl)
theorem TS:∀ args w,(callFunc 44 args).run prog w=.ok (.enter 44 args) w:=enters func44 rfl (by kernel_rfl)
theorem adp:∀ args w,(callFunc 70 args).run prog w=.ok (.enter 70 args) w:=enters func70 rfl (by kernel_rfl)
theorem adq:∀ args w,(callFunc 73 args).run prog w=.ok (.enter 73 args) w:=enters func73 rfl (by kernel_rfl)
theorem abB (G:GH) (w0:World) (hG:Hold G w0) (A:Option Addr) (n c:Nat) (fv:aj) (hv:av G (.sl 6 []) (.slice A n c)) :
  Calls prog 70 #[.slice A n c,fv] w0 (bE w0 G fun u G'=>av G' (.sl 6 []) u):=by
 refine eN [(0,_),(1,_)] func70 rfl ntmps70 rfl rfl hG ?_;intro a H;refine kP H (SR fun _ K1=>ak K1 rfl (SR fun _ K2=>Rm rfl (Rm rfl ?_)));clear H K1;intro a H;refine s_call abL H wn rfl (agJ _ _ H.ro [] (fun _=>true) _ _ hv (fun x h=>by cases h)) rfl ?_;clear H;rintro v10 wJ a w rfl vg H;refine kH H (ak K2 rfl (SQ fun _ K3=>SR fun _ K4=>Rm rfl (Rc rfl (Kz K4 (Cd rfl ?_ ?_))))) <;> clear H K2 K4
 ·intro h12 a H
  exact kP H (SR fun _ K5=>Rm rfl (ak K5 rfl (LR results70 rfl fun H=>H.rt (hv.mono vg))))
 intro h12 a H
 exact absurd h12 (by decide)
theorem ahM (G:GH) (w0:World) (hG:Hold G w0) (A:Option Addr) (n c:Nat) (hv:av G (.sl 11 []) (.slice A n c)) :
  Calls prog 44 #[.slice A n c] w0 (bE w0 G fun u G'=>av G' (.sl 11 []) u):=by
 have hn:n=0:=hv.len;refine eN [(0,_)] func44 rfl ntmps44 rfl rfl hG ?_;intro a H;refine kP H (SR fun _ K1=>ak K1 rfl (SR fun _ K2=>ak K2 rfl (SQ fun _ K3=>SR fun _ K4=>Rm rfl (Rl gV rfl (Rm rfl (Kz K4 (SB ?_)))))));clear H K1 K2 K4;intro a H;skip;refine eT (ι:=Unit) (Tc:=[(7,_),(8,_)]) (Lc:=[]) (fun gh=>[(3,.slice none 0 0),(9,vi 0)]) (fun gh=>[]) (fun gh=>G) (fun gh=>True) (fun gh=>0) (()) (by exact (H).sub ⟨rfl,rfl,rfl,rfl,aD⟩) ?_ ?_
 ·trivial
 clear H;intro gh a w hI H;obtain ⟨u,hgh⟩:∃ x,x=gh:=⟨_,rfl⟩;subst hgh;skip;dsimp only [lca,bg] at H;refine kP H (SR fun _ K5=>Rc rfl (Kz K5 (SQ fun _ K6=>Cd rfl ?_ ?_))) <;> clear H K5
 ·intro h10 a H
  try have mD:=dT h10
  exact absurd mD (by rw [hn];decide)
 intro h10 a H
 refine dU ?_;refine K3 _ _ ?_;clear K3;exact kP H (SR fun _ K7=>Rm rfl (ak K7 rfl (LR results44 rfl fun H=>H.rt (av.jw rfl (by decide)))))
def R5 (x:aA):Prop:=x.flow=[]∧x.rows=[]∧¬ x.kind=7∧(x.kind=1→¬ x.text.toList=[])
def Gc (l:List aA):Prop:=∀ (k:Nat) (h:k+1 < l.length),¬ (l[k].kind=1∧l[k+1].kind=1∧l[k].head=l[k+1].head)
theorem Gc.one {l:List aA} (h:l.length≤1):Gc l:=fun k hk=>by omega
set_option maxHeartbeats 2000000 in
theorem ahN (G:GH) (w0:World) (hG:Hold G w0) (l:List aA) (v:aj) (hv:av G (.sl 11 (l.map aA.dat)) v) (hj:Gc l) (hp:∀ x∈l,R5 x) (hz:bC l≤1073741824) :
  Calls prog 44 #[v] w0 (bE w0 G fun u G'=>av G' (.sl 11 (l.map aA.dat)) u):=by
 obtain ⟨A,c,rfl,hc1,hc2,hg⟩:=hv.slice
 have hml:4294967297≤maxLen:=by decide
 have hll:l.length≤bC l:=Nat.le_trans (Py l) (QE l);rw [bQ] at *;refine eN [(0,_)] func44 rfl ntmps44 rfl rfl hG ?_;intro a H;refine kP H (SR fun _ K1=>ak K1 rfl (SR fun _ K2=>ak K2 rfl (SQ fun _ K3=>SR fun _ K4=>Rm rfl (Rl gV rfl (Rm rfl (Kz K4 (SB ?_)))))));clear H K1 K2 K4;intro a H;skip;refine eT (ι:=Nat × aj × List aj × OL × GH) (Tc:=[(7,_),(8,_)]) (Lc:=[]) (fun gh=>[(3,gh.2.1),(9,vi gh.1)]) (fun gh=>[]++gh.2.2.2.1) (fun gh=>gh.2.2.2.2) (fun gh=>gh.1≤l.length∧dx 63 11 gh.2.1 gh.1 gh.2.2.1 gh.2.2.2.1∧fE gh.2.2.2.2 11 ((l.map aA.dat).take gh.1) gh.2.2.1∧(∀ b o,G b=some o→gh.2.2.2.2 b=some o)) (fun gh=>l.length - gh.1) ((0,.slice none 0 0,[],[],G)) (by exact (H).sub ⟨rfl,rfl,rfl,rfl,aD⟩) ?_ ?_
 ·exact ⟨by omega,dx.nil,by simpa using fE.nil,fun _ _ h=>h⟩
 clear H;intro gh a w hI H;obtain ⟨k,v,xs,Lo,g⟩:=gh;dsimp only at hI H;obtain ⟨hk,hrw,jD,hgm⟩:=hI;dsimp only [lca,bg] at H;refine kP H (SR fun _ K5=>Rc rfl (Kz K5 (SQ fun _ K6=>Cd rfl ?_ ?_))) <;> clear H K5
 ·intro h10 a H
  try have mD:=dT h10
  have hk2:k < l.length:=by omega
  obtain ⟨vA,vc,rfl,-,-⟩:=hrw.shape;obtain ⟨b,o,pA,pn,pc,dA,dn,dc,yA,yn,yc,fA,fn,fc,rA,rn,rc,rfl,hrow,hhd,hfl,hrs⟩:=Ai hk2 hg;replace hrow:=fun j u hj=>aK hgm (hrow j u hj);obtain ⟨e1,e2,e3,e4⟩:=hp _ (iL hk2);have hzi:=YJ hk2;rw [e1] at hfl;rw [e2] at hrs;refine kP H (Kc K6 (SQ fun _ K7=>SB (SR fun _ K8=>Ri gV dM rfl rfl ?_)));clear H K6;intro a H;refine bD dM (cs:=[_,_,_,_,_,_,_,_,_,_,_]) H wn rfl rfl (fun j v hj=>H.hp.aI (hrow j v hj)) rfl ?_;clear H;intro a H;refine eB dM H wn rfl ?_;clear H;intro b5 a w hb5 H;refine bH dM 0 (vs:=[_,_,_,_,_,_,_,_,_,_,_]) _ H wn rfl rfl rfl rfl rfl rfl rfl rfl ?_;clear H;intro w H;dsimp only [List.set,setRow] at H;refine K8 _ _ ?_;clear K8;refine kP H (SR fun _ K9=>Rf BO rfl ?_);clear H;intro a H;refine bD qD (cs:=[_,_,_,_,_]) H wn rfl rfl (H.hp.dS 0 rfl rfl) rfl ?_;clear H;intro a H;refine s_call JD H wn rfl (JA _ _ H.ro _ _ _ _ _ _ _ _ _ _ (hhd.mono hgm) (by omega)) rfl ?_;clear H;rintro v15 BD a w ⟨qY,d15,l15,rfl,E9⟩ oM H;obtain ⟨a1,a2,a3,rfl⟩:=E9.props.form;obtain ⟨a4,a5,a6,rfl⟩:=E9.cO.form;obtain ⟨a7,a8,a9,rfl⟩:=E9.layers.form;refine kH H (Rf BO rfl ?_);clear H;intro a H;refine bH qD 0 (vs:=[_,_,_,_,_]) _ H wn rfl rfl rfl rfl rfl rfl rfl rfl ?_;clear H;intro w H;dsimp only [List.set,setRow] at H;refine K9 _ _ ?_;clear K9;refine kP H (SR fun _ aT=>aP yV iD 0 rfl rfl ?_);clear H;intro a H;refine s_call TS H wn rfl (ahM _ _ H.ro _ _ _ (hfl.mono fun b o h=>oM b o (hgm b o h))) rfl ?_;clear H;rintro v19 G19 a w OW sU H;obtain ⟨IU,n19,c19,rfl⟩:=OW.form;refine kH H (Rf yV rfl ?_);clear H;intro a H;refine bH iD 0 (vs:=[_]) _ H wn rfl rfl rfl rfl rfl rfl rfl rfl ?_;clear H;intro w H;dsimp only [List.set,setRow] at H;refine aT _ _ ?_;clear aT;refine kP H (SR fun _ bq=>aP qN rz 0 rfl rfl ?_);clear H;intro a H;refine s_call TV H wn rfl (TA _ _ H.ro [] _ _ (hrs.mono fun b o h=>sU b o (oM b o (hgm b o h))) (by decide) (fun x h=>by cases h)) rfl ?_;clear H;rintro v23 Mc a w Vs qx H;obtain ⟨A23,n23,c23,rfl⟩:=Vs.form;refine s_call adp H wn rfl (abB _ _ H.ro _ _ _ _ Vs) rfl ?_;clear H;rintro v24 I5 a w OX rR H;obtain ⟨QU,n24,c24,rfl⟩:=OX.form;refine kH H (Rf qN rfl ?_);clear H;intro a H;refine bH rz 0 (vs:=[_]) _ H wn rfl rfl rfl rfl rfl rfl rfl rfl ?_;clear H;intro w H;dsimp only [List.set,setRow] at H;refine bq _ _ ?_;clear bq;refine kP H (SR fun _ bF=>Rm rfl (Rl gV rfl (ak bF rfl (SB (SR fun _ bJ=>aP jB aC 0 rfl rfl (Rc rfl (Rm rfl (Sp 36 rfl ?_ ?_)))))))) <;> clear H bF
  ·intro uX a H
   try have p36:=dT uX
   exact absurd p36 e3
  intro uX a H
  try have p36:=dF uX
  refine kH H (aQ uX rfl (aQ uX rfl (Pf uX rfl (Rm rfl ?_))));clear H;intro a H;refine Ip jB H (wg H rfl rfl rfl) rfl rfl ?_;clear H;intro a H;refine vF aC H (wg H rfl rfl rfl) rfl (H.hp.nQ 0 rfl rfl) rfl ?_;clear H;intro a H;refine Io H (wg H rfl rfl rfl) rfl rfl rfl rfl ?_;clear H;intro a H;refine Ir H (wg H rfl rfl rfl) rfl rfl ?_;clear H;intro a H;refine Qq H 46 rfl ?_ ?_
  ·intro h46
   try have p46:=dT h46
   refine kH H (YF uj h46 rfl (YO fZ 0 h46 rfl ?_));clear H;intro a H;refine zy H (wg H rfl rfl h46) rfl rfl rfl ?_;clear H;intro a H;refine Iu H (wg H rfl rfl rfl) rfl h46 rfl rfl ?_;clear H;intro a H;refine kH H (Pf rfl rfl (ak bJ rfl (Cd rfl ?_ ?_))) <;> clear H bJ
   ·intro h32 a H
    exact absurd h32 (by simpa using e4 p46)
   intro h32 a H
   try have p32:=dF h32
   refine bA (fun _ bN=>?_);obtain ⟨wW,sS⟩:∃ x,x=[vi l[k].kind,vi l[k].code,vi l[k].id,.string l[k].text,.slice a1 a2 a3,vi l[k].head.marks.ins,vi l[k].head.marks.move,.slice a4 a5 a6,.slice a7 a8 a9,.slice IU n19 c19,.slice QU n24 c24]:=⟨_,rfl⟩
   have AL:aZ I5 l[k].dat wW:=by
    rw [sS];exact aZ.mkItem (E9.mono fun b o h=>rR b o (qx b o (sU b o h))) (by rw [e1];exact OW.mono fun b o h=>rR b o (qx b o h)) (by rw [e2];exact OX)
   have hA1:(l.map aA.dat).take (k+1)=(l.map aA.dat).take k++[l[k].dat]:=by rw [jq (by simpa using hk2)];simp
   have OA:=jD.mono fun b o h=>rR b o (qx b o (sU b o (oM b o h)))
   obtain ⟨bo,pk,pp,pd,pl,zl⟩:∃ (bo:Nat) (pk:iE × Int) (pp pd pl:aj),0 < (k:Int)→∃ (h:k - 1 < l.length),vA=some ⟨bo,0,none⟩∧pk=(l[k - 1].head,l[k - 1].kind)∧xs[(k - 1)*11]?=some (vi pk.2)∧jF I5 pk.1 pp pd pl∧∀ j u,[pp,vi pk.1.marks.ins,vi pk.1.marks.move,pd,pl][j]?=some u→xs[(k - 1)*11+4+j]?=some u:=by
    by_cases h0:0 < k
    ·obtain ⟨bo,Oz⟩:=hrw.ptr h0;obtain ⟨cs,hcl,hcx,hcr⟩:=OA.at (k:=k - 1) (r:=l[k - 1].dat) (by rw [tQ,au (by omega)];simp [show k - 1 < l.length by omega]);obtain ⟨qA,qn,qc,sA,sn,sc,tA,tn,tc,fA2,fn2,fc2,rA2,rn2,rc2,rfl,hh,-,-⟩:=hcr.item;refine ⟨bo,(l[k - 1].head,l[k - 1].kind),.slice qA qn qc,.slice sA sn sc,.slice tA tn tc,fun _=>⟨by omega,Oz,rfl,hcx 0 _ rfl,hh,fun j u hj=>?_⟩⟩;rw [Nat.add_assoc]
     exact hcx (4+j) u (by
      match j,hj with
      | 0,hj=>exact hj
      | 1,hj=>exact hj
      | 2,hj=>exact hj
      | 3,hj=>exact hj
      | 4,hj=>exact hj)
    exact ⟨0,(⟨[],⟨0,0,[],[]⟩⟩,0),.slice none 0 0,.slice none 0 0,.slice none 0 0,fun h=>by omega⟩
   have Vq:l[k].kind=1→0 < (k:Int)→pk.2=1→¬ pk.1=l[k].head:=by
    intro c1 c2 c3 e;obtain ⟨hk1,-,hpk,-⟩:=zl c2;have hjk:=hj (k - 1) (by omega);rw [hpk] at e c3
    simp only [show k - 1+1=k by omega] at hjk
    exact hjk ⟨c3,c1,e⟩
   have c1:l[k].kind=1:=p46
   by_cases c2:0 < (k:Int)
   ·skip
    by_cases c3:pk.2=1
    ·skip;refine dI hmx [[],[0],[0,1],[0,1,2],(ra 0 4),(ra 0 5),(ra 0 6),(ra 0 7),(ra 0 8),(ra 0 8),(ra 0 8++[9]),(ra 0 11),(ra 0 12),(ra 0 13),(ra 0 14),(ra 0 15),(ra 0 16),(ra 0 17),(ra 0 17),(ra 0 17++[18]),(ra 0 20),(ra 0 21),(ra 0 22),(ra 0 17),(ra 0 17++[23]),(ra 0 25),(ra 0 26),(ra 0 27)] [] (by kernel_rfl) [_,vi l[k].kind,_,_,_,_,_,_,.slice (some ⟨bo,0,none⟩) k vc,_,vi ((k - 1:Nat):Int),_,_,vi pk.2,_,_,_,.slice (some ⟨bo,0,none⟩) k vc,_,vi ((k - 1:Nat):Int),_,_,zi pk.1 pp pd pl,_,zi l[k].head (.slice a1 a2 a3) (.slice a4 a5 a6) (.slice a7 a8 a9),.bool false,_,_] H (aF (Z0 rfl (Rf jB rfl)) (Z1 0 53 rfl (Ro aC 0 rfl)) (Z1 1 54 rfl (Rc rfl)) (Z1 2 55 rfl (Rm rfl)) (aF (Z1 3 56 rfl (YM (aB c1) rfl)) (Z2 4 57 3 56 rfl (YC (aB c1) rfl)) (Z2 3 56 5 58 rfl (Pt (aB c1) rfl)) (Z1 6 59 rfl (Rm rfl)) (aF ?_ (Z1 7 60 rfl (YM (aB c2) rfl)) ?_ (Z3 8 61 10 63 7 60 rfl (YI gV dM (aB c2) rfl rfl)) (aF (Z2 11 64 7 60 rfl (YF jB (aB c2) rfl)) ?_ (Z2 13 66 7 60 rfl (YC (aB c2) rfl)) (Z2 7 60 14 67 rfl (Pt (aB c2) rfl)) (aF (Z1 15 68 rfl (Rm rfl)) ?_ (Z1 16 69 rfl (YM (aB c3) rfl)) ?_ (aF (Z3 17 70 19 72 16 69 rfl (YI gV dM (aB c3) rfl rfl)) (Z2 20 73 16 69 rfl (YF BO (aB c3) rfl)) ?_ (Z1 16 69 rfl (YF BO (aB c3) rfl)) (aF ?_ ?_ (Z2 16 69 25 78 rfl (Pt (aB c3) rfl)) (Z1 26 79 rfl (Ra rfl)) bX))))))) ?_
     ·refine dR 7 60 rfl rfl fun _ a w G1 hG HT H fin=>?_;refine kH H (YM (aB c2) rfl ?_);clear H;intro a H;exact fin H iJ (by show _=_;first|rfl|exact ay (fun A=>Value.slice A k vc) (Exists.elim (zl c2) fun _ h=>h.1))
     ·refine dG 9 62 7 60 rfl rfl fun _ a w G1 hG HT H fin=>?_;refine mR _ H (wg H rfl rfl (aB c2)) rfl rfl rfl (by omega) (by omega) rfl ?_;clear H;intro a H;exact fin H iJ (by show _=_;first|rfl|exact ay vi (by omega))
     ·refine dG 12 65 7 60 rfl rfl fun _ a w G1 hG HT H fin=>?_;obtain ⟨_,rfl,_,hkd,_⟩:=zl c2;refine vF aC H (wg H rfl rfl (aB c2)) rfl (hrw.at H.hp (fun x hx=>jN _ hx) (by rw [kR];exact hkd)) rfl ?_;clear H;intro a H;exact fin H iJ rfl
     ·refine dR 16 69 rfl rfl fun _ a w G1 hG HT H fin=>?_;refine kH H (YM (aB c3) rfl ?_);clear H;intro a H;exact fin H iJ (by show _=_;first|rfl|exact ay (fun A=>Value.slice A k vc) (Exists.elim (zl c2) fun _ h=>h.1))
     ·refine dG 18 71 16 69 rfl rfl fun _ a w G1 hG HT H fin=>?_;refine mR _ H (wg H rfl rfl (aB c3)) rfl rfl rfl (by omega) (by omega) rfl ?_;clear H;intro a H;exact fin H iJ (by show _=_;first|rfl|exact ay vi (by omega))
     ·refine dG 21 74 16 69 rfl rfl fun _ a w G1 hG HT H fin=>?_;obtain ⟨_,rfl,_,_,_,hhx⟩:=zl c2;refine bD qD (cs:=[pp,vi pk.1.marks.ins,vi pk.1.marks.move,pd,pl]) H (wg H rfl rfl (aB c3)) rfl rfl (fun j u hj=>hrw.at H.hp (fun x hx=>jN _ hx) (by rw [kR];exact hhx j u hj)) rfl ?_;clear H;intro a H;exact fin H iJ rfl
     ·refine dG 23 76 16 69 rfl rfl fun _ a w G1 hG HT H fin=>?_;refine bD qD (cs:=[_,_,_,_,_]) H (wg H rfl rfl (aB c3)) rfl rfl (H.hp.dS 0 rfl rfl) rfl ?_;clear H;intro a H;exact fin H iJ rfl
     ·refine qg 22 75 24 77 16 69 rfl rfl fun _ a w G1 hG HT H fin=>?_;refine s_call adq H (wg H rfl rfl (aB c3)) rfl (adO _ _ H.ro pk.1 l[k].head _ _ _ _ _ _ (by obtain ⟨_,_,_,_,hh,_⟩:=zl c2;exact hh.mono hG) (E9.mono fun b o h=>hG b o (rR b o (qx b o (sU b o h))))) rfl ?_;clear H;rintro v78 G78 a w rfl aeV H;exact fin H aeV (by show _=_;first|rfl|exact aG (gL (Vq c1 c2 c3)))
     clear H;intro a w G iY H hv;have H:=H.aR (hv 27 52 rfl rfl) rfl;clear hv;refine aH ⟨rfl,?_⟩;refine bN _ _ ?_;clear bN;refine kS H rfl rfl ?_;refine kP H (SC (Rm rfl ?_));clear H;intro a H;refine bD dM (cs:=[_,_,_,_,_,_,_,_,_,_,_]) H wn rfl rfl (H.hp.dS 0 rfl rfl) rfl ?_;clear H;intro a H;refine gQ gV dM [_,_,_,_,_,_,_,_,_,_,_] [_,_,_,_,_,_,_,_,_,_,_] H wn rfl rfl rfl rfl rfl (by intro i q h;match i,h with|0,h=>exact h|n+1,h=>simp at h) rfl rfl ?_;clear H;intro MK a w Ov H;refine nU (Li:=[_,_]) (Lo:=Lo) (news:=wW) gV dM rfl rfl H wn rfl rfl hrw (by rw [sS];rfl) (by rw [sS];exact H.hp.dS 0 rfl rfl) AL.one (by omega) (by omega) rfl ?_;clear H;intro v31 C8 a w DK H;refine kH H (aU K7 rfl (SC (Rd rfl (Rm rfl ?_))));clear H K7;intro a H;refine aH ?_;refine cu ((k+1,v31,xs++wW,C8,G)) (by exact (H.dK (Pl:=[_,_]) (cB:=[]) [] (by decide) rfl).sub ⟨rfl,rfl,rfl,rfl,aD⟩) ?_ ?_
     ·(try dsimp only);exact ⟨by omega,DK,by rw [hA1];exact (jD.mono (fun b o h=>iY b o (rR b o (qx b o (sU b o (oM b o h)))))).snoc (AL.mono iY) (by rw [sS];rfl),fun b o h=>iY b o (rR b o (qx b o (sU b o (oM b o (hgm b o h)))))⟩
     first|omega|(dsimp only;omega)
    skip;refine dI hmx [[],[0],[0,1],[0,1,2],(ra 0 4),(ra 0 5),(ra 0 6),(ra 0 7),(ra 0 8),(ra 0 8),(ra 0 8++[9]),(ra 0 11),(ra 0 12),(ra 0 13),(ra 0 14),(ra 0 15),(ra 0 16),(ra 0 17),(ra 0 17),(ra 0 17++[18]),(ra 0 20),(ra 0 21),(ra 0 22),(ra 0 17),(ra 0 17++[23]),(ra 0 25),(ra 0 26),(ra 0 27)] [] (by kernel_rfl) [_,vi l[k].kind,_,_,_,_,_,_,.slice (some ⟨bo,0,none⟩) k vc,_,vi ((k - 1:Nat):Int),_,_,vi pk.2,_,_,_,undef,undef,undef,undef,undef,undef,undef,undef,undef,_,_] H (aF (Z0 rfl (Rf jB rfl)) (Z1 0 53 rfl (Ro aC 0 rfl)) (Z1 1 54 rfl (Rc rfl)) (Z1 2 55 rfl (Rm rfl)) (aF (Z1 3 56 rfl (YM (aB c1) rfl)) (Z2 4 57 3 56 rfl (YC (aB c1) rfl)) (Z2 3 56 5 58 rfl (Pt (aB c1) rfl)) (Z1 6 59 rfl (Rm rfl)) (aF ?_ (Z1 7 60 rfl (YM (aB c2) rfl)) ?_ (Z3 8 61 10 63 7 60 rfl (YI gV dM (aB c2) rfl rfl)) (aF (Z2 11 64 7 60 rfl (YF jB (aB c2) rfl)) ?_ (Z2 13 66 7 60 rfl (YC (aB c2) rfl)) (Z2 7 60 14 67 rfl (Pt (aB c2) rfl)) (aF (Z1 15 68 rfl (Rm rfl)) (aL (j:=16) (by kernel_rfl) (fun _ _ _ _ _ h=>h) rfl rfl rfl rfl rfl (fun _ _ h=>aM h (aG (aO c3))) rfl (fun _=>rfl)) (aL (j:=16) (by kernel_rfl) (fun _ _ _ _ _ h=>h) rfl rfl rfl rfl rfl (fun _ _ h=>aM h (aG (aO c3))) rfl (fun _=>rfl)) (aL (j:=16) (by kernel_rfl) (fun _ _ _ _ _ h=>h) rfl rfl rfl rfl rfl (fun _ _ h=>aM h (aG (aO c3))) rfl (fun _=>rfl)) (aF (aL (j:=16) (by kernel_rfl) (fun _ _ _ _ _ h=>h) rfl rfl rfl rfl rfl (fun _ _ h=>aM h (aG (aO c3))) rfl (fun _=>rfl)) (aL (j:=16) (by kernel_rfl) (fun _ _ _ _ _ h=>h) rfl rfl rfl rfl rfl (fun _ _ h=>aM h (aG (aO c3))) rfl (fun _=>rfl)) (aL (j:=16) (by kernel_rfl) (fun _ _ _ _ _ h=>h) rfl rfl rfl rfl rfl (fun _ _ h=>aM h (aG (aO c3))) rfl (fun _=>rfl)) (aL (j:=16) (by kernel_rfl) (fun _ _ _ _ _ h=>h) rfl rfl rfl rfl rfl (fun _ _ h=>aM h (aG (aO c3))) rfl (fun _=>rfl)) (aF (aL (j:=16) (by kernel_rfl) (fun _ _ _ _ _ h=>h) rfl rfl rfl rfl rfl (fun _ _ h=>aM h (aG (aO c3))) rfl (fun _=>rfl)) (aL (j:=16) (by kernel_rfl) (fun _ _ _ _ _ h=>h) rfl rfl rfl rfl rfl (fun _ _ h=>aM h (aG (aO c3))) rfl (fun _=>rfl)) (Z2 16 69 25 78 rfl (Pf (aO c3) rfl)) (Z1 26 79 rfl (Ra rfl)) bX))))))) ?_
    ·refine dR 7 60 rfl rfl fun _ a w G1 hG HT H fin=>?_;refine kH H (YM (aB c2) rfl ?_);clear H;intro a H;exact fin H iJ (by show _=_;first|rfl|exact ay (fun A=>Value.slice A k vc) (Exists.elim (zl c2) fun _ h=>h.1))
    ·refine dG 9 62 7 60 rfl rfl fun _ a w G1 hG HT H fin=>?_;refine mR _ H (wg H rfl rfl (aB c2)) rfl rfl rfl (by omega) (by omega) rfl ?_;clear H;intro a H;exact fin H iJ (by show _=_;first|rfl|exact ay vi (by omega))
    ·refine dG 12 65 7 60 rfl rfl fun _ a w G1 hG HT H fin=>?_;obtain ⟨_,rfl,_,hkd,_⟩:=zl c2;refine vF aC H (wg H rfl rfl (aB c2)) rfl (hrw.at H.hp (fun x hx=>jN _ hx) (by rw [kR];exact hkd)) rfl ?_;clear H;intro a H;exact fin H iJ rfl
    clear H;intro a w G iY H hv;have H:=H.aR (hv 27 52 rfl rfl) rfl;clear hv;refine aH ⟨rfl,?_⟩;refine bN _ _ ?_;clear bN;refine kS H rfl rfl ?_;refine kP H (SC (Rm rfl ?_));clear H;intro a H;refine bD dM (cs:=[_,_,_,_,_,_,_,_,_,_,_]) H wn rfl rfl (H.hp.dS 0 rfl rfl) rfl ?_;clear H;intro a H;refine gQ gV dM [_,_,_,_,_,_,_,_,_,_,_] [_,_,_,_,_,_,_,_,_,_,_] H wn rfl rfl rfl rfl rfl (by intro i q h;match i,h with|0,h=>exact h|n+1,h=>simp at h) rfl rfl ?_;clear H;intro MK a w Ov H;refine nU (Li:=[_,_]) (Lo:=Lo) (news:=wW) gV dM rfl rfl H wn rfl rfl hrw (by rw [sS];rfl) (by rw [sS];exact H.hp.dS 0 rfl rfl) AL.one (by omega) (by omega) rfl ?_;clear H;intro v31 C8 a w DK H;refine kH H (aU K7 rfl (SC (Rd rfl (Rm rfl ?_))));clear H K7;intro a H;refine aH ?_;refine cu ((k+1,v31,xs++wW,C8,G)) (by exact (H.dK (Pl:=[_,_]) (cB:=[]) [] (by decide) rfl).sub ⟨rfl,rfl,rfl,rfl,aD⟩) ?_ ?_
    ·(try dsimp only);exact ⟨by omega,DK,by rw [hA1];exact (jD.mono (fun b o h=>iY b o (rR b o (qx b o (sU b o (oM b o h)))))).snoc (AL.mono iY) (by rw [sS];rfl),fun b o h=>iY b o (rR b o (qx b o (sU b o (oM b o (hgm b o h)))))⟩
    first|omega|(dsimp only;omega)
   skip;refine dI hmx [[],[0],[0,1],[0,1,2],(ra 0 4),(ra 0 5),(ra 0 6),(ra 0 7),(ra 0 8),(ra 0 8),(ra 0 8++[9]),(ra 0 11),(ra 0 12),(ra 0 13),(ra 0 14),(ra 0 15),(ra 0 16),(ra 0 17),(ra 0 17),(ra 0 17++[18]),(ra 0 20),(ra 0 21),(ra 0 22),(ra 0 17),(ra 0 17++[23]),(ra 0 25),(ra 0 26),(ra 0 27)] [] (by kernel_rfl) [_,vi l[k].kind,_,_,_,_,_,_,undef,undef,undef,undef,undef,undef,undef,_,_,undef,undef,undef,undef,undef,undef,undef,undef,undef,_,_] H (aF (Z0 rfl (Rf jB rfl)) (Z1 0 53 rfl (Ro aC 0 rfl)) (Z1 1 54 rfl (Rc rfl)) (Z1 2 55 rfl (Rm rfl)) (aF (Z1 3 56 rfl (YM (aB c1) rfl)) (Z2 4 57 3 56 rfl (YC (aB c1) rfl)) (Z2 3 56 5 58 rfl (Pt (aB c1) rfl)) (Z1 6 59 rfl (Rm rfl)) (aF (aL (j:=7) (by kernel_rfl) (fun _ _ _ _ _ h=>h) rfl rfl rfl rfl rfl (fun _ _ h=>aM h (aG (aO c2))) rfl (fun _=>rfl)) (aL (j:=7) (by kernel_rfl) (fun _ _ _ _ _ h=>h) rfl rfl rfl rfl rfl (fun _ _ h=>aM h (aG (aO c2))) rfl (fun _=>rfl)) (aL (j:=7) (by kernel_rfl) (fun _ _ _ _ _ h=>h) rfl rfl rfl rfl rfl (fun _ _ h=>aM h (aG (aO c2))) rfl (fun _=>rfl)) (aL (j:=7) (by kernel_rfl) (fun _ _ _ _ _ h=>h) rfl rfl rfl rfl rfl (fun _ _ h=>aM h (aG (aO c2))) rfl (fun _=>rfl)) (aF (aL (j:=7) (by kernel_rfl) (fun _ _ _ _ _ h=>h) rfl rfl rfl rfl rfl (fun _ _ h=>aM h (aG (aO c2))) rfl (fun _=>rfl)) (aL (j:=7) (by kernel_rfl) (fun _ _ _ _ _ h=>h) rfl rfl rfl rfl rfl (fun _ _ h=>aM h (aG (aO c2))) rfl (fun _=>rfl)) (aL (j:=7) (by kernel_rfl) (fun _ _ _ _ _ h=>h) rfl rfl rfl rfl rfl (fun _ _ h=>aM h (aG (aO c2))) rfl (fun _=>rfl)) (Z2 7 60 14 67 rfl (Pf (aO c2) rfl)) (aF (Z1 15 68 rfl (Rm rfl)) (aL (j:=16) (by kernel_rfl) (fun _ _ _ _ _ h=>h) rfl rfl rfl rfl rfl (fun _ _ h=>aM h (aG rfl)) rfl (fun _=>rfl)) (aL (j:=16) (by kernel_rfl) (fun _ _ _ _ _ h=>h) rfl rfl rfl rfl rfl (fun _ _ h=>aM h (aG rfl)) rfl (fun _=>rfl)) (aL (j:=16) (by kernel_rfl) (fun _ _ _ _ _ h=>h) rfl rfl rfl rfl rfl (fun _ _ h=>aM h (aG rfl)) rfl (fun _=>rfl)) (aF (aL (j:=16) (by kernel_rfl) (fun _ _ _ _ _ h=>h) rfl rfl rfl rfl rfl (fun _ _ h=>aM h (aG rfl)) rfl (fun _=>rfl)) (aL (j:=16) (by kernel_rfl) (fun _ _ _ _ _ h=>h) rfl rfl rfl rfl rfl (fun _ _ h=>aM h (aG rfl)) rfl (fun _=>rfl)) (aL (j:=16) (by kernel_rfl) (fun _ _ _ _ _ h=>h) rfl rfl rfl rfl rfl (fun _ _ h=>aM h (aG rfl)) rfl (fun _=>rfl)) (aL (j:=16) (by kernel_rfl) (fun _ _ _ _ _ h=>h) rfl rfl rfl rfl rfl (fun _ _ h=>aM h (aG rfl)) rfl (fun _=>rfl)) (aF (aL (j:=16) (by kernel_rfl) (fun _ _ _ _ _ h=>h) rfl rfl rfl rfl rfl (fun _ _ h=>aM h (aG rfl)) rfl (fun _=>rfl)) (aL (j:=16) (by kernel_rfl) (fun _ _ _ _ _ h=>h) rfl rfl rfl rfl rfl (fun _ _ h=>aM h (aG rfl)) rfl (fun _=>rfl)) (Z2 16 69 25 78 rfl (Pf rfl rfl)) (Z1 26 79 rfl (Ra rfl)) bX))))))) ?_
   clear H;intro a w G iY H hv;have H:=H.aR (hv 27 52 rfl rfl) rfl;clear hv;refine aH ⟨rfl,?_⟩;refine bN _ _ ?_;clear bN;refine kS H rfl rfl ?_;refine kP H (SC (Rm rfl ?_));clear H;intro a H;refine bD dM (cs:=[_,_,_,_,_,_,_,_,_,_,_]) H wn rfl rfl (H.hp.dS 0 rfl rfl) rfl ?_;clear H;intro a H;refine gQ gV dM [_,_,_,_,_,_,_,_,_,_,_] [_,_,_,_,_,_,_,_,_,_,_] H wn rfl rfl rfl rfl rfl (by intro i q h;match i,h with|0,h=>exact h|n+1,h=>simp at h) rfl rfl ?_;clear H;intro MK a w Ov H;refine nU (Li:=[_,_]) (Lo:=Lo) (news:=wW) gV dM rfl rfl H wn rfl rfl hrw (by rw [sS];rfl) (by rw [sS];exact H.hp.dS 0 rfl rfl) AL.one (by omega) (by omega) rfl ?_;clear H;intro v31 C8 a w DK H;refine kH H (aU K7 rfl (SC (Rd rfl (Rm rfl ?_))));clear H K7;intro a H;refine aH ?_;refine cu ((k+1,v31,xs++wW,C8,G)) (by exact (H.dK (Pl:=[_,_]) (cB:=[]) [] (by decide) rfl).sub ⟨rfl,rfl,rfl,rfl,aD⟩) ?_ ?_
   ·(try dsimp only);exact ⟨by omega,DK,by rw [hA1];exact (jD.mono (fun b o h=>iY b o (rR b o (qx b o (sU b o (oM b o h)))))).snoc (AL.mono iY) (by rw [sS];rfl),fun b o h=>iY b o (rR b o (qx b o (sU b o (oM b o (hgm b o h)))))⟩
   first|omega|(dsimp only;omega)
  intro h46
  try have p46:=dF h46
  refine kH H (aX h46 rfl ?_);clear H;intro a H;refine Ld H (wg H rfl rfl rfl) rfl h46 rfl rfl ?_;clear H;intro a H;refine kH H (Pf rfl rfl (ak bJ rfl (Cf rfl rfl (SQ fun _ cK=>?_))));clear H bJ;intro a H;obtain ⟨wW,sS⟩:∃ x,x=[vi l[k].kind,vi l[k].code,vi l[k].id,.string l[k].text,.slice a1 a2 a3,vi l[k].head.marks.ins,vi l[k].head.marks.move,.slice a4 a5 a6,.slice a7 a8 a9,.slice IU n19 c19,.slice QU n24 c24]:=⟨_,rfl⟩
  have AL:aZ I5 l[k].dat wW:=by
   rw [sS];exact aZ.mkItem (E9.mono fun b o h=>rR b o (qx b o (sU b o h))) (by rw [e1];exact OW.mono fun b o h=>rR b o (qx b o h)) (by rw [e2];exact OX)
  have hA1:(l.map aA.dat).take (k+1)=(l.map aA.dat).take k++[l[k].dat]:=by rw [jq (by simpa using hk2)];simp
  have OA:=jD.mono fun b o h=>rR b o (qx b o (sU b o (oM b o h)))
  obtain ⟨bo,pk,pp,pd,pl,zl⟩:∃ (bo:Nat) (pk:iE × Int) (pp pd pl:aj),0 < (k:Int)→∃ (h:k - 1 < l.length),vA=some ⟨bo,0,none⟩∧pk=(l[k - 1].head,l[k - 1].kind)∧xs[(k - 1)*11]?=some (vi pk.2)∧jF I5 pk.1 pp pd pl∧∀ j u,[pp,vi pk.1.marks.ins,vi pk.1.marks.move,pd,pl][j]?=some u→xs[(k - 1)*11+4+j]?=some u:=by
   by_cases h0:0 < k
   ·obtain ⟨bo,Oz⟩:=hrw.ptr h0;obtain ⟨cs,hcl,hcx,hcr⟩:=OA.at (k:=k - 1) (r:=l[k - 1].dat) (by rw [tQ,au (by omega)];simp [show k - 1 < l.length by omega]);obtain ⟨qA,qn,qc,sA,sn,sc,tA,tn,tc,fA2,fn2,fc2,rA2,rn2,rc2,rfl,hh,-,-⟩:=hcr.item;refine ⟨bo,(l[k - 1].head,l[k - 1].kind),.slice qA qn qc,.slice sA sn sc,.slice tA tn tc,fun _=>⟨by omega,Oz,rfl,hcx 0 _ rfl,hh,fun j u hj=>?_⟩⟩;rw [Nat.add_assoc]
    exact hcx (4+j) u (by
     match j,hj with
     | 0,hj=>exact hj
     | 1,hj=>exact hj
     | 2,hj=>exact hj
     | 3,hj=>exact hj
     | 4,hj=>exact hj)
   exact ⟨0,(⟨[],⟨0,0,[],[]⟩⟩,0),.slice none 0 0,.slice none 0 0,.slice none 0 0,fun h=>by omega⟩
  have Vq:l[k].kind=1→0 < (k:Int)→pk.2=1→¬ pk.1=l[k].head:=by
   intro c1 c2 c3 e;obtain ⟨hk1,-,hpk,-⟩:=zl c2;have hjk:=hj (k - 1) (by omega);rw [hpk] at e c3
   simp only [show k - 1+1=k by omega] at hjk
   exact hjk ⟨c3,c1,e⟩
  have c1:¬ (l[k].kind=1):=p46;refine dI hmx [[],[0],[0,1],[0,1,2],(ra 0 4),(ra 0 5),(ra 0 6),(ra 0 7),(ra 0 8),(ra 0 8),(ra 0 8++[9]),(ra 0 11),(ra 0 12),(ra 0 13),(ra 0 14),(ra 0 15),(ra 0 16),(ra 0 17),(ra 0 17),(ra 0 17++[18]),(ra 0 20),(ra 0 21),(ra 0 22),(ra 0 17),(ra 0 17++[23]),(ra 0 25),(ra 0 26),(ra 0 27)] [] (by kernel_rfl) [_,vi l[k].kind,_,_,undef,undef,_,_,undef,undef,undef,undef,undef,undef,undef,_,_,undef,undef,undef,undef,undef,undef,undef,undef,undef,_,_] H (aF (Z0 rfl (Rf jB rfl)) (Z1 0 53 rfl (Ro aC 0 rfl)) (Z1 1 54 rfl (Rc rfl)) (Z1 2 55 rfl (Rm rfl)) (aF (aL (j:=3) (by kernel_rfl) (fun _ _ _ _ _ h=>h) rfl rfl rfl rfl rfl (fun _ _ h=>aM h (aG (aO c1))) rfl (fun _=>rfl)) (aL (j:=3) (by kernel_rfl) (fun _ _ _ _ _ h=>h) rfl rfl rfl rfl rfl (fun _ _ h=>aM h (aG (aO c1))) rfl (fun _=>rfl)) (Z2 3 56 5 58 rfl (Pf (aO c1) rfl)) (Z1 6 59 rfl (Rm rfl)) (aF (aL (j:=7) (by kernel_rfl) (fun _ _ _ _ _ h=>h) rfl rfl rfl rfl rfl (fun _ _ h=>aM h (aG rfl)) rfl (fun _=>rfl)) (aL (j:=7) (by kernel_rfl) (fun _ _ _ _ _ h=>h) rfl rfl rfl rfl rfl (fun _ _ h=>aM h (aG rfl)) rfl (fun _=>rfl)) (aL (j:=7) (by kernel_rfl) (fun _ _ _ _ _ h=>h) rfl rfl rfl rfl rfl (fun _ _ h=>aM h (aG rfl)) rfl (fun _=>rfl)) (aL (j:=7) (by kernel_rfl) (fun _ _ _ _ _ h=>h) rfl rfl rfl rfl rfl (fun _ _ h=>aM h (aG rfl)) rfl (fun _=>rfl)) (aF (aL (j:=7) (by kernel_rfl) (fun _ _ _ _ _ h=>h) rfl rfl rfl rfl rfl (fun _ _ h=>aM h (aG rfl)) rfl (fun _=>rfl)) (aL (j:=7) (by kernel_rfl) (fun _ _ _ _ _ h=>h) rfl rfl rfl rfl rfl (fun _ _ h=>aM h (aG rfl)) rfl (fun _=>rfl)) (aL (j:=7) (by kernel_rfl) (fun _ _ _ _ _ h=>h) rfl rfl rfl rfl rfl (fun _ _ h=>aM h (aG rfl)) rfl (fun _=>rfl)) (Z2 7 60 14 67 rfl (Pf rfl rfl)) (aF (Z1 15 68 rfl (Rm rfl)) (aL (j:=16) (by kernel_rfl) (fun _ _ _ _ _ h=>h) rfl rfl rfl rfl rfl (fun _ _ h=>aM h (aG rfl)) rfl (fun _=>rfl)) (aL (j:=16) (by kernel_rfl) (fun _ _ _ _ _ h=>h) rfl rfl rfl rfl rfl (fun _ _ h=>aM h (aG rfl)) rfl (fun _=>rfl)) (aL (j:=16) (by kernel_rfl) (fun _ _ _ _ _ h=>h) rfl rfl rfl rfl rfl (fun _ _ h=>aM h (aG rfl)) rfl (fun _=>rfl)) (aF (aL (j:=16) (by kernel_rfl) (fun _ _ _ _ _ h=>h) rfl rfl rfl rfl rfl (fun _ _ h=>aM h (aG rfl)) rfl (fun _=>rfl)) (aL (j:=16) (by kernel_rfl) (fun _ _ _ _ _ h=>h) rfl rfl rfl rfl rfl (fun _ _ h=>aM h (aG rfl)) rfl (fun _=>rfl)) (aL (j:=16) (by kernel_rfl) (fun _ _ _ _ _ h=>h) rfl rfl rfl rfl rfl (fun _ _ h=>aM h (aG rfl)) rfl (fun _=>rfl)) (aL (j:=16) (by kernel_rfl) (fun _ _ _ _ _ h=>h) rfl rfl rfl rfl rfl (fun _ _ h=>aM h (aG rfl)) rfl (fun _=>rfl)) (aF (aL (j:=16) (by kernel_rfl) (fun _ _ _ _ _ h=>h) rfl rfl rfl rfl rfl (fun _ _ h=>aM h (aG rfl)) rfl (fun _=>rfl)) (aL (j:=16) (by kernel_rfl) (fun _ _ _ _ _ h=>h) rfl rfl rfl rfl rfl (fun _ _ h=>aM h (aG rfl)) rfl (fun _=>rfl)) (Z2 16 69 25 78 rfl (Pf rfl rfl)) (Z1 26 79 rfl (Ra rfl)) bX))))))) ?_
  clear H;intro a w G iY H hv;have H:=H.aR (hv 27 52 rfl rfl) rfl;clear hv;refine aH ⟨rfl,?_⟩;refine cK _ _ ?_;clear cK;refine kS H rfl rfl ?_;refine kP H (SC (Rm rfl ?_));clear H;intro a H;refine bD dM (cs:=[_,_,_,_,_,_,_,_,_,_,_]) H wn rfl rfl (H.hp.dS 0 rfl rfl) rfl ?_;clear H;intro a H;refine gQ gV dM [_,_,_,_,_,_,_,_,_,_,_] [_,_,_,_,_,_,_,_,_,_,_] H wn rfl rfl rfl rfl rfl (by intro i q h;match i,h with|0,h=>exact h|n+1,h=>simp at h) rfl rfl ?_;clear H;intro MK a w Ov H;refine nU (Li:=[_,_]) (Lo:=Lo) (news:=wW) gV dM rfl rfl H wn rfl rfl hrw (by rw [sS];rfl) (by rw [sS];exact H.hp.dS 0 rfl rfl) AL.one (by omega) (by omega) rfl ?_;clear H;intro v31 C8 a w DK H;refine kH H (aU K7 rfl (SC (Rd rfl (Rm rfl ?_))));clear H K7;intro a H;refine aH ?_;refine cu ((k+1,v31,xs++wW,C8,G)) (by exact (H.dK (Pl:=[_,_]) (cB:=[]) [] (by decide) rfl).sub ⟨rfl,rfl,rfl,rfl,aD⟩) ?_ ?_
  ·(try dsimp only);exact ⟨by omega,DK,by rw [hA1];exact (jD.mono (fun b o h=>iY b o (rR b o (qx b o (sU b o (oM b o h)))))).snoc (AL.mono iY) (by rw [sS];rfl),fun b o h=>iY b o (rR b o (qx b o (sU b o (oM b o (hgm b o h)))))⟩
  first|omega|(dsimp only;omega)
 intro h10 a H
 try have mD:=dF h10
 refine dU ?_;refine K3 _ _ ?_;clear K3;refine bA (fun _ dw=>?_);obtain ⟨G',hm,hrep,H⟩:=H.uo (Li:=[]) hrw (rows:=l.map aA.dat) (by simp;omega) (by rw [jH (by simp;omega)] at jD;exact jD);exact kP H (SC (Rm rfl (aU dw rfl (LR results44 rfl fun H=>H.rt hrep))))
end
section
open Go.RowKit
end
section
open Go.RowKit
end
section
open Go.RowKit
end
section
open Go.RowKit
theorem akA (l m:List aA):bC (l++m)=bC l+bC m:=by simp [bC,QA]
end
section
open Go.RowKit
end
section
open Go.RowKit
end
section
open Go.RowKit
theorem acY:∀ args w,(callFunc 42 args).run prog w=.ok (.enter 42 args) w:=enters func42 rfl (by kernel_rfl)
theorem TR:∀ args w,(callFunc 43 args).run prog w=.ok (.enter 43 args) w:=enters func43 rfl (by kernel_rfl)
def Bf (l:List aA) (fr to:Int):Int:=if xW l=0 then (if fr < 0∨to < fr∨wu l < to then 2 else 0) else xW l
theorem aaT (G:GH) (w0:World) (hG:Hold G w0) (l:List aA) (fr to:Int) (v:aj) (hv:av G (.sl 11 (l.map aA.dat)) v) (hz:bC l≤4294967296) :
  Calls prog 42 #[v,vi fr,vi to] w0 (bE w0 G fun u G'=>u=vi (Bf l fr to)):=by
 refine eN [(0,_),(1,_),(2,_)] func42 rfl ntmps42 rfl rfl hG ?_;intro a H;refine kP H (SR fun _ K1=>ak K1 rfl (SR fun _ K2=>Rm rfl ?_));clear H K1;intro a H;refine s_call TP H wn rfl (V9 _ _ H.ro l v hv hz) rfl ?_;clear H;rintro v11 _ a w ⟨rfl,rfl⟩ - H;refine kH H (Rm rfl ?_);clear H;intro a H;(iterate 2 refine kN H wn rfl rfl rfl ?_;clear H;intro a H);refine kH H (Ra rfl (ak K2 rfl (SQ fun _ K3=>SB (SR fun _ K4=>Rm rfl (Rc rfl (ak K4 rfl (Cd rfl ?_ ?_))))))) <;> clear H K2 K4
 ·intro dW a H
  try have mQ:=dT dW
  exact kP H (SR fun _ K5=>Rm rfl (ak K5 rfl (LR results42 rfl fun H=>H.rt (by rw [Bf,ah mQ]))))
 intro dW a H
 try have mQ:=dF dW
 refine kP H (SR fun _ K6=>Rm rfl (Rc rfl (Rm rfl (Sp 21 rfl ?_ ?_)))) <;> clear H
 ·intro h21 a H
  try have pV:=dT h21
  refine kH H (aX h21 rfl (Pt h21 rfl (Rm rfl (aX rfl rfl (Pt rfl rfl (ak K6 rfl (Ct rfl rfl (SR fun _ K7=>ak K7 rfl ?_))))))));clear H K6 K7;intro a H;refine lr H results42 rfl ?_
  have h0:xW l=0:=by omega
  refine H.rt ?_;rw [Bf,au h0]
  first
   | (rw [au (by omega)];done)
   | (rw [ah (by omega)];done)
 intro h21 a H
 try have pV:=dF h21
 refine kH H (YM h21 rfl (YM h21 rfl (YC h21 rfl (Pf h21 rfl (Rm rfl (Sp 26 rfl ?_ ?_)))))) <;> clear H
 ·intro fq a H
  try have p26:=dT fq
  refine kH H (aX fq rfl (Pt fq rfl (ak K6 rfl (Ct rfl rfl (SR fun _ K8=>ak K8 rfl ?_)))));clear H K6 K8;intro a H;refine lr H results42 rfl ?_
  have h0:xW l=0:=by omega
  refine H.rt ?_;rw [Bf,au h0]
  first
   | (rw [au (by omega)];done)
   | (rw [ah (by omega)];done)
 intro fq a H
 try have p26:=dF fq
 refine kH H (YM fq rfl (YM fq rfl (YC fq rfl (Pf fq rfl (ak K6 rfl (Cd rfl ?_ ?_)))))) <;> clear H K6
 ·intro h18 a H
  try have wz:=dT h18
  refine kP H (SR fun _ K9=>ak K9 rfl ?_);clear H K9;intro a H;refine lr H results42 rfl ?_
  have h0:xW l=0:=by omega
  refine H.rt ?_;rw [Bf,au h0]
  first
   | (rw [au (by omega)];done)
   | (rw [ah (by omega)];done)
 intro h18 a H
 try have wz:=dF h18
 refine kP H (Kc K3 (SR fun _ aT=>ak aT rfl ?_));clear H K3 aT;intro a H;refine lr H results42 rfl ?_
 have h0:xW l=0:=by omega
 refine H.rt ?_;rw [Bf,au h0]
 first
  | (rw [au (by omega)];done)
  | (rw [ah (by omega)];done)
def R6 (m:List aA):Prop:=Gc m∧∀ x∈m,R5 x
theorem IL:∀ {m l:List aA},m.Sublist l→bC m≤bC l
 | _,_,.slnil=>bU _
 | _,_,.cons a h=>by have:=IL h;simp only [bC,eZ,eX] at *;omega
 | _,_,.cons_cons a h=>by have:=IL h;simp only [bC,eZ,eX] at *;omega
theorem PO:∀ (l:List aA) (o:Nat),(gN o l).map (·.2)=l
 | [],_=>rfl
 | x :: l,o=>by simp [gN,PO l]
theorem ahe (t:Int) (l:List aA):(vw t l).Sublist l:=by
 have h:(lA t (gN 0 l)).Sublist ((gN 0 l).map (·.2)):=List.Sublist.map _ List.filter_sublist
 rwa [PO] at h
theorem aiI (t:Int) (l:List aA):(Cu t l).Sublist l:=by
 have h:(rA t (gN 0 l)).Sublist ((gN 0 l).map (·.2)):=List.Sublist.map _ List.filter_sublist
 rwa [PO] at h
def IW (t:Int) (l:List aA):Prop:=∀ a∈gN 0 l,vX t a=true∨t≤a.1
theorem ajz (G:GH) (w0:World) (hG:Hold G w0) (l:List aA) (fr to:Int) (v:aj) (hv:av G (.sl 11 (l.map aA.dat)) v) (hz:bC l≤1073741824) (hr:Bf l fr to=0)
  (h1:IW to l) (h2:IW fr (vw to l)) (hp:R6 (Cu fr (vw to l))) :
  Calls prog 19 #[v,vi fr,vi to] w0 (bE w0 G fun u G'=>∃ x,u=.tuple #[x,vi 0]∧av G' (.sl 11 ((Cu fr (vw to l)).map aA.dat)) x):=by
 have z1:=IL (ahe to l);have z2:=IL (aiI fr (vw to l));refine eN [(0,_),(1,_),(2,_)] func19 rfl ntmps19 rfl rfl hG ?_;intro a H;refine kP H (SR fun _ K1=>Ra rfl (ak K1 rfl (SQ fun _ K2=>SR fun _ K3=>Rm rfl (Rm rfl (Rm rfl ?_)))));clear H K1;intro a H;refine s_call acY H wn rfl (aaT _ _ H.ro l fr to v hv (by omega)) rfl ?_;clear H;rintro v16 rF a w rfl rQ H;rw [hr] at H;refine kH H (ak K3 rfl (SR fun _ K4=>Rm rfl (Rc rfl (Kz K4 (Cd rfl ?_ ?_))))) <;> clear H K3 K4
 ·intro h18 a H
  exact absurd h18 (by decide)
 intro h18 a H
 try have wz:=dF h18
 refine kP H (Kc K2 (SR fun _ K5=>Rm rfl (Rm rfl ?_)));clear H K2;intro a H;refine s_call TR H wn rfl (Tx _ _ H.ro l to v (hv.mono rQ) hz h1) rfl ?_;clear H;rintro v23 Mc a w ⟨x,y,rfl,hx,hy⟩ qx H;refine kH H (Rm rfl ?_);clear H;intro a H;(iterate 2 refine kN H wn rfl rfl rfl ?_;clear H;intro a H);refine kH H (Ra rfl (ak K5 rfl (SR fun _ K6=>Rm rfl (Rm rfl ?_))));clear H K5;intro a H;refine s_call TR H wn rfl (Tx _ _ H.ro (vw to l) fr x hx (by omega) h2) rfl ?_;clear H;rintro v29 Md a w ⟨x2,y2,rfl,hx2,hy2⟩ OI H;refine kH H (Rm rfl ?_);clear H;intro a H;(iterate 2 refine kN H wn rfl rfl rfl ?_;clear H;intro a H);refine kH H (Ra rfl (ak K6 rfl (SR fun _ K7=>Rm rfl ?_)));clear H K6;intro a H;refine s_call TS H wn rfl (ahN _ _ H.ro _ y2 hy2 hp.1 hp.2 (by omega)) rfl ?_;clear H;rintro v33 Za a w Vt aln H;obtain ⟨A33,n33,c33,rfl⟩:=Vt.form;refine kH H (Ra rfl (ak K7 rfl ?_));clear H K7;intro a H;refine cZ ?_;refine (fG H results19 (.cons (aW H rfl) (.cons (aW H rfl) .nil)) ?_).1;exact H.rt ⟨_,rfl,Vt⟩
end
section
open Go.RowKit
abbrev hd0:iE:=⟨[],⟨0,0,[],[]⟩⟩
theorem JY {G:GH}:jF G hd0 (.slice none 0 0) (.slice none 0 0) (.slice none 0 0):=⟨av.jw rfl (by decide),av.jw rfl (by decide),av.jw rfl (by decide)⟩
end
section
open Go.RowKit
theorem ajL:pq prog 63 [(0,1),(1,1),(2,1),(3,1),(4,5),(9,1),(10,1)] [.int .i64 0,.int .i64 0,.int .i64 0,.string ⟨#[]⟩,.slice none 0 0,.int .i64 0,.int .i64 0,.slice none 0 0,.slice none 0 0,.slice none 0 0,.slice none 0 0]:=⟨by kernel_rfl,by kernel_rfl⟩
theorem ajK:pq prog 38 [(0,1),(1,5),(6,1),(7,4)] [.slice none 0 0,.slice none 0 0,.int .i64 0,.int .i64 0,.slice none 0 0,.slice none 0 0,.slice none 0 0,.slice none 0 0,.slice none 0 0,.slice none 0 0,.slice none 0 0]:=⟨by kernel_rfl,by kernel_rfl⟩
theorem adb:∀ args w,(callFunc 48 args).run prog w=.ok (.enter 48 args) w:=enters func48 rfl (by kernel_rfl)
theorem acP:∀ args w,(callFunc 26 args).run prog w=.ok (.enter 26 args) w:=enters func26 rfl (by kernel_rfl)
theorem acN:∀ args w,(callFunc 17 args).run prog w=.ok (.enter 17 args) w:=enters func17 rfl (by kernel_rfl)
theorem acO:∀ args w,(callFunc 19 args).run prog w=.ok (.enter 19 args) w:=enters func19 rfl (by kernel_rfl)
theorem ajZ:Ty prog 121 2 32 [.pointer none,.slice none 0 0] true:=⟨by kernel_rfl,by kernel_rfl⟩
theorem TQ:∀ args w,(callFunc 31 args).run prog w=.ok (.enter 31 args) w:=enters func31 rfl (by kernel_rfl)
theorem acQ:∀ args w,(callFunc 27 args).run prog w=.ok (.enter 27 args) w:=enters func27 rfl (by kernel_rfl)
theorem QF:qb ⟨#[120,121,122]⟩=true∧ql ⟨#[120,121,122]⟩ 0=3:=by
 have d0:lZ ⟨#[120,121,122]⟩ 0=(120,1,true):=by decide
 have d1:lZ ⟨#[120,121,122]⟩ 1=(121,1,true):=by decide
 have d2:lZ ⟨#[120,121,122]⟩ 2=(122,1,true):=by decide
 have e3:nN ⟨#[120,121,122]⟩ 3=-1:=by rw [nN,dif_neg (by decide)]
 have e2:nN ⟨#[120,121,122]⟩ 2=-1:=by rw [nN,dif_pos (by decide),dif_pos (by rw [d2]),d2];exact e3
 have e1:nN ⟨#[120,121,122]⟩ 1=-1:=by rw [nN,dif_pos (by decide),dif_pos (by rw [d1]),d1];exact e2
 have e0:nN ⟨#[120,121,122]⟩ 0=-1:=by rw [nN,dif_pos (by decide),dif_pos (by rw [d0]),d0];exact e1
 have c3:ql ⟨#[120,121,122]⟩ 3=0:=by rw [ql,ah (by decide)]
 have c2:ql ⟨#[120,121,122]⟩ 2=1:=by rw [ql,au (by decide),c3];decide
 have c1:ql ⟨#[120,121,122]⟩ 1=2:=by rw [ql,au (by decide),c2];decide
 have c0:ql ⟨#[120,121,122]⟩ 0=3:=by rw [ql,au (by decide),c1];decide
 exact ⟨by unfold qb;rw [e0];decide,c0⟩
theorem ajY:qb ⟨#[97]⟩=true:=by
 have d0:lZ ⟨#[97]⟩ 0=(97,1,true):=by decide
 have e1:nN ⟨#[97]⟩ 1=-1:=by rw [nN,dif_neg (by decide)]
 have e0:nN ⟨#[97]⟩ 0=-1:=by rw [nN,dif_pos (by decide),dif_pos (by rw [d0]),d0];exact e1
 unfold qb;rw [e0];decide
theorem Yd:qb ⟨#[]⟩=true:=by
 have e0:nN ⟨#[]⟩ 0=-1:=by rw [nN,dif_neg (by decide)]
 unfold qb;rw [e0];decide
def mG:aA:=.mk 8 1 1 ⟨#[97]⟩ hd0 [] []
def lJ:aA:=.mk 1 0 0 ⟨#[120,121,122]⟩ hd0 [] []
def nX:aA:=.mk 8 2 1 ⟨#[]⟩ hd0 [] []
def nY:aA:=.mk 2 0 0 ⟨#[]⟩ hd0 [] []
def kK:List aA:=[mG,lJ,nX,nY]
theorem CF:dY lJ=3∧rC lJ=0:=by simp [dY,rC,lJ,aA.kind,aA.text,vR,FQ,QF.1,QF.2]
theorem zJ:dY mG=1∧rC mG=0:=by simp [dY,rC,mG,aA.kind]
theorem FN:dY nX=1∧rC nX=0:=by simp [dY,rC,nX,aA.kind]
theorem Iz:dY nY=1∧rC nY=0:=by simp [dY,rC,nY,aA.kind]
theorem ahC:n1 lJ=3:=by simp [n1,CF.1,CF.2]
theorem ahB:n1 mG=1:=by simp [n1,zJ.1,zJ.2]
theorem ahz:n1 nX=1:=by simp [n1,FN.1,FN.2]
theorem ahA:n1 nY=1:=by simp [n1,Iz.1,Iz.2]
theorem a16:dL 0 0 kK=[⟨1,1,⟨#[97]⟩,0,0⟩,⟨2,1,⟨#[]⟩,0,4⟩]:=by
 simp only [kK,dL,MC,ahC,ahB,ahz,ahA]
 simp [mG,lJ,nX,nY,aA.kind,aA.code,aA.id,aA.text]
theorem XR:zD (dL 0 0 kK) 1=[⟨1,⟨#[97]⟩,0,1,0,4⟩]:=by
 rw [a16]
 simp [zD,jE,iU,Bn,BM]
theorem aeE:GV kK ⟨#[97]⟩=some ⟨1,⟨#[97]⟩,0,1,0,4⟩:=by
 unfold GV;rw [XR];simp
theorem V8:xW kK=0∧wu kK=6:=by
 simp [xW,wu,uT,nW,kK,CF.1,CF.2,zJ.1,zJ.2,FN.1,FN.2,Iz.1,Iz.2]
theorem o16:gN 0 kK=[(0,mG),(1,lJ),(4,nX),(5,nY)]:=by simp [gN,kK,zJ.1,CF.1,FN.1]
theorem lf16:vw 4 kK=[mG,lJ]:=by simp [vw,lA,o16,vX,zJ.1,CF.1,FN.1,Iz.1]
theorem WO:gN 0 [mG,lJ]=[(0,mG),(1,lJ)]:=by simp [gN,zJ.1]
theorem Xo:Cu 1 (vw 4 kK)=[lJ]:=by rw [lf16];simp [Cu,rA,WO,vX,zJ.1,CF.1]
theorem abx:IW 4 kK:=by
 intro a ha;rw [o16] at ha
 simp only [kZ,List.not_mem_nil,or_false] at ha
 rcases ha with rfl|rfl|rfl|rfl <;> simp [vX,zJ.1,CF.1]
theorem aby:IW 1 (vw 4 kK):=by
 rw [lf16];intro a ha;rw [WO] at ha
 simp only [kZ,List.not_mem_nil,or_false] at ha
 rcases ha with rfl|rfl <;> simp [vX,zJ.1]
theorem ail:R6 (Cu 1 (vw 4 kK)):=by
 rw [Xo];exact ⟨Gc.one (bU _),fun x hx=>by rw [rH.1 hx];exact ⟨rfl,rfl,by decide,fun _=>by rw [ByteArray.toList_eq];decide⟩⟩
theorem aiJ:Bf kK 1 4=0:=by simp [Bf,V8.1,V8.2]
theorem aey:yY kK 0=some kK:=by simp [yY,BR]
theorem YD:bC kK≤1000:=by
 have h1:=oU mG;have h2:=oU lJ;have h3:=oU nX;have h4:=oU nY
 have h0:qd hd0=5:=by simp [IJ,eX]
 have s1:mG.text.size=1:=rfl;have s2:lJ.text.size=3:=rfl;have s3:nX.text.size=0:=rfl;have s4:nY.text.size=0:=rfl;rw [show mG.head=hd0 from rfl,h0,show bC mG.flow=0 from rfl,show ig mG.rows=0 from rfl] at h1;rw [show lJ.head=hd0 from rfl,h0,show bC lJ.flow=0 from rfl,show ig lJ.rows=0 from rfl] at h2;rw [show nX.head=hd0 from rfl,h0,show bC nX.flow=0 from rfl,show ig nX.rows=0 from rfl] at h3;rw [show nY.head=hd0 from rfl,h0,show bC nY.flow=0 from rfl,show ig nY.rows=0 from rfl] at h4
 simp only [bC,kK,eZ,qj,eX]
 omega
theorem LW (C:gW) {e:Int} (h1:1≤e) (h2:e≤10):iG C e hd0=0:=by
 have h3:gM e []=0:=by rw [gM,ah (by omega)];rfl
 simp [iG,dH,hd0,h3,yg,jK,ko,bV]
theorem ok16:eY kK:=by
 have f1:jU mG=0:=by
  have hn:pG ⟨#[97]⟩=true:=by decide
  simp [jU,mG,aA.kind,aA.code,aA.id,aA.text,aA.flow,aA.rows,codeOk,vY,yQ,zu,zN,zF,sM,ajY,hn]
 have f2:jU lJ=0:=by
  simp [jU,lJ,aA.kind,aA.code,aA.id,aA.text,aA.flow,aA.rows,codeOk,vY,yQ,zu,zN,zF,sM,QF.1]
 have f3:jU nX=0:=by
  simp [jU,nX,aA.kind,aA.code,aA.id,aA.text,aA.flow,aA.rows,codeOk,vY,yQ,zu,zN,zF,sM,Yd]
 have f4:jU nY=0:=by
  simp [jU,nY,aA.kind,aA.code,aA.id,aA.text,aA.flow,aA.rows,codeOk,vY,yQ,zu,zN,zF,sM,Yd]
 have C:gW:=⟨[],[],[]⟩;have q1:∀ s:CS,kD true false 0 mG.kind mG.id s=(0,s):=fun s=>rfl;have q2:∀ s:CS,kD true false 0 lJ.kind lJ.id s=(0,s):=fun s=>rfl;have q3:∀ s:CS,kD true false 0 nX.kind nX.id s=(0,s):=fun s=>rfl;have q4:∀ s:CS,kD true false 0 nY.kind nY.id s=(0,s):=fun s=>rfl;have h1:iG C mG.kind mG.head=0:=LW C (by decide) (by decide);have h2:iG C lJ.kind lJ.head=0:=LW C (by decide) (by decide);have h3:iG C nX.kind nX.head=0:=LW C (by decide) (by decide);have h4:iG C nY.kind nY.head=0:=LW C (by decide) (by decide);refine ⟨C,true,false,0,⟨0,[]⟩,(jh C true false 0 kK ⟨0,[]⟩).2,?_⟩
 simp [kK,jh,Kq,fT,f1,f2,f3,f4,q1,q2,q3,q4,h1,h2,h3,h4,show ¬ mG.kind=6 by decide,show ¬ mG.kind=7 by decide,show ¬ lJ.kind=6 by decide,show ¬ lJ.kind=7 by decide,show ¬ nX.kind=6 by decide,show ¬ nX.kind=7 by decide,show ¬ nY.kind=6 by decide,show ¬ nY.kind=7 by decide]
theorem Ue (G:GH) (w0:World) (hG:Hold G w0) :
  Calls prog 31 #[] w0 (bE w0 G fun u G'=>∃ D:mI,u=D.val∧av G' (.sl 11 (kK.map aA.dat)) (eD D.f)):=by
 refine eN [] func31 rfl ntmps31 rfl rfl hG ?_;intro a H;refine dB (fun _ K1=>?_);refine eB ru H wn rfl ?_;clear H;intro b0 a w hb0 H;refine K1 _ _ ?_;clear K1;refine dB (fun _ K2=>?_);(iterate 4 refine iT ajL [_,_,_,_,_,_,_,_,_,_,_] H wn rfl rfl rfl rfl ?_;clear H;intro a H);refine gQ gV dM [_,_,_,_,_,_,_,_,_,_,_,_,_,_,_,_,_,_,_,_,_,_,_,_,_,_,_,_,_,_,_,_,_,_,_,_,_,_,_,_,_,_,_,_] [_,_,_,_,_,_,_,_,_,_,_,_,_,_,_,_,_,_,_,_,_,_,_,_,_,_,_,_,_,_,_,_,_,_,_,_,_,_,_,_,_,_,_,_] H wn rfl rfl rfl rfl rfl (by intro i q h;match i,h with|0,h=>exact h|1,h=>exact h|2,h=>exact h|3,h=>exact h|n+4,h=>simp at h) rfl rfl ?_;clear H;intro b5 a w hb5 H;refine iT ajK [_,_,_,_,_,_,_,_,_,_,_] H wn rfl rfl rfl rfl ?_;clear H;intro a H;refine bH ru 1 (vs:=[_,_,_,_,_,_,_,_,_,_,_]) _ H wn rfl rfl rfl rfl rfl rfl rfl rfl ?_;clear H;intro w H;dsimp only [List.set,setRow] at H;refine K2 _ _ ?_;clear K2;refine cZ ?_;refine (leave1 H results31 (.cons (Bh ru (cs:=[_,_,_,_,_,_,_,_,_,_,_]) H rfl rfl (H.hp.dS 1 rfl rfl)) .nil) ?_).1;have H:=H.dK (Pl:=[_,_]) (cB:=[_]) [0] (by decide) rfl;obtain ⟨G3,OJ,Dz,H⟩:=H.dP;have r1:aZ G3 mG.dat _:=aZ.mkItem (x:=mG) JY (av.jw (A:=none) (n:=0) (c:=0) rfl (by decide)) (av.jw (A:=none) (n:=0) (c:=0) rfl (by decide));have r2:aZ G3 lJ.dat _:=aZ.mkItem (x:=lJ) JY (av.jw (A:=none) (n:=0) (c:=0) rfl (by decide)) (av.jw (A:=none) (n:=0) (c:=0) rfl (by decide));have r3:aZ G3 nX.dat _:=aZ.mkItem (x:=nX) JY (av.jw (A:=none) (n:=0) (c:=0) rfl (by decide)) (av.jw (A:=none) (n:=0) (c:=0) rfl (by decide));have r4:aZ G3 nY.dat _:=aZ.mkItem (x:=nY) JY (av.jw (A:=none) (n:=0) (c:=0) rfl (by decide)) (av.jw (A:=none) (n:=0) (c:=0) rfl (by decide));have jD:fE G3 11 (kK.map aA.dat) _:=(((fE.nil.snoc r1 rfl).snoc r2 rfl).snoc r3 rfl).snoc r4 rfl;exact H.rt ⟨⟨(some ⟨b5,0,none⟩,4,4),(none,0,0),(none,0,0),(none,0,0),(none,0,0),(none,0,0),(none,0,0),(none,0,0),(none,0,0),0,0⟩,rfl,av.eu (n:=4) (cap:=4) Dz rfl (bU _) (show 4≤maxLen by decide) rfl jD⟩
set_option maxHeartbeats 1000000 in
theorem ajV (G:GH) (w0:World) (hG:Hold G w0) (D:mI) (hv:av G (.sl 11 (kK.map aA.dat)) (eD D.f)) :
  Calls prog 27 #[D.val,.string ⟨#[97]⟩] w0 (bE w0 G fun u G'=>u=.tuple #[.string ⟨#[120,121,122]⟩,.bool true]):=by
 have hz:=YD;refine eN [(0,_),(1,_)] func27 rfl ntmps27 rfl rfl hG ?_;intro a H;refine dB (fun _ K1=>?_);refine eU (cs:=[_,_,_,_,_,_,_,_,_,_,_]) H wn rfl rfl rfl ?_;clear H;intro b2 a w hb2 H;refine kH H (Ra rfl (ak K1 rfl (SQ fun _ K2=>?_)));clear H K1;intro a H;obtain ⟨Ga,hma,hb',H⟩:=H.dP;have hga:=fun j v hj=>xq hb' 0 D.cells rfl j v hj;replace hv:=hv.mono hma;refine pE ?_;refine bD ru (cs:=D.cells) H wn rfl rfl (fun j v hj=>H.hp.aI (hga j v hj)) rfl ?_;clear H;intro a H;refine kH H (Rm rfl ?_);clear H;intro a H;refine s_call acP H wn rfl (ZL _ _ H.ro D kK ⟨#[97]⟩ hv ok16 (by omega)) rfl ?_;clear H;rintro v18 Q5 a w rfl hm18 H;rw [aeE] at H;dsimp only [Option.getD_some,Option.isSome_some] at H;replace hv:=hv.mono hm18;replace hga:=fun j v hj=>aK hm18 (hga j v hj);refine kH H (Rm rfl ?_);clear H;intro a H;(iterate 2 refine kN H wn rfl rfl rfl ?_;clear H;intro a H);refine eB qE H wn rfl ?_;clear H;intro b6 a w hb6 H;refine bH qE 0 (vs:=[_,_,_,_,_,_]) _ H wn rfl rfl rfl rfl rfl rfl rfl rfl ?_;clear H;intro w H;dsimp only [List.set,setRow] at H;refine kH H (aU K2 rfl (SQ fun _ K3=>SR fun _ K4=>Rm rfl (Rn rfl (Kz K4 (Cd rfl ?_ ?_))))) <;> clear H K2 K4
 ·intro h22 a H
  exact absurd h22 (by decide)
 intro h22 a H
 try have iw:=dF h22
 refine gI ?_;refine K3 _ _ ?_;clear K3;refine dB (fun _ K5=>?_);refine bD ru (cs:=D.cells) H wn rfl rfl (fun j v hj=>H.hp.aI (hga j v hj)) rfl ?_;clear H;intro a H;refine kH H (Rf JJ rfl (aP Ae aC 0 rfl rfl ?_));clear H;intro a H;refine s_call acN H wn rfl (aeA _ _ H.ro D kK 0 hv (by omega)) rfl ?_;clear H;rintro v28 Y9 a w ⟨x28,rfl,hx28⟩ alm H;rw [aey,Option.getD_some] at hx28;obtain ⟨A28,n28,c28,rfl⟩:=hx28.form;refine kH H (Rm rfl ?_);clear H;intro a H;(iterate 2 refine kN H wn rfl rfl rfl ?_;clear H;intro a H);refine kH H (Ra rfl (ak K5 rfl (SR fun _ K6=>Rm rfl (Rf JJ rfl (aP uh aC 0 rfl rfl (Rf JK rfl (aP uh aC 0 rfl rfl ?_)))))));clear H K5;intro a H;refine s_call acO H wn rfl (ajz _ _ H.ro kK 1 4 _ hx28 (by omega) aiJ abx aby ail) rfl ?_;clear H;rintro v39 Q7 a w ⟨x39,rfl,hx39⟩ afO H;rw [Xo] at hx39;obtain ⟨A39,n39,c39,rfl⟩:=hx39.form;obtain rfl:n39=1:=hx39.len;refine kH H (Rm rfl ?_);clear H;intro a H;(iterate 2 refine kN H wn rfl rfl rfl ?_;clear H;intro a H);refine kH H (Ra rfl (ak K6 rfl (SR fun _ K7=>?_)));clear H K6;intro a H;refine eB ajZ H wn rfl ?_;clear H;intro b12 a w Aw H;refine K7 _ _ ?_;clear K7;refine kP H (SQ fun _ K8=>SR fun _ K9=>Rm rfl (Rl gV rfl (Rm rfl (Kz K9 (SB ?_)))));clear H K9;intro a H;skip;refine eT (ι:=Nat × aj × aj × Nat × OL) (Tc:=[(12,_),(42,_),(43,_)]) (Lc:=[(_,_)]) (fun gh=>[(44,vi gh.1)]) (fun gh=>[bB b12 gh.2.1 gh.2.2.1]++gh.2.2.2.2) (fun gh=>Q7) (fun gh=>gh.1≤1∧(gh.1=0→gh.2.1=.pointer none∧gh.2.2.1=.slice none 0 0∧gh.2.2.2.2=[])∧(gh.1=1→gh.2.1=(aJ b12 0)∧dx 5 1 gh.2.2.1 3 (Lib.byteCells [120,121,122]) gh.2.2.2.2)) (fun gh=>1 - gh.1) ((0,.pointer none,.slice none 0 0,0,[])) (by exact (H.dK (Pl:=[_,_]) (cB:=[_,_]) [1,0] (by decide) rfl).sub ⟨rfl,rfl,rfl,rfl,aD⟩) ?_ ?_
 ·exact ⟨by omega,fun _=>⟨rfl,rfl,rfl⟩,fun h=>absurd h (by decide)⟩
 clear H;intro gh a w hI H;obtain ⟨k,p,v,n,Lo⟩:=gh;dsimp only at hI H;obtain ⟨hk,hk0,hk1⟩:=hI;dsimp only [lca,bg] at H;refine kP H (SR fun _ aT=>Rc rfl (Kz aT (SQ fun _ bq=>Cd rfl ?_ ?_))) <;> clear H aT
 ·intro h45 a H
  try have p45:=dT h45
  obtain rfl:k=0:=by omega
  obtain ⟨rfl,rfl,rfl⟩:=hk0 rfl;obtain ⟨b,o,pA,pn,pc,dA,dn,dc,yA,yn,yc,fA,fn,fc,rA,rn,rc,rfl,hrow,hhd,hfl,hrw⟩:=Ai (l:=[lJ]) (k:=0) (by decide) hx39.at_;refine kP H (Kc bq (SQ fun _ bF=>SB (SR fun _ bJ=>Ri gV dM rfl rfl ?_)));clear H bq;intro a H;refine bD dM (cs:=[_,_,_,_,_,_,_,_,_,_,_]) H wn rfl rfl (fun j v hj=>H.hp.aI (hrow j v hj)) rfl ?_;clear H;intro a H;refine eB dM H wn rfl ?_;clear H;intro b14 a w Ou H;refine bH dM 0 (vs:=[_,_,_,_,_,_,_,_,_,_,_]) _ H wn rfl rfl rfl rfl rfl rfl rfl rfl ?_;clear H;intro w H;dsimp only [List.set,setRow] at H;refine bJ _ _ ?_;clear bJ;refine kP H (SR fun _ bN=>aP jB aC 0 rfl rfl (Rc rfl (Kz bN (Cd rfl ?_ ?_)))) <;> clear H bN
  ·intro h50 a H
   try have p50:=dT h50
   refine kP H (SC (aP uj fZ 0 rfl rfl ?_));clear H;intro a H;refine gU adb (Li:=[_,_]) (L:=bB b12 (.pointer none) (.slice none 0 0) :: []) H wn rfl (akx _ _ _ b12 (.pointer none) (.slice none 0 0) 0 [] ⟨#[120,121,122]⟩ (.inl rfl) (Hp.owns (Li:=[_,_]) H.hp) dx.nil (by decide)) rfl ?_;clear H;rintro v_ _ L53 a w ⟨v53,Zz,rfl,ags,rfl⟩ alq H;refine kH H (Kn bF (SC (Rd rfl (Rm rfl ?_))));clear H bF;intro a H;refine aH ?_;refine cu ((1,(aJ b12 0),v53,0,Zz)) (by exact (H.dK (Pl:=[_,_,_]) (cB:=[_,_]) [1,2] (by decide) rfl).sub ⟨rfl,rfl,rfl,rfl,aD⟩) ?_ ?_
   ·(try dsimp only);exact ⟨by omega,fun h=>absurd h (by omega),fun _=>⟨rfl,ags⟩⟩
   first|omega|(dsimp only;omega)
  intro h50 a H
  exact absurd h50 (by decide)
 intro h45 a H
 try have p45:=dF h45
 obtain rfl:k=1:=by omega
 obtain ⟨rfl,hrw3⟩:=hk1 rfl;refine dU ?_;refine K8 _ _ ?_;clear K8;refine dB (fun _ cK=>?_);refine gU TT (Li:=[_]) (L:=bB b12 _ v :: Lo) H wn rfl (ajQ _ _ _ b12 _ v [120,121,122] (Hp.owns (Li:=[_]) H.hp) hrw3 (by decide)) rfl ?_;clear H;rintro v55 I7 L55 a w rfl uy H;refine kH H (Ra rfl (ak cK rfl ?_));clear H cK;intro a H;refine cZ ?_;refine (fG H results27 (.cons (aW H rfl) (.cons (aW H rfl) .nil)) ?_).1;exact H.rt rfl
theorem V6 (G:GH) (w0:World) (hG:Hold G w0):Calls prog 9 #[] w0 (bE w0 G fun u G'=>u=.bool true):=by
 have hz:=YD;refine eN [] func9 rfl ntmps9 rfl rfl hG ?_;intro a H;refine kP H (SR fun _ K1=>ak K1 rfl (SR fun _ K2=>?_));clear H K1;intro a H;refine s_call TQ H wn rfl (Ue _ _ H.ro) rfl ?_;clear H;rintro v4 G4 a w ⟨D4,rfl,hv4⟩ Hy H;refine s_call TJ H wn rfl (SF _ _ H.ro D4 kK hv4 ok16 (by omega)) rfl ?_;clear H;rintro v5 G5 a w hr OO H;rw [XR] at hr;obtain ⟨A5,n5,c5,rfl⟩:=hr.form;obtain rfl:n5=1:=hr.len;obtain ⟨b,o,rfl,hrow⟩:=Qt (A:=[⟨1,⟨#[97]⟩,0,1,0,4⟩]) (k:=0) hr (by decide);refine kH H (ak K2 rfl (SR fun _ K3=>?_));clear H K2;intro a H;refine s_call TQ H wn rfl (Ue _ _ H.ro) rfl ?_;clear H;rintro v7 G7 a w ⟨D7,rfl,hv7⟩ AJ H;refine s_call acQ H wn rfl (ajV _ _ H.ro D7 hv7) rfl ?_;clear H;rintro v8 G8 a w rfl zk H;refine kH H (Rm rfl ?_);clear H;intro a H;(iterate 2 refine kN H wn rfl rfl rfl ?_;clear H;intro a H);refine kH H (Ra rfl (ak K3 rfl (SR fun _ K4=>Rm rfl (Rl Es rfl (Rc rfl (Rm rfl (Sp 14 rfl ?_ ?_))))))) <;> clear H K3
 ·intro dW a H
  try have mQ:=dT dW
  refine kH H (YM dW rfl ?_);clear H;intro a H;refine KX Es qE 0 H (wg H rfl rfl dW) rfl rfl rfl (by decide) rfl ?_;clear H;intro a H;refine bD qE (cs:=[vi 1,.string ⟨#[97]⟩,vi 0,vi 1,vi 0,vi 4]) H (wg H rfl rfl dW) rfl rfl (fun j v hj=>H.hp.aI (aK zk (aK AJ (hrow j v hj)))) rfl ?_;clear H;intro a H;(iterate 2 refine iT Qu [_,_] H (wg H rfl rfl dW) rfl rfl rfl rfl ?_;clear H;intro a H);refine iT Qv [_,_,_,_,_,_] H (wg H rfl rfl dW) rfl rfl rfl rfl ?_;clear H;intro a H;refine XA adK H (wg H rfl rfl dW) rfl rfl rfl rfl ?_;clear H;intro a H;refine kH H (Pt dW rfl (Rm rfl (Sp 23 rfl ?_ ?_))) <;> clear H
  ·intro h23 a H
   try have rU:=dT h23
   refine kH H (YM h23 rfl ?_);clear H;intro a H;refine zy H (wg H rfl rfl h23) rfl rfl rfl ?_;clear H;intro a H;refine kH H (Pt h23 rfl (Rm rfl (Sp 27 rfl ?_ ?_))) <;> clear H
   ·intro h27 a H
    exact kH H (YM h27 rfl (Pt h27 rfl (ak K4 rfl (LR results9 rfl fun H=>H.rt rfl))))
   intro h27 a H
   try have p27:=dF h27
   exact absurd h27 (by first|decide|simp [jv,jI])
  intro h23 a H
  try have rU:=dF h23
  exact absurd h23 (by first|decide|simp [jv,jI])
 intro dW a H
 exact absurd dW (by decide)
end
section
open Go.RowKit
theorem EN:∀ args w,(callFunc 58 args).run prog w=.ok (.enter 58 args) w:=enters func58 rfl (by kernel_rfl)
theorem Nf:∀ args w,(callFunc 128 args).run prog w=.ok (.enter 128 args) w:=enters func128 rfl (by kernel_rfl)
theorem GD:∀ args w,(callFunc 60 args).run prog w=.ok (.enter 60 args) w:=enters func60 rfl (by kernel_rfl)
theorem E8 (G:GH) (L:OL) (w0:World) (st:List bL) (li:List fU) (rv:List fH) (b ms ml mr mb mu:Nat) (n:Int) (hck:tJ G st li rv ms ml mr mu) (hO:gX G (fO b ms ml mr mb mu n :: L) w0)
  (e:Int) (h:iE) (p d l:aj) (hh:jF G h p d l) (hz:qd h≤4294967296) :
  Calls prog 58 #[(aJ b 0),vi e,zi h p d l] w0 (gH w0 G (fO b ms ml mr mb mu n :: L) fun v G' L'=>G=G'∧L'=fO b ms ml mr mb mu n :: L∧v=vi (iG (aV st li rv) e h)):=by
 have hm:=GH.Ji G (o:=(fO b ms ml mr mb mu n).2) (hO.sep _ gD);exact (afJ (G.add b (fO b ms ml mr mb mu n).2) w0 hO.add st li rv b ms ml mr mb mu n (hck.mono hm) (GH.Jj _ _ _) e h p d l (hh.mono hm) hz).mono fun _ _=>aiF (b:=b) (o:=(fO b ms ml mr mb mu n).2) (R':=fun v=>v=vi (iG (aV st li rv) e h)) hO fun _ _ h=>h
abbrev IV (b ms ml mr mb mu:Nat) (L:OL) (r:CR):aj→OL→Prop:=fun u L'=>∃ s:CS,u=vi r.1∧L'=fO b ms ml mr mb mu s.n :: (mb,fK (fP s.bG)) :: L∧(r.1=0→s=r.2)
def Ew (m:Nat):Prop:=∀ (G:GH) (L:OL) (w0:World) (st:List bL) (li:List fU) (rv:List fH) (b ms ml mr mb mu:Nat) (s:CS) (l:List aA) (v:aj) (body note:Bool) (t:Int),
 tJ G st li rv ms ml mr mu→gX G (fO b ms ml mr mb mu s.n :: (mb,fK (fP s.bG)) :: L) w0→av G (.sl 11 (l.map aA.dat)) v→bC l < m→0≤t→t≤4→0≤s.n→s.n+(bC l:Nat)≤1099511627776 →
 Calls prog 60 #[(aJ b 0),v,.agg #[.bool body,.bool note,vi t]] w0 (gH w0 G (fO b ms ml mr mb mu s.n :: (mb,fK (fP s.bG)) :: L) fun u G' L'=>G=G'∧IV b ms ml mr mb mu L (jh (aV st li rv) body note t l s) u L')
theorem rows_ok {m:Nat} (ih:Ew m) (hm:m≤4294967296) (Gt:GH) (L:OL) (w0:World) (st:List bL) (li:List fU) (rv:List fH) (b ms ml mr mb mu:Nat) (s:CS) (l:List bO) (v:aj) (note:Bool) (t:Int)
  (hck:tJ Gt st li rv ms ml mr mu) (hO:gX Gt (fO b ms ml mr mb mu s.n :: (mb,fK (fP s.bG)) :: L) w0) (hv:av Gt (.sl 6 (l.map bO.dat)) v) (hz:ig l < m) (ht0:0≤t) (DN:t≤4) (hs0:0≤s.n) (hs1:s.n+(ig l:Nat)≤1099511627776) :
  Calls prog 129 #[(aJ b 0),v,.agg #[.bool false,.bool note,vi t]] w0 (gH w0 Gt (fO b ms ml mr mb mu s.n :: (mb,fK (fP s.bG)) :: L) fun u G' L'=>IV b ms ml mr mb mu L (lI l.length (fun s=>iO (aV st li rv) note t l s) s) u L'):=by
 obtain ⟨A,c,rfl,hc1,hc2,hg⟩:=hv.slice;rw [bQ] at *;have hll:=IQ l;refine jO (N:=77) (T:=[(0,_),(1,_),(2,_)]) func129 rfl ntmps129 rfl rfl hO ?_;intro a H;refine dB (fun _ K1=>?_);refine eU (cs:=[_,_,_]) H wn rfl rfl rfl ?_;clear H;intro b5 a w hb5 H;refine kH H (ak K1 rfl (SQ fun _ K2=>SR fun _ K3=>Rm rfl (Rl mU rfl (Rc rfl (Kz K3 (Cd rfl ?_ ?_)))))) <;> clear H K1 K3
 ·intro dV a H
  try have mE:=dT dV
  refine bA (fun _ K4=>?_);have hE:lI l.length (fun s=>iO (aV st li rv) note t l s) s=(11,s):=au (by omega);exact kP H (SC (aU K4 rfl (LR results129 rfl fun H=>H.hp.fI (L':=fO b ms ml mr mb mu s.n :: (mb,fK (fP s.bG)) :: L) (by repeat (first|exact fV _|apply List.Sublist.cons)) ⟨s,by rw [hE],rfl,fun h=>by rw [hE]⟩)))
 intro dV a H
 try have mE:=dF dV
 refine kP H (Kc K2 (SQ fun _ K5=>SR fun _ K6=>Rm rfl (Rl mU rfl (Rc rfl (Kz K6 (Cd rfl ?_ ?_)))))) <;> clear H K2 K6
 ·intro h20 a H
  try have Ef:=dT h20
  refine bA (fun _ K7=>?_)
  have hE:lI l.length (fun s=>iO (aV st li rv) note t l s) s=(9,s):=by rw [lI,ah (by omega),au (by omega)]
  exact kP H (SC (aU K7 rfl (LR results129 rfl fun H=>H.hp.fI (L':=fO b ms ml mr mb mu s.n :: (mb,fK (fP s.bG)) :: L) (by repeat (first|exact fV _|apply List.Sublist.cons)) ⟨s,by rw [hE],rfl,fun h=>by rw [hE]⟩)))
 intro h20 a H
 try have Ef:=dF h20
 refine kP H (Kc K5 (SQ fun _ K8=>SQ fun _ K9=>?_));clear H K5;intro a H
 have hE:lI l.length (fun s=>iO (aV st li rv) note t l s) s=iO (aV st li rv) note t l s:=by rw [lI,ah (by omega),ah (by omega)]
 refine kP H (SC (Rm rfl (Rl mU rfl (Rm rfl (Kn K9 (SB ?_))))));clear H K9;intro a H;skip;refine eT (ι:=Nat × CS × GH) (Tc:=[(0,_),(5,_),(21,_),(22,_)]) (Lc:=[(_,_)]) (fun gh=>[(23,vi gh.1)]) (fun gh=>[fO b ms ml mr mb mu gh.2.1.n,(mb,fK (fP gh.2.1.bG))]++L) (fun gh=>gh.2.2) (fun gh=>gh.1≤l.length∧(∀ b o,Gt b=some o→gh.2.2 b=some o)∧iO (aV st li rv) note t l s=iO (aV st li rv) note t (l.drop gh.1) gh.2.1∧0≤gh.2.1.n∧gh.2.1.n+(ig (l.drop gh.1):Nat)≤1099511627776) (fun gh=>l.length - gh.1) ((0,s,Gt)) (by exact (H).sub ⟨rfl,rfl,rfl,rfl,rfl,aD⟩) ?_ ?_
 ·exact ⟨iy _,fun _ _ h=>h,rfl,hs0,hs1⟩
 clear H;intro gh a w hI H;obtain ⟨k,s1,g⟩:=gh;dsimp only at hI H;obtain ⟨hk,hgm,hR,hn0,hn1⟩:=hI;dsimp only [lca,bg] at H;refine kP H (SR fun _ aT=>Rc rfl (Kz aT (SQ fun _ bq=>Cd rfl ?_ ?_))) <;> clear H aT
 ·intro dD a H
  try have jS:=dT dD
  have hk2:k < l.length:=by omega
  have hsz:=LY hk2;have hcs:=II l[k].cells
  have hdz:ig (l.drop k)=1+dh l[k].dat+ig (l.drop (k+1)):=by simp only [ig];rw [lW hk2,eZ,eX]
  have hrz:=Bz l[k];obtain ⟨xb,xo,qA,qn,qc,eA,en,ec,zA,zn,zc,cA,cn,cc,rfl,hrow,AO,hcl⟩:=Im hk2 hg;replace hrow:=fun j u hj=>aK hgm (hrow j u hj);replace AO:=AO.mono hgm;replace hcl:=hcl.mono hgm;have hcn:=hcl.len;rw [bQ] at hcn;subst hcn;have afy:=hck.mono hgm;rw [lW hk2,iO,KQ] at hR;refine kP H (Kc bq (SQ fun _ bF=>SB (SR fun _ bJ=>Ri mU kE rfl rfl ?_)));clear H bq;intro a H;refine bD kE (cs:=[_,_,_,_,_,_]) H wn rfl rfl (fun j v hj=>H.hp.aI (hrow j v hj)) rfl ?_;clear H;intro a H;refine eB kE H wn rfl ?_;clear H;intro b8 a w Dz H;refine bH kE 0 (vs:=[_,_,_,_,_,_]) _ H wn rfl rfl rfl rfl rfl rfl rfl rfl ?_;clear H;intro w H;dsimp only [List.set,setRow] at H;refine bJ _ _ ?_;clear bJ;refine bA (fun _ bN=>?_);refine bA (fun _ cK=>?_);refine dI hmx [[],[],[1],[0,1,2],[],[4],[4,5],[4,5,6],(ra 0 8),[],[9],[9,10],[9,10,11],(ra 0 13),(ra 0 14),(ra 0 15),(ra 0 16)] [14,15,16] (by kernel_rfl) [_,_,zi l[k].head (.slice qA qn qc) (.slice eA en ec) (.slice zA zn zc),vi (iG (aV st li rv) 9 l[k].head),_,.slice cA l[k].cells.length cc,_,_,vi (bV (decide ((l[k].cells.length:Int)=0)) 11),_,.slice cA l[k].cells.length cc,_,_,vi (bV (decide (32 < (l[k].cells.length:Int))) 9)] H (aF (Z0 rfl (Rm rfl)) (Z0 rfl (Rf Uv rfl)) ?_ ?_ (aF (Z0 rfl (Rf vV rfl)) (Z1 4 31 rfl (Ro wI 0 rfl)) (Z1 5 32 rfl (Rl qH rfl)) (Z1 6 33 rfl (Rc rfl)) (aF ?_ (Z0 rfl (Rf vV rfl)) (Z1 9 36 rfl (Ro wI 0 rfl)) (Z1 10 37 rfl (Rl qH rfl)) (aF (Z1 11 38 rfl (Rc rfl)) ?_ (bK rfl) (bK rfl) (aS (bK rfl) bX))))) ?_
  ·refine dR 1 28 rfl rfl fun _ a w G1 hG HT H fin=>?_;refine bD qD (cs:=[_,_,_,_,_]) H wn rfl rfl (H.hp.dS 0 rfl rfl) rfl ?_;clear H;intro a H;exact fin H iJ rfl
  ·refine dG 0 27 2 29 rfl rfl fun _ a w G1 hG HT H fin=>?_;refine gU EN (Li:=[_,_]) (L:=fO b ms ml mr mb mu s1.n :: (mb,fK (fP s1.bG)) :: L) H wn rfl (E8 _ _ _ st li rv b ms ml mr mb mu _ (afy.mono hG) (Hp.owns (Li:=[_,_]) H.hp) 9 l[k].head _ _ _ (AO.mono hG) (by omega)) rfl ?_;clear H;rintro v30 _ _ a w ⟨rfl,rfl,rfl⟩ N9 H;dsimp only [lca,bg] at H;exact fin H N9 (rfl)
  ·refine dR 7 34 rfl rfl fun _ a w G1 hG HT H fin=>?_;refine s_call iW H wn rfl (iZ _ _ H.ro _ 11) rfl ?_;clear H;rintro v35 Q6 a w ⟨rfl,-⟩ Oa H;exact fin H Oa (rfl)
  ·refine dR 12 39 rfl rfl fun _ a w G1 hG HT H fin=>?_;refine s_call iW H wn rfl (iZ _ _ H.ro _ 9) rfl ?_;clear H;rintro v40 Q8 a w ⟨rfl,-⟩ aeS H;exact fin H aeS (rfl)
  clear H;intro a w G qp H hv;have H:=H.aR (hv 3 30 rfl rfl) rfl;have H:=H.aR (hv 8 35 rfl rfl) rfl;have H:=H.aR (hv 13 40 rfl rfl) rfl;clear hv;refine gQ oF gK [_,_,_] [_,_,_] H wn rfl rfl rfl rfl rfl (by intro i q h;match i,h with|0,h=>exact h|1,h=>exact h|2,h=>exact h|n+3,h=>simp at h) rfl rfl ?_;clear H;intro b41 a w akW H;obtain ⟨Mf,Vg,afr,H⟩:=H.dP;have U7:∀ b o,Gt b=some o→Mf b=some o:=fun b o h=>Vg _ _ (qp _ _ (hgm _ _ h));refine s_call pI H wn rfl (pJ _ _ H.ro _ _ (DV [iG (aV st li rv) 9 l[k].head,bV (decide ((l[k].cells.length:Int)=0)) 11,bV (decide (32 < (l[k].cells.length:Int))) 9] afr (show 3≤maxLen by decide))) rfl ?_;clear H;rintro v42 _ a w ⟨rfl,rfl⟩ - H;refine kH H (Ra rfl ?_);clear H;intro a H;refine aH ⟨rfl,?_⟩;refine cK _ _ ?_;clear cK;refine kP H (SR fun _ dw=>Rm rfl (Rc rfl (Kz dw (Cd rfl ?_ ?_)))) <;> clear H dw
  ·intro Du a H
   try have p44:=dT Du
   have e44:Ej (aV st li rv) l[k].head l[k].cells.length≠0:=p44
   have hF1:(lI l.length (fun s=>iO (aV st li rv) note t l s) s).1=Ej (aV st li rv) l[k].head l[k].cells.length:=by rw [hE,hR,Jm (r:=(Ej (aV st li rv) l[k].head l[k].cells.length,s1)) e44,Jm e44]
   have hF2:(lI l.length (fun s=>iO (aV st li rv) note t l s) s).1=0→s1=(lI l.length (fun s=>iO (aV st li rv) note t l s) s).2:=fun h=>absurd (hF1.symm.trans h) e44;exact kP H (SR fun _ bY=>Rm rfl (ak bY rfl (LR results129 rfl fun H=>H.hp.fI (L':=fO b ms ml mr mb mu s1.n :: (mb,fK (fP s1.bG)) :: L) (by repeat (first|exact fV _|apply List.Sublist.cons)) ⟨s1,ay vi hF1.symm,rfl,hF2⟩)))
  intro Du a H
  try have p44:=dF Du
  have e44:Ej (aV st li rv) l[k].head l[k].cells.length=0:=mY.1 p44;rw [Gg (r:=(Ej (aV st li rv) l[k].head l[k].cells.length,s1)) e44] at hR;dsimp only at hR;have afz:=hck.mono U7;replace hcl:=hcl.mono (fun b o h=>Vg _ _ (qp b o h));refine kP H (Kc bN (SR fun _ dz=>aP vV wI 0 rfl rfl (Rl qH rfl (Rm rfl (Kz dz (SB ?_))))));clear H bN dz;intro a H;skip;refine eT (ι:=Nat × CS × GH) (Tc:=[(0,_),(5,_),(21,_),(22,_),(23,_),(47,_),(48,_)]) (Lc:=[(_,_),(_,_)]) (fun gh=>[(49,vi gh.1)]) (fun gh=>[fO b ms ml mr mb mu gh.2.1.n,(mb,fK (fP gh.2.1.bG))]++L) (fun gh=>gh.2.2) (fun gh=>gh.1≤l[k].cells.length∧(∀ b o,Mf b=some o→gh.2.2 b=some o)∧iO (aV st li rv) note t l s=fT (rO (aV st li rv) note t (l[k].cells.drop gh.1) gh.2.1) (fun s=>iO (aV st li rv) note t (l.drop (k+1)) s)∧0≤gh.2.1.n∧gh.2.1.n+(jm (l[k].cells.drop gh.1):Nat)+(ig (l.drop (k+1)):Nat)≤1099511627776) (fun gh=>l[k].cells.length - gh.1) ((0,s1,Mf)) (by exact (H).sub ⟨rfl,rfl,rfl,rfl,rfl,rfl,rfl,rfl,aD⟩) ?_ ?_
  ·exact ⟨iy _,fun _ _ h=>h,hR,hn0,by dsimp only;rw [uP];omega⟩
  clear H;intro gh a w hI H;obtain ⟨c,s2,g2⟩:=gh;dsimp only at hI H;obtain ⟨hc,J3,hR2,hm0,hm1⟩:=hI;have oL:=fun b o h=>J3 b o (U7 b o h);dsimp only [lca,bg] at H;refine kP H (SR fun _ fC=>Rc rfl (Kz fC (SQ fun _ dN=>Cd rfl ?_ ?_))) <;> clear H fC
  ·intro h50 a H
   try have p50:=dT h50
   have hk4:c < l[k].cells.length:=by omega
   have agw:=LX hk4
   have afD:jm (l[k].cells.drop c)=1+dh l[k].cells[c].dat+jm (l[k].cells.drop (c+1)):=by simp only [jm];rw [lW hk4,eZ,eX]
   have hcz:=Bw l[k].cells[c];obtain ⟨b3',o3,sA,sn,sc,tA,tn,tc,uA,un,uc,gA,gn,gc,rfl,hrow,hch,hcf⟩:=Gm hk4 (hcl.mono J3).at_;have OB:=afz.mono J3;rw [lW hk4,rO,Ju] at hR2;obtain ⟨y,hy⟩:∃ y,y=l[k].cells[c]:=⟨_,rfl⟩;rw [← hy] at hR2 hrow hch hcf hcz agw afD;refine kP H (Kc dN (SQ fun _ fQ=>SB (SR fun _ iq=>Ri qH mF rfl rfl ?_)));clear H dN;intro a H;refine bD mF (cs:=[_,_,_,_,_,_,_]) H wn rfl rfl (fun j v hj=>H.hp.aI (hrow j v hj)) rfl ?_;clear H;intro a H;refine eB mF H wn rfl ?_;clear H;intro b11 a w Dx H;refine bH mF 0 (vs:=[_,_,_,_,_,_,_]) _ H wn rfl rfl rfl rfl rfl rfl rfl rfl ?_;clear H;intro w H;dsimp only [List.set,setRow] at H;refine iq _ _ ?_;clear iq;refine kP H (SQ fun _ jA=>SR fun _ jo=>Rm rfl (aP GU aC 0 rfl rfl ?_));clear H;intro a H;refine gU Nf (Li:=[_,_,_]) (L:=fO b ms ml mr mb mu s2.n :: (mb,fK (fP s2.bG)) :: L) H wn rfl (MR _ _ _ st li rv b ms ml mr mb mu _ s2.bG y.id OB (Hp.owns (Li:=[_,_,_]) H.hp)) rfl ?_;clear H;rintro v56 _ _ a w ⟨rfl,rfl,rfl⟩ - H;dsimp only [lca,bg] at H;refine kH H (ak jo rfl (SR fun _ jc=>Rm rfl (Rc rfl (Kz jc (Cd rfl ?_ ?_))))) <;> clear H jo jc
   ·intro jJ a H
    try have p58:=dT jJ
    have hF1:(lI l.length (fun s=>iO (aV st li rv) note t l s) s).1=pQ s2.bG y.id:=by rw [hE,hR2];simp [fT,jR,p58]
    have hF2:(lI l.length (fun s=>iO (aV st li rv) note t l s) s).1=0→(⟨s2.n,jQ s2.bG y.id⟩:CS)=(lI l.length (fun s=>iO (aV st li rv) note t l s) s).2:=fun h=>absurd (hF1.symm.trans h) p58;exact kP H (SR fun _ jG=>Rm rfl (ak jG rfl (LR results129 rfl fun H=>H.hp.fI (L':=fO b ms ml mr mb mu s2.n :: (mb,fK (fP (jQ s2.bG y.id))) :: L) (by repeat (first|exact fV _|apply List.Sublist.cons)) ⟨⟨s2.n,jQ s2.bG y.id⟩,ay vi hF1.symm,rfl,hF2⟩)))
   intro jJ a H
   try have p58:=dF jJ
   have e58:pQ s2.bG y.id=0:=mY.1 p58;refine kP H (Kc jA (SQ fun _ jM=>SR fun _ iI=>Rm rfl (Rf Uw rfl ?_)));clear H jA;intro a H;refine bD qD (cs:=[_,_,_,_,_]) H wn rfl rfl (H.hp.dS 0 rfl rfl) rfl ?_;clear H;intro a H;refine gU EN (Li:=[_,_,_]) (L:=fO b ms ml mr mb mu s2.n :: (mb,fK (fP (jQ s2.bG y.id))) :: L) H wn rfl (E8 _ _ _ st li rv b ms ml mr mb mu _ OB (Hp.owns (Li:=[_,_,_]) H.hp) 10 y.head _ _ _ hch (by omega)) rfl ?_;clear H;rintro v63 _ _ a w ⟨rfl,rfl,rfl⟩ - H;dsimp only [lca,bg] at H;refine kH H (ak iI rfl (SR fun _ lU=>Rm rfl (Rc rfl (Kz lU (Cd rfl ?_ ?_))))) <;> clear H iI lU
   ·intro qQ a H
    try have p65:=dT qQ
    have hF1:(lI l.length (fun s=>iO (aV st li rv) note t l s) s).1=iG (aV st li rv) 10 y.head:=by rw [hE,hR2];simp [fT,jR,e58,p65]
    have hF2:(lI l.length (fun s=>iO (aV st li rv) note t l s) s).1=0→(⟨s2.n,jQ s2.bG y.id⟩:CS)=(lI l.length (fun s=>iO (aV st li rv) note t l s) s).2:=fun h=>absurd (hF1.symm.trans h) p65;exact kP H (SR fun _ mJ=>Rm rfl (ak mJ rfl (LR results129 rfl fun H=>H.hp.fI (L':=fO b ms ml mr mb mu s2.n :: (mb,fK (fP (jQ s2.bG y.id))) :: L) (by repeat (first|exact fV _|apply List.Sublist.cons)) ⟨⟨s2.n,jQ s2.bG y.id⟩,ay vi hF1.symm,rfl,hF2⟩)))
   intro qQ a H
   try have p65:=dF qQ
   have e65:iG (aV st li rv) 10 y.head=0:=mY.1 p65;refine kP H (Kc jM (SR fun _ nH=>Rm rfl (aP ET iD 0 rfl rfl ?_)));clear H jM;intro a H;refine bD LA (cs:=[_,_,_]) H wn rfl rfl (H.hp.dS 2 rfl rfl) rfl ?_;clear H;intro a H;refine gU GD (Li:=[_,_,_]) (L:=fO b ms ml mr mb mu s2.n :: (mb,fK (fP (jQ s2.bG y.id))) :: L) H wn rfl (ih _ _ _ st li rv b ms ml mr mb mu ⟨s2.n,jQ s2.bG y.id⟩ y.flow _ false note t OB (Hp.owns (Li:=[_,_,_]) H.hp) hcf (by omega) ht0 DN hm0 (by dsimp only;omega)) rfl ?_;clear H;rintro v71 _ _ a w ⟨rfl,s3,rfl,rfl,h3⟩ - H;dsimp only [lca,bg] at H;refine kH H (ak nH rfl (SR fun _ mV=>Rm rfl (Rc rfl (Kz mV (Cd rfl ?_ ?_))))) <;> clear H nH mV
   ·intro NR a H
    try have p73:=dT NR
    have hF1:(lI l.length (fun s=>iO (aV st li rv) note t l s) s).1=(jh (aV st li rv) false note t y.flow ⟨s2.n,jQ s2.bG y.id⟩).1:=by rw [hE,hR2];simp [fT,jR,e58,e65,p73]
    have hF2:(lI l.length (fun s=>iO (aV st li rv) note t l s) s).1=0→s3=(lI l.length (fun s=>iO (aV st li rv) note t l s) s).2:=fun h=>absurd (hF1.symm.trans h) p73;exact kP H (SR fun _ mK=>Rm rfl (ak mK rfl (LR results129 rfl fun H=>H.hp.fI (L':=fO b ms ml mr mb mu s3.n :: (mb,fK (fP s3.bG)) :: L) (by repeat (first|exact fV _|apply List.Sublist.cons)) ⟨s3,ay vi hF1.symm,rfl,hF2⟩)))
   intro NR a H
   try have p73:=dF NR
   have M8:(jh (aV st li rv) false note t y.flow ⟨s2.n,jQ s2.bG y.id⟩).1=0:=mY.1 p73;obtain ⟨hu1,hu2⟩:=LM (aV st li rv) false note t y.flow ⟨s2.n,jQ s2.bG y.id⟩;rw [← h3 M8] at hu1 hu2;dsimp only at hu1 hu2
   have hS:fT (fT (fT (jR s2 y.id) fun s=>fT (iG (aV st li rv) 10 y.head,s) fun s=>jh (aV st li rv) false note t y.flow s) fun s=>rO (aV st li rv) note t (l[k].cells.drop (c+1)) s) (fun s=>iO (aV st li rv) note t (l.drop (k+1)) s)=fT (rO (aV st li rv) note t (l[k].cells.drop (c+1)) s3) (fun s=>iO (aV st li rv) note t (l.drop (k+1)) s):=by
    rw [h3 M8];simp [fT,jR,e58,e65,M8]
   refine kP H (Kc fQ (SC (Rd rfl (Rm rfl ?_))));clear H fQ;intro a H;refine aH ?_;refine cu ((c+1,s3,g2)) (by exact (H.dK (Pl:=[_,_,_,_,_]) (cB:=[_,_,_,_]) [1,2,3,4] (by decide) rfl).sub ⟨rfl,rfl,rfl,rfl,rfl,rfl,rfl,rfl,aD⟩) ?_ ?_
   ·(try dsimp only);exact ⟨by omega,J3,hR2.trans hS,by omega,by omega⟩
   first|omega|(dsimp only;omega)
  intro h50 a H
  try have p50:=dF h50
  refine dU ?_;refine bF _ _ ?_;clear bF;refine kP H (SC (Rd rfl (Rm rfl ?_)));clear H;intro a H;refine aH ?_;refine cu ((k+1,s2,g2)) (by exact (H.dK (Pl:=[_,_,_,_]) (cB:=[_,_,_]) [1,2,3] (by decide) rfl).sub ⟨rfl,rfl,rfl,rfl,rfl,aD⟩) ?_ ?_
  ·(try dsimp only);exact ⟨by omega,oL,by rw [hR2,iK (by omega),rO,Gg rfl],hm0,by omega⟩
  first|omega|(dsimp only;omega)
 intro dD a H
 try have jS:=dF dD
 refine dU ?_;refine K8 _ _ ?_;clear K8;refine bA (fun _ nZ=>?_)
 have hF1:(lI l.length (fun s=>iO (aV st li rv) note t l s) s).1=0:=by rw [hE,hR,iK (by omega),iO]
 have hF2:(lI l.length (fun s=>iO (aV st li rv) note t l s) s).1=0→s1=(lI l.length (fun s=>iO (aV st li rv) note t l s) s).2:=fun h=>by rw [hE,hR,iK (by omega),iO]
 exact kP H (SC (aU nZ rfl (LR results129 rfl fun H=>H.hp.fI (L':=fO b ms ml mr mb mu s1.n :: (mb,fK (fP s1.bG)) :: L) (by repeat (first|exact fV _|apply List.Sublist.cons)) ⟨s1,ay vi hF1.symm,rfl,hF2⟩)))
end
section
open Go.RowKit
theorem acf:∀ args w,(callFunc 129 args).run prog w=.ok (.enter 129 args) w:=enters func129 rfl (by kernel_rfl)
theorem ace:∀ args w,(callFunc 127 args).run prog w=.ok (.enter 127 args) w:=enters func127 rfl (by kernel_rfl)
theorem Dl:bW prog 147 5 5:=⟨by kernel_rfl⟩
theorem adV:bW prog 106 0 0:=⟨by kernel_rfl⟩
theorem ahR {G:GH} {b:Nat} {x:Int} (h:G b=some (.cells #[vi x] 56 (0,0))):av G (.sl 1 ([x].map fun k=>[li k])) (.slice (some ⟨b,0,none⟩) 1 1):=DV [x] h (show 1≤maxLen by decide)
theorem agQ {m:Nat} (ih:Ew m) (hm:m≤4294967296) (Gt:GH) (L:OL) (w0:World) (st:List bL) (li:List fU) (rv:List fH) (b ms ml mr mb mu:Nat) (s:CS) (x:aA) (p d y f r:aj) (body note:Bool) (t:Int)
  (hck:tJ Gt st li rv ms ml mr mu) (hO:gX Gt (fO b ms ml mr mb mu s.n :: (mb,fK (fP s.bG)) :: L) w0) (hh:jF Gt x.head p d y) (hf:av Gt (.sl 11 (x.flow.map aA.dat)) f) (hr:av Gt (.sl 6 (x.rows.map bO.dat)) r) (hz:dh x.dat≤m) (ht0:0≤t) (DN:t≤4) (hs0:0≤s.n) (hs1:s.n+(dh x.dat:Nat)≤1099511627776) :
  Calls prog 95 #[(aJ b 0),.agg #[vi x.kind,vi x.code,vi x.id,.string x.text,p,vi x.head.marks.ins,vi x.head.marks.move,d,y,f,r],.agg #[.bool body,.bool note,vi t]] w0 (gH w0 Gt (fO b ms ml mr mb mu s.n :: (mb,fK (fP s.bG)) :: L) fun u G' L'=>IV b ms ml mr mb mu L (eH (aV st li rv) body note t x s) u L'):=by
 obtain ⟨pA,pn,pc,rfl⟩:=hh.props.form;obtain ⟨dA,dn,dc,rfl⟩:=hh.cO.form;obtain ⟨lA,ln,lc,rfl⟩:=hh.layers.form;obtain ⟨fA,fc,rfl,-⟩:=hf.slice;obtain ⟨rA,rc,rfl,-⟩:=hr.slice;(iterate 2 rw [bQ] at *);have hxz:=oU x;have hcl:=Gw x.text
 have DR:dY x≤x.text.size+1:=by unfold dY;split <;> omega
 have hE:=Kq (aV st li rv) body note t x s;refine jO (N:=117) (T:=[(0,_),(1,_),(2,_)]) func95 rfl ntmps95 rfl rfl hO ?_;intro a H;refine dB (fun _ K1=>?_);refine eU (cs:=[_,_,_,_,_,_,_,_,_,_,_]) H wn rfl rfl rfl ?_;clear H;intro b4 a w hb4 H;refine eU (cs:=[_,_,_]) H wn rfl rfl rfl ?_;clear H;intro b5 a w hb5 H;refine kH H (ak K1 rfl (SQ fun _ K2=>SR fun _ K3=>?_));clear H K1;intro a H;refine bD dM (cs:=[_,_,_,_,_,_,_,_,_,_,_]) H wn rfl rfl (H.hp.dS 1 rfl rfl) rfl ?_;clear H;intro a H;refine s_call ace H wn rfl (aeG _ _ H.ro x _ _ _ _ _ _ _ (by omega)) rfl ?_;clear H;rintro v15 _ a w ⟨rfl,rfl⟩ - H;refine kH H (ak K3 rfl (SR fun _ K4=>Rm rfl (Rc rfl (Kz K4 (Cd rfl ?_ ?_))))) <;> clear H K3 K4
 ·intro dV a H
  try have mE:=dT dV
  rw [Jm (r:=(jU x,s)) mE] at hE;exact kP H (SR fun _ K5=>Rm rfl (ak K5 rfl (LR results95 rfl fun H=>H.hp.fI (L':=fO b ms ml mr mb mu s.n :: (mb,fK (fP s.bG)) :: L) (by repeat (first|exact fV _|apply List.Sublist.cons)) ⟨s,by rw [hE],rfl,fun h=>by rw [hE]⟩)))
 intro dV a H
 try have mE:=dF dV
 rw [Gg (r:=(jU x,s)) (mY.1 mE)] at hE;dsimp only at hE;refine kP H (Kc K2 (SR fun _ K6=>Rm rfl (Rk rfl (aP Dl aC 2 rfl rfl (Rd rfl (Rk rfl (Rf Dl rfl ?_)))))));clear H K2;intro a H;refine bH aC 2 (vs:=[_]) _ H wn rfl rfl rfl rfl rfl rfl rfl rfl ?_;clear H;intro w H;dsimp only [List.set,setRow] at H;refine K6 _ _ ?_;clear K6;refine pF (ι:=CS × GH) (Tc:=[(0,_),(4,_),(5,_)]) (Lc:=[(_,_),(_,_)]) (fun gh=>[]) (fun gh=>[fO b ms ml mr mb mu gh.1.n,(mb,fK (fP gh.1.bG))]++L) (fun gh=>gh.2) (fun gh=>kD body note t x.kind x.id ⟨s.n+(dY x:Nat),s.bG⟩=(0,gh.1)∧(∀ b o,Gt b=some o→gh.2 b=some o)∧gh.1.n=s.n+(dY x:Nat)∧(x.kind=7→t < 4)) (by exact (H).sub ⟨rfl,rfl,rfl,aD⟩) ?_ ?_
 ·skip;refine kP H (SR fun _ K7=>aP jB aC 1 rfl rfl (Kz K7 (SB (SR fun _ K8=>Rc rfl (ak K8 rfl (Cd rfl ?_ ?_)))))) <;> clear H K7 K8
  ·intro fF a H
   try have p28:=dT fF
   have hu:((dY x:Nat):Int)=vR x.text:=by rw [dY,au p28]
   refine kP H (SR fun _ K9=>aP uj fZ 1 rfl rfl ?_);clear H;intro a H;refine s_call Np H wn rfl (MX _ _ H.ro x.text (by omega)) rfl ?_;clear H;rintro v33 _ a w ⟨rfl,rfl⟩ - H;refine kH H (Rm rfl ?_);clear H;intro a H;(iterate 2 refine kN H wn rfl rfl rfl ?_;clear H;intro a H);refine kH H (Ra rfl (ak K9 rfl (SC (Rm rfl (Rk rfl (aP Dl aC 2 rfl rfl (Rm rfl (Rs rfl (Rd rfl ?_)))))))));clear H K9;intro a H;rw [show s.n+1+((vR x.text:Int) - 1)=s.n+(dY x:Nat) by omega] at H;refine kH H (Rk rfl (Rf Dl rfl ?_));clear H;intro a H;refine bH aC 2 (vs:=[_]) _ H wn rfl rfl rfl rfl rfl rfl rfl rfl ?_;clear H;intro w H;dsimp only [List.set,setRow] at H;refine aH ?_;refine ⟨(⟨s.n+(dY x:Nat),s.bG⟩,Gt),by exact (H).sub ⟨rfl,rfl,rfl,aD⟩,?_⟩;(try dsimp only)
   first
   | exact ⟨by simp_all [kD,bV,fT,jR],fun _ _ h=>h,rfl,fun h7=>by first|omega|(exfalso;simp_all)⟩
   | exact ⟨by simp_all [kD,bV,fT,jR],uy,rfl,fun h7=>by first|omega|(exfalso;simp_all)⟩
  intro fF a H
  try have p28:=dF fF
  have hu:((dY x:Nat):Int)=1:=by rw [dY,ah p28];rfl
  rw [show s.n+1=s.n+((dY x:Nat):Int) by omega] at H;refine kP H (SR fun _ aT=>Rc rfl (ak aT rfl (Cd rfl ?_ ?_))) <;> clear H aT
  ·intro h45 a H
   try have p45:=dT h45
   refine kP H (SR fun _ bq=>aP adV yu 0 rfl rfl (Rn rfl (Kz bq (Cd rfl ?_ ?_)))) <;> clear H bq
   ·intro JU a H
    try have p49:=dT JU
    refine bA (fun _ bF=>?_)
    have hF1:(eH (aV st li rv) body note t x s).1=19:=by rw [hE];simp [fT,kD,p45,bV,JU]
    have hF2:(eH (aV st li rv) body note t x s).1=0→(⟨s.n+(dY x:Nat),s.bG⟩:CS)=(eH (aV st li rv) body note t x s).2:=fun h=>absurd (hF1.symm.trans h) (by decide);exact kP H (SC (aU bF rfl (LR results95 rfl fun H=>H.hp.fI (L':=fO b ms ml mr mb mu (s.n+(dY x:Nat)) :: (mb,fK (fP (s.bG))) :: L) (by repeat (first|exact fV _|apply List.Sublist.cons)) ⟨⟨s.n+(dY x:Nat),s.bG⟩,ay vi hF1.symm,rfl,hF2⟩)))
   intro JU a H
   try have p49:=dF JU
   refine gI ?_;refine ⟨(⟨s.n+(dY x:Nat),s.bG⟩,Gt),by exact (H).sub ⟨rfl,rfl,rfl,aD⟩,?_⟩;(try dsimp only)
   first
   | exact ⟨by simp_all [kD,bV,fT,jR],fun _ _ h=>h,rfl,fun h7=>by first|omega|(exfalso;simp_all)⟩
   | exact ⟨by simp_all [kD,bV,fT,jR],uy,rfl,fun h7=>by first|omega|(exfalso;simp_all)⟩
  intro h45 a H
  try have p45:=dF h45
  refine kP H (SR fun _ bJ=>Rc rfl (ak bJ rfl (Cd rfl ?_ ?_))) <;> clear H bJ
  ·intro h50 a H
   try have p50:=dT h50
   refine kP H (SQ fun _ bN=>SR fun _ cK=>aP Nu yu 0 rfl rfl ?_);clear H;intro a H;refine s_call iW H wn rfl (iZ _ _ H.ro _ 19) rfl ?_;clear H;rintro v54 _ a w ⟨rfl,rfl⟩ - H;refine gQ oF gK [_] [_] H wn rfl rfl rfl rfl rfl (by intro i q h;match i,h with|0,h=>exact h|n+1,h=>simp at h) rfl rfl ?_;clear H;intro b55 a w akY H;obtain ⟨I7,uy,afu,H⟩:=H.dP;refine s_call pI H wn rfl (pJ _ _ H.ro _ _ (ahR afu)) rfl ?_;clear H;rintro v56 _ a w ⟨rfl,rfl⟩ - H;refine kH H (ak cK rfl (SR fun _ dw=>Rm rfl (Rc rfl (Kz dw (Cd rfl ?_ ?_))))) <;> clear H cK dw
   ·intro jJ a H
    try have p58:=dT jJ
    have e58:bV note 19≠0:=fun h=>p58 (by rw [h];rfl)
    have agC:dH [bV note 19]=bV note 19:=by simp [dH,e58]
    rw [agC] at H
    have hF1:(eH (aV st li rv) body note t x s).1=bV note 19:=by rw [hE];simp [fT,kD,p50,e58]
    have hF2:(eH (aV st li rv) body note t x s).1=0→(⟨s.n+(dY x:Nat),s.bG⟩:CS)=(eH (aV st li rv) body note t x s).2:=fun h=>absurd (hF1.symm.trans h) (e58);exact kP H (SR fun _ bY=>Rm rfl (ak bY rfl (LR results95 rfl fun H=>H.hp.fI (L':=fO b ms ml mr mb mu (s.n+(dY x:Nat)) :: (mb,fK (fP (s.bG))) :: L) (by repeat (first|exact fV _|apply List.Sublist.cons)) ⟨⟨s.n+(dY x:Nat),s.bG⟩,ay vi hF1.symm,rfl,hF2⟩)))
   intro jJ a H
   try have p58:=dF jJ
   have e58:bV note 19=0:=Decidable.byContradiction fun h=>p58 (by simp [dH,h]);refine kP H (Kc bN (SR fun _ dz=>Rm rfl (aP Af aC 1 rfl rfl ?_)));clear H bN;intro a H;refine gU Nf (Li:=[_,_]) (L:=fO b ms ml mr mb mu _ :: (mb,fK (fP s.bG)) :: L) H wn rfl (MR _ _ _ st li rv b ms ml mr mb mu _ s.bG x.id (hck.mono uy) (Hp.owns (Li:=[_,_]) H.hp)) rfl ?_;clear H;rintro v63 _ _ a w ⟨rfl,rfl,rfl⟩ - H;dsimp only [lca,bg] at H;refine kH H (ak dz rfl (SR fun _ fC=>Rm rfl (Rc rfl (Kz fC (Cd rfl ?_ ?_))))) <;> clear H dz fC
   ·intro qQ a H
    try have p65:=dT qQ
    have hF1:(eH (aV st li rv) body note t x s).1=pQ s.bG x.id:=by rw [hE];simp [fT,kD,p50,e58,jR,p65]
    have hF2:(eH (aV st li rv) body note t x s).1=0→(⟨s.n+(dY x:Nat),jQ s.bG x.id⟩:CS)=(eH (aV st li rv) body note t x s).2:=fun h=>absurd (hF1.symm.trans h) (p65);exact kP H (SR fun _ dN=>Rm rfl (ak dN rfl (LR results95 rfl fun H=>H.hp.fI (L':=fO b ms ml mr mb mu (s.n+(dY x:Nat)) :: (mb,fK (fP (jQ s.bG x.id))) :: L) (by repeat (first|exact fV _|apply List.Sublist.cons)) ⟨⟨s.n+(dY x:Nat),jQ s.bG x.id⟩,ay vi hF1.symm,rfl,hF2⟩)))
   intro qQ a H
   try have p65:=dF qQ
   have e65:pQ s.bG x.id=0:=mY.1 p65;refine gI ?_;refine ⟨(⟨s.n+(dY x:Nat),jQ s.bG x.id⟩,I7),by exact (H).sub ⟨rfl,rfl,rfl,aD⟩,?_⟩;(try dsimp only)
   first
   | exact ⟨by simp_all [kD,bV,fT,jR],fun _ _ h=>h,rfl,fun h7=>by first|omega|(exfalso;simp_all)⟩
   | exact ⟨by simp_all [kD,bV,fT,jR],uy,rfl,fun h7=>by first|omega|(exfalso;simp_all)⟩
  intro h50 a H
  try have p50:=dF h50
  refine kP H (SR fun _ fQ=>Rc rfl (ak fQ rfl (Cd rfl ?_ ?_))) <;> clear H fQ
  ·intro xG a H
   try have p67:=dT xG
   refine kP H (SQ fun _ iq=>SR fun _ jA=>aP GJ aC 0 rfl rfl (Rc rfl (Kz jA (Cd rfl ?_ ?_)))) <;> clear H jA
   ·intro NQ a H
    try have p71:=dT NQ
    refine bA (fun _ jo=>?_)
    have hF1:(eH (aV st li rv) body note t x s).1=17:=by rw [hE];simp [fT,kD,p67,bV,p71]
    have hF2:(eH (aV st li rv) body note t x s).1=0→(⟨s.n+(dY x:Nat),s.bG⟩:CS)=(eH (aV st li rv) body note t x s).2:=fun h=>absurd (hF1.symm.trans h) (by decide);exact kP H (SC (aU jo rfl (LR results95 rfl fun H=>H.hp.fI (L':=fO b ms ml mr mb mu (s.n+(dY x:Nat)) :: (mb,fK (fP (s.bG))) :: L) (by repeat (first|exact fV _|apply List.Sublist.cons)) ⟨⟨s.n+(dY x:Nat),s.bG⟩,ay vi hF1.symm,rfl,hF2⟩)))
   intro NQ a H
   try have p71:=dF NQ
   have e71:¬ 4≤t:=by omega
   refine kP H (Kc iq (SR fun _ jc=>Rm rfl (aP Af aC 1 rfl rfl ?_)));clear H iq;intro a H;refine gU Nf (Li:=[_,_]) (L:=fO b ms ml mr mb mu _ :: (mb,fK (fP s.bG)) :: L) H wn rfl (MR _ _ _ st li rv b ms ml mr mb mu _ s.bG x.id hck (Hp.owns (Li:=[_,_]) H.hp)) rfl ?_;clear H;rintro v75 _ _ a w ⟨rfl,rfl,rfl⟩ - H;dsimp only [lca,bg] at H;refine kH H (ak jc rfl (SR fun _ jG=>Rm rfl (Rc rfl (Kz jG (Cd rfl ?_ ?_))))) <;> clear H jc jG
   ·intro qR a H
    try have Co:=dT qR
    have hF1:(eH (aV st li rv) body note t x s).1=pQ s.bG x.id:=by rw [hE];simp [fT,kD,p67,bV,e71,jR,Co]
    have hF2:(eH (aV st li rv) body note t x s).1=0→(⟨s.n+(dY x:Nat),jQ s.bG x.id⟩:CS)=(eH (aV st li rv) body note t x s).2:=fun h=>absurd (hF1.symm.trans h) (Co);exact kP H (SR fun _ jM=>Rm rfl (ak jM rfl (LR results95 rfl fun H=>H.hp.fI (L':=fO b ms ml mr mb mu (s.n+(dY x:Nat)) :: (mb,fK (fP (jQ s.bG x.id))) :: L) (by repeat (first|exact fV _|apply List.Sublist.cons)) ⟨⟨s.n+(dY x:Nat),jQ s.bG x.id⟩,ay vi hF1.symm,rfl,hF2⟩)))
   intro qR a H
   try have Co:=dF qR
   have e77:pQ s.bG x.id=0:=mY.1 Co;refine gI ?_;refine ⟨(⟨s.n+(dY x:Nat),jQ s.bG x.id⟩,Gt),by exact (H).sub ⟨rfl,rfl,rfl,aD⟩,?_⟩;(try dsimp only)
   first
   | exact ⟨by simp_all [kD,bV,fT,jR],fun _ _ h=>h,rfl,fun h7=>by first|omega|(exfalso;simp_all)⟩
   | exact ⟨by simp_all [kD,bV,fT,jR],uy,rfl,fun h7=>by first|omega|(exfalso;simp_all)⟩
  intro xG a H
  try have p67:=dF xG
  refine kP H (SR fun _ iI=>Rc rfl (ak iI rfl (Cd rfl ?_ ?_))) <;> clear H iI
  ·intro Ca a H
   try have PZ:=dT Ca
   refine kP H (SR fun _ lU=>aP Af aC 1 rfl rfl ?_);clear H;intro a H;refine s_call uU H wn rfl (vv _ _ H.ro x.id 1 1073741824) rfl ?_;clear H;rintro v83 _ a w ⟨rfl,rfl⟩ - H;refine kH H (Rn rfl (Kz lU (Cd rfl ?_ ?_))) <;> clear H lU
   ·intro h84 a H
    try have p84:=dT h84
    refine bA (fun _ mJ=>?_)
    have e84:¬ (1≤x.id∧x.id≤1073741824):=by have h0:=h84;simp at h0;omega
    have hF1:(eH (aV st li rv) body note t x s).1=18:=by rw [hE];simp [fT,kD,PZ,bV,e84]
    have hF2:(eH (aV st li rv) body note t x s).1=0→(⟨s.n+(dY x:Nat),s.bG⟩:CS)=(eH (aV st li rv) body note t x s).2:=fun h=>absurd (hF1.symm.trans h) (by decide);exact kP H (SC (aU mJ rfl (LR results95 rfl fun H=>H.hp.fI (L':=fO b ms ml mr mb mu (s.n+(dY x:Nat)) :: (mb,fK (fP (s.bG))) :: L) (by repeat (first|exact fV _|apply List.Sublist.cons)) ⟨⟨s.n+(dY x:Nat),s.bG⟩,ay vi hF1.symm,rfl,hF2⟩)))
   intro h84 a H
   try have p84:=dF h84
   refine gI ?_;refine ⟨(⟨s.n+(dY x:Nat),s.bG⟩,Gt),by exact (H).sub ⟨rfl,rfl,rfl,aD⟩,?_⟩;(try dsimp only)
   first
   | exact ⟨by simp_all [kD,bV,fT,jR],fun _ _ h=>h,rfl,fun h7=>by first|omega|(exfalso;simp_all)⟩
   | exact ⟨by simp_all [kD,bV,fT,jR],uy,rfl,fun h7=>by first|omega|(exfalso;simp_all)⟩
  intro Ca a H
  try have PZ:=dF Ca
  refine gI ?_;refine ⟨(⟨s.n+(dY x:Nat),s.bG⟩,Gt),by exact (H).sub ⟨rfl,rfl,rfl,aD⟩,?_⟩;(try dsimp only)
  first
  | exact ⟨by simp_all [kD,bV,fT,jR],fun _ _ h=>h,rfl,fun h7=>by first|omega|(exfalso;simp_all)⟩
  | exact ⟨by simp_all [kD,bV,fT,jR],uy,rfl,fun h7=>by first|omega|(exfalso;simp_all)⟩
 clear H;intro gh a w hI H;obtain ⟨s1,g⟩:=gh;dsimp only at hI H;obtain ⟨hP,vk,alC,ht7⟩:=hI;rw [hP,Gg rfl] at hE;dsimp only at hE;replace hck:=hck.mono vk;replace hh:=hh.mono vk;replace hf:=hf.mono vk;replace hr:=hr.mono vk;dsimp only [lca,bg] at H;refine kP H (SQ fun _ nH=>SR fun _ mV=>Rm rfl (aP jB aC 1 rfl rfl (Rf BO rfl ?_)));clear H;intro a H;refine bD qD (cs:=[_,_,_,_,_]) H wn rfl rfl (H.hp.dS 1 rfl rfl) rfl ?_;clear H;intro a H;refine gU EN (Li:=[_,_]) (L:=fO b ms ml mr mb mu s1.n :: (mb,fK (fP s1.bG)) :: L) H wn rfl (E8 _ _ _ st li rv b ms ml mr mb mu _ hck (Hp.owns (Li:=[_,_]) H.hp) x.kind x.head _ _ _ hh (by omega)) rfl ?_;clear H;rintro v90 _ _ a w ⟨rfl,rfl,rfl⟩ - H;dsimp only [lca,bg] at H;refine kH H (ak mV rfl (SR fun _ mK=>Rm rfl (Rc rfl (Kz mK (Cd rfl ?_ ?_))))) <;> clear H mV mK
 ·intro NU a H
  try have KG:=dT NU
  have hF1:(eH (aV st li rv) body note t x s).1=iG (aV st li rv) x.kind x.head:=by rw [hE,Jm (r:=(iG (aV st li rv) x.kind x.head,s1)) KG]
  have hF2:(eH (aV st li rv) body note t x s).1=0→s1=(eH (aV st li rv) body note t x s).2:=fun h=>absurd (hF1.symm.trans h) KG;exact kP H (SR fun _ nZ=>Rm rfl (ak nZ rfl (LR results95 rfl fun H=>H.hp.fI (L':=fO b ms ml mr mb mu (s1.n) :: (mb,fK (fP (s1.bG))) :: L) (by repeat (first|exact fV _|apply List.Sublist.cons)) ⟨s1,ay vi hF1.symm,rfl,hF2⟩)))
 intro NU a H
 try have KG:=dF NU
 rw [Gg (r:=(iG (aV st li rv) x.kind x.head,s1)) (mY.1 KG)] at hE;dsimp only at hE;refine kP H (Kc nH (SQ fun _ oV=>SR fun _ nI=>aP jB aC 1 rfl rfl (Kz nI (SB (SR fun _ oW=>Rc rfl (ak oW rfl (Cd rfl ?_ ?_))))))) <;> clear H nH nI oW
 ·intro qU a H
  try have Ik:=dT qU
  rw [au Ik] at hE;refine kP H (SR fun _ zQ=>Rm rfl (aP yV iD 1 rfl rfl (aP GJ aC 0 rfl rfl ?_)));clear H;intro a H;refine iT Cy [_,_,_] H wn rfl rfl rfl rfl ?_;clear H;intro a H;refine gU GD (Li:=[_,_]) (L:=fO b ms ml mr mb mu s1.n :: (mb,fK (fP s1.bG)) :: L) H wn rfl (ih _ _ _ st li rv b ms ml mr mb mu s1 x.flow _ false true t hck (Hp.owns (Li:=[_,_]) H.hp) hf (by omega) ht0 DN (by omega) (by omega)) rfl ?_;clear H;rintro alR _ _ a w ⟨rfl,s3,rfl,rfl,h3⟩ - H;dsimp only [lca,bg] at H
  have hF1:(eH (aV st li rv) body note t x s).1=(jh (aV st li rv) false true t x.flow s1).1:=by rw [hE]
  have hF2:(eH (aV st li rv) body note t x s).1=0→s3=(eH (aV st li rv) body note t x s).2:=by rw [hE];exact h3
  exact kH H (ak zQ rfl (LR results95 rfl fun H=>H.hp.fI (L':=fO b ms ml mr mb mu (s3.n) :: (mb,fK (fP (s3.bG))) :: L) (by repeat (first|exact fV _|apply List.Sublist.cons)) ⟨s3,ay vi hF1.symm,rfl,hF2⟩))
 intro qU a H
 try have Ik:=dF qU
 rw [ah Ik] at hE;refine kP H (SR fun _ zR=>Rc rfl (ak zR rfl (Cd rfl ?_ ?_))) <;> clear H zR
 ·intro pK a H
  try have Fw:=dT pK
  rw [au Fw] at hE;refine kP H (SR fun _ og=>Rm rfl (aP qN rz 1 rfl rfl (aP Nu yu 0 rfl rfl (aP GJ aC 0 rfl rfl (Rd rfl ?_)))));clear H;intro a H;refine iT Cy [_,_,_] H wn rfl rfl rfl rfl ?_;clear H;intro a H;refine gU acf (Li:=[_,_]) (L:=fO b ms ml mr mb mu s1.n :: (mb,fK (fP s1.bG)) :: L) H wn rfl (rows_ok ih hm _ _ _ st li rv b ms ml mr mb mu s1 x.rows _ note (t+1) hck (Hp.owns (Li:=[_,_]) H.hp) hr (by omega) (by omega) (by have:=ht7 Fw;omega) (by omega) (by omega)) rfl ?_;clear H;rintro alS _ _ a w ⟨s3,rfl,rfl,h3⟩ - H;dsimp only [lca,bg] at H
  have hF1:(eH (aV st li rv) body note t x s).1=(lI x.rows.length (fun s=>iO (aV st li rv) note (t+1) x.rows s) s1).1:=by rw [hE]
  have hF2:(eH (aV st li rv) body note t x s).1=0→s3=(eH (aV st li rv) body note t x s).2:=by rw [hE];exact h3
  exact kH H (ak og rfl (LR results95 rfl fun H=>H.hp.fI (L':=fO b ms ml mr mb mu (s3.n) :: (mb,fK (fP (s3.bG))) :: L) (by repeat (first|exact fV _|apply List.Sublist.cons)) ⟨s3,ay vi hF1.symm,rfl,hF2⟩))
 intro pK a H
 try have Fw:=dF pK
 rw [ah Fw] at hE
 have hF1:(eH (aV st li rv) body note t x s).1=0:=by rw [hE]
 have hF2:(eH (aV st li rv) body note t x s).1=0→s1=(eH (aV st li rv) body note t x s).2:=fun h=>by rw [hE]
 exact kP H (Kc oV (SR fun _ Ez=>ak Ez rfl (LR results95 rfl fun H=>H.hp.fI (L':=fO b ms ml mr mb mu (s1.n) :: (mb,fK (fP (s1.bG))) :: L) (by repeat (first|exact fV _|apply List.Sublist.cons)) ⟨s1,ay vi hF1.symm,rfl,hF2⟩)))
end
section
open Go.RowKit
theorem adB:∀ args w,(callFunc 95 args).run prog w=.ok (.enter 95 args) w:=enters func95 rfl (by kernel_rfl)
theorem adA:∀ args w,(callFunc 94 args).run prog w=.ok (.enter 94 args) w:=enters func94 rfl (by kernel_rfl)
def Rh (fv:aj) (Gi:GH) (n:Nat) (E:Nat→Int) {σ:Type} (B:σ→OL) (S:Nat→σ):Prop:=∀ i,i < n→∀ (G1:GH) (w1:World),(∀ b o,Gi b=some o→G1 b=some o)→gX G1 (B (S i)) w1 →
 tH prog fv [vi i] w1 (gH w1 G1 (B (S i)) fun u G' L'=>∃ s,u=vi (E i)∧L'=B s∧(E i=0→s=S (i+1)))
theorem ZW (G:GH) (w0:World) {σ:Type} (B:σ→OL) (S:Nat→σ) (n:Nat) (E:Nat→Int) (fv:aj) (hO:gX G (B (S 0)) w0) (hn:n≤4611686018427387904) (hf:Rh fv G n E B S) :
  Calls prog 84 #[vi n,fv] w0 (gH w0 G (B (S 0)) fun u G' L'=>∃ s,u=vi (ko E n)∧L'=B s∧(ko E n=0→s=S n)):=by
 refine jO (N:=18) (T:=[(0,_),(1,_)]) func84 rfl ntmps84 rfl rfl hO ?_;intro a H;refine kP H (SR fun _ K1=>ak K1 rfl (SQ fun _ K2=>SR fun _ K3=>Rm rfl (Rm rfl (Kz K3 (SB ?_)))));clear H K1 K3;intro a H;skip;refine eT (ι:=Nat × GH) (Tc:=[(1,_),(7,_)]) (Lc:=[]) (fun gh=>[(8,vi gh.1)]) (fun gh=>[]++B (S gh.1)) (fun gh=>gh.2) (fun gh=>gh.1≤n∧dH (((List.range n).map E).drop gh.1)=ko E n∧(∀ b o,G b=some o→gh.2 b=some o)) (fun gh=>n - gh.1) ((0,G)) (by exact (H).sub ⟨rfl,rfl,rfl,aD⟩) ?_ ?_
 ·exact ⟨iy _,rfl,fun _ _ h=>h⟩
 clear H;intro gh a w hI H;obtain ⟨k,g⟩:=gh;dsimp only at hI H;obtain ⟨hk,he,hgm⟩:=hI;dsimp only [lca,bg] at H;refine kP H (SR fun _ K4=>Rc rfl (Kz K4 (SQ fun _ K5=>Cd rfl ?_ ?_))) <;> clear H K4
 ·intro h9 a H
  try have p9:=dT h9
  have hk2:k < n:=by omega
  refine kP H (Kc K5 (SQ fun _ K6=>SB (SR fun _ K7=>Rm rfl (ak K7 rfl (SR fun _ K8=>Rm rfl (Rm rfl ?_))))));clear H K5 K7;intro a H;refine FC (Li:=[]) (L:=B (S k)) H wn rfl rfl (hf k hk2 _ _ hgm (Hp.owns (Li:=[]) H.hp)) rfl ?_;clear H;rintro v13 Eu L13 a w ⟨s3,rfl,rfl,h3⟩ Hw H;refine kH H (ak K8 rfl (SR fun _ K9=>Rm rfl (Rc rfl (Kz K9 (Cd rfl ?_ ?_))))) <;> clear H K8 K9
  ·intro mg a H
   try have qY:=dT mg
   have hE:ko E n=E k:=by rw [Dg hk2,au qY] at he;exact he.symm
   exact kP H (SR fun _ aT=>Rm rfl (ak aT rfl (LR results84 rfl fun H=>H.hp.eP ⟨s3,by rw [hE],rfl,fun h=>absurd (hE.symm.trans h) qY⟩)))
  intro mg a H
  try have qY:=dF mg
  have hS:=h3 (mY.1 qY);subst hS;refine kP H (Kc K6 (SC (Rd rfl (Rm rfl ?_))));clear H K6;intro a H;refine aH ?_;refine cu ((k+1,Eu)) (by exact (H).sub ⟨rfl,rfl,rfl,aD⟩) ?_ ?_
  ·(try dsimp only);exact ⟨by omega,by rw [Dg hk2,ah qY] at he;exact he,fun b o h=>Hw b o (hgm b o h)⟩
  first|omega|(dsimp only;omega)
 intro h9 a H
 try have p9:=dF h9
 refine dU ?_;refine K2 _ _ ?_;clear K2;exact kP H (SR fun _ bq=>ak bq rfl (LR results84 rfl fun H=>H.hp.eP ⟨S n,ay vi (by rw [iK (by simp;omega)] at he;exact he),by rw [show k=n by omega],fun _=>rfl⟩))
abbrev Jz (b ms ml mr mb mu:Nat) (L:OL) (s:CS):OL:=fO b ms ml mr mb mu s.n :: (mb,fK (fP s.bG)) :: L
theorem agP {m:Nat} (ih:Ew m) (hm:m≤4294967296) {G:GH} {L:OL} {st:List bL} {li:List fU} {rv:List fH} {b ms ml mr mb mu:Nat} {s:CS} {l:List aA} {v:aj} {body note:Bool} {t:Int} {x3 x4 x5:Nat}
  (hck:tJ G st li rv ms ml mr mu) (h3:aI G x3 0=some (aJ b 0)) (h4:aI G x4 0=some v) (h5:∀ (j:Nat) (u:aj),[.bool body,.bool note,vi t][j]?=some u→aI G x5 (0+j)=some u)
  (hv:av G (.sl 11 (l.map aA.dat)) v) (hz:bC l≤m) (ht0:0≤t) (DN:t≤4) (hs0:0≤s.n) (hs1:s.n+(bC l:Nat)≤1099511627776) :
  Rh (.func (.func 94) #[] #[(aJ x3 0),(aJ x4 0),(aJ x5 0)]) G l.length (Aa (eH (aV st li rv) body note t) l s) (Jz b ms ml mr mb mu L) (oO (eH (aV st li rv) body note t) l s):=by
 intro k hk G1 w0 HV hO;refine lX (caps:=[(aJ x3 0),(aJ x4 0),(aJ x5 0)]) adA ?_;replace h3:=aK HV h3;replace h4:=aK HV h4;replace h5:=fun j u hj=>aK HV (h5 j u hj);replace hck:=hck.mono HV;replace hv:=hv.mono HV;obtain ⟨A,c,rfl,hc1,hc2,hg⟩:=hv.slice;rw [bQ] at *;obtain ⟨o,xo,pA,pn,pc,dA,dn,dc,yA,yn,yc,fA,fn,fc,rA,rn,rc,rfl,hrow,hhd,hfl,hrw⟩:=Ai hk hg;obtain ⟨hn0,hn1⟩:=Yn (aV st li rv) body note t l s k (by omega)
 have hdz:bC (l.drop k)=1+dh l[k].dat+bC (l.drop (k+1)):=by
  simp only [bC];rw [lW hk,eZ,eX]
 have Kl:=IK (iL hk)
 have hE:Aa (eH (aV st li rv) body note t) l s k=(eH (aV st li rv) body note t l[k] (oO (eH (aV st li rv) body note t) l s k)).1:=by unfold Aa;rw [gY hk]
 have hS:oO (eH (aV st li rv) body note t) l s (k+1)=(eH (aV st li rv) body note t l[k] (oO (eH (aV st li rv) body note t) l s k)).2:=by rw [oO,gY hk]
 rw [hE,hS]
 generalize oO (eH (aV st li rv) body note t) l s k=s1 at *
 refine jO (N:=13) (T:=[(0,_),(1,_),(2,_),(3,_)]) func94 rfl ntmps94 rfl rfl hO ?_;intro a H;refine kP H (SR fun _ K1=>ak K1 rfl (SQ fun _ K2=>?_));clear H K1;intro a H;refine dI hmx [[],[],[],[1,2],[1,2,3],[],(ra 0 6),(ra 0 7)] [6,7] (by kernel_rfl) [_,_,_,_,.agg #[vi l[k].kind,vi l[k].code,vi l[k].id,.string l[k].text,.slice pA pn pc,vi l[k].head.marks.ins,vi l[k].head.marks.move,.slice dA dn dc,.slice yA yn yc,.slice fA fn fc,.slice rA rn rc],.agg #[.bool body,.bool note,vi t]] H (aF (X0 rfl fun hG=>Rg FI rfl (aK hG h3)) (X0 rfl fun hG=>Rg iD rfl (aK hG h4)) (Z0 rfl (Rm rfl)) (Z2 1 7 2 8 rfl (Ri gV dM rfl rfl)) (aF ?_ ?_ (bK rfl) (bK rfl) bX)) ?_
 ·refine dR 3 9 rfl rfl fun _ a w G1 hG HT H fin=>?_;refine bD dM (cs:=[_,_,_,_,_,_,_,_,_,_,_]) H wn rfl rfl (fun j v hj=>H.hp.aI (aK hG (hrow j v hj))) rfl ?_;clear H;intro a H;exact fin H iJ rfl
 ·refine wM rfl fun _ a w G1 hG HT H fin=>?_;refine bD LA (cs:=[.bool body,.bool note,vi t]) H wn rfl rfl (fun j v hj=>H.hp.aI (aK hG (h5 j v hj))) rfl ?_;clear H;intro a H;exact fin H iJ rfl
 clear H;intro a w G nu H hv;have H:=H.aR (hv 0 6 rfl rfl) rfl;have H:=H.aR (hv 4 10 rfl rfl) rfl;have H:=H.aR (hv 5 11 rfl rfl) rfl;clear hv;refine gU adB (Li:=[]) (L:=Jz b ms ml mr mb mu L s1) H wn rfl (agQ ih hm _ _ _ st li rv b ms ml mr mb mu s1 l[k] _ _ _ _ _ body note t (hck.mono nu) (Hp.owns (Li:=[]) H.hp) (hhd.mono nu) (hfl.mono nu) (hrw.mono nu) (by omega) ht0 DN (by omega) (by omega)) rfl ?_;clear H;rintro v12 _ _ a w ⟨s3,rfl,rfl,h12⟩ - H;dsimp only [List.nil_append] at H;refine kH H (Ra rfl ?_);clear H;intro a H;refine aH ⟨rfl,?_⟩;refine K2 _ _ ?_;clear K2;refine lr H results94 rfl ?_;exact H.hp.eP ⟨s3,rfl,rfl,h12⟩
theorem agT {m:Nat} (ih:Ew m) (hm:m≤4294967296):Ew (m+1):=by
 intro G L w0 st li rv b ms ml mr mb mu s l v body note t hck hO hv hz ht0 DN hs0 hs1;obtain ⟨hA1,hA2⟩:=VZ (aV st li rv) body note t l s;refine Calls.aaj (R:=fun u G' L'=>IV b ms ml mr mb mu L (jh (aV st li rv) body note t l s) u L') ?_ fun _ _ _ h=>h;obtain ⟨A,c,rfl,hc1,hc2,-⟩:=hv.slice;rw [bQ] at *;have hll:=CQ l;refine jO (N:=11) (T:=[(0,_),(1,_),(2,_)]) func60 rfl ntmps60 rfl rfl hO ?_;intro a H;refine dB (fun _ K1=>?_);refine eU (cs:=[_]) H wn rfl rfl rfl ?_;clear H;intro b3 a w hb3 H;refine eU (cs:=[_]) H wn rfl rfl rfl ?_;clear H;intro b4 a w hb4 H;refine eU (cs:=[_,_,_]) H wn rfl rfl rfl ?_;clear H;intro b5 a w hb5 H;refine kH H (ak K1 rfl (SQ fun _ K2=>?_));clear H K1;intro a H;obtain ⟨Zr,J8,za,H⟩:=H.dP;obtain ⟨Zq,Fb,uZ,H⟩:=H.dP;obtain ⟨Ga,Cj,xI,H⟩:=H.dP;replace za:=Cj _ _ (Fb _ _ za);replace uZ:=Cj _ _ uZ;have hma:∀ b o,G b=some o→Ga b=some o:=fun b o h=>Cj _ _ (Fb _ _ (J8 _ _ h))
 have g3:aI Ga b3 0=some (aJ b 0):=by unfold aI;rw [xI];rfl
 have g4:aI Ga b4 0=some (.slice A l.length c):=by unfold aI;rw [uZ];rfl
 have g5:∀ (j:Nat) (u:aj),[.bool body,.bool note,vi t][j]?=some u→aI Ga b5 (0+j)=some u:=by
  intro j u hj;unfold aI;rw [za];simpa using hj
 have hcb:=agP (mb:=mb) (L:=L) (s:=s) ih hm (hck.mono hma) g3 g4 g5 (hv.mono hma) (by omega) ht0 DN hs0 hs1;refine kP H (SC (Rg iD rfl (by assumption) ?_));clear H;intro a H;refine kH H (Rl gV rfl ?_);clear H;intro a H;refine pY H wn rfl rfl ?_;clear H;intro a H;refine gU EO (Li:=[]) (L:=Jz b ms ml mr mb mu L s) H wn rfl (ZW _ _ (Jz b ms ml mr mb mu L) (oO (eH (aV st li rv) body note t) l s) l.length (Aa (eH (aV st li rv) body note t) l s) _ (Hp.owns (Li:=[]) H.hp) (by omega) hcb) rfl ?_;clear H;rintro v10 _ _ a w ⟨s3,rfl,rfl,h10⟩ - H;dsimp only [List.nil_append] at H;exact kH H (aU K2 rfl (LR results60 rfl fun H=>H.hp.eP ⟨s3,by rw [hA1],rfl,fun h=>by rw [hA1] at h;exact (h10 h).trans (hA2 (hA1.trans h)).symm⟩))
theorem Kr:∀ m:Nat,m≤4294967297→Ew m
 | 0,_=>fun _ _ _ _ _ _ _ _ _ _ _ _ _ _ _ _ _ _ _ _ _ h=>absurd h (by omega)
 | m+1,hm=>agT (Kr m (by omega)) (by omega)
end
section
open Go.RowKit
theorem adY:bW prog 176 1 1:=⟨by kernel_rfl⟩
theorem adZ:bW prog 176 2 2:=⟨by kernel_rfl⟩
theorem adx:∀ args w,(callFunc 87 args).run prog w=.ok (.enter 87 args) w:=enters func87 rfl (by kernel_rfl)
theorem adw:∀ args w,(callFunc 85 args).run prog w=.ok (.enter 85 args) w:=enters func85 rfl (by kernel_rfl)
theorem aiP {G:GH} {bl:Nat} {l:List fH} {A:Option Addr} {n c:Nat} (hb:aI G bl 0=some (.slice A n c)) (hv:av G (.sl 3 (l.map fH.dat)) (.slice A n c)):rG (.func (.func 87) #[] #[(aJ bl 0)]) G l.length fun k=>(l[k]?.map fH.id).getD 0:=by
 intro k hk G1 w0 hm hG;refine lX (caps:=[(aJ bl 0)]) adx ?_;replace hb:=aK hm hb
 obtain rfl:n=l.length:=by have:=hv.len;simpa using this
 obtain ⟨b,o,rfl,hrow⟩:=Qj (hv.mono hm) hk;have hq:=hrow 0 _ rfl;refine eN [(0,_),(1,_)] func87 rfl ntmps87 rfl rfl hG ?_;intro a H;refine kP H (SR fun _ K1=>ak K1 rfl (SR fun _ K2=>Rg CB rfl (by assumption) ?_));clear H K1;intro a H;refine kH H (Rm rfl (Ri CG Em rfl rfl (Rf Uj rfl (Rg aC rfl (by assumption) ?_))));clear H;intro a H;exact kH H (ak K2 rfl (LR results87 rfl fun H=>H.rt (by dsimp only;rw [gY hk];rfl)))
def Qd (l:List fH) (i:Nat) (x:fH):Int:=dH [oN (fun k=>(l[k]?.map fH.id).getD 0) i,bV (!vP x.author) 39,bV (!decide (0≤x.time∧x.time≤1099511627776)) 40]
def Ei (l:List fH) (i:Nat):Int:=match l[i]? with|some x=>Qd l i x|none=>0
theorem aiG {G:GH} {bl:Nat} {l:List fH} {A:Option Addr} {n c:Nat} (hb:aI G bl 0=some (.slice A n c)) (hv:av G (.sl 3 (l.map fH.dat)) (.slice A n c)) (hl:l.length≤4294967296) (ht:∀ x∈l,x.author.size < 4611686018427387904):rG (.func (.func 85) #[] #[(aJ bl 0)]) G l.length (Ei l):=by
 intro k hk G1 w0 hm hG;refine lX (caps:=[(aJ bl 0)]) adw ?_;replace hb:=aK hm hb;replace hv:=hv.mono hm;have hcb:=aiP hb hv
 obtain rfl:n=l.length:=by have:=hv.len;simpa using this
 obtain ⟨b,o,rfl,hrow⟩:=Qj hv hk;have hte:=ht _ (iL hk)
 have he:Ei l k=Qd l k l[k]:=by unfold Ei;rw [gY hk]
 obtain ⟨x,hx⟩:∃ x,x=l[k]:=⟨_,rfl⟩;rw [← hx] at hrow hte he;refine eN [(0,_),(1,_)] func85 rfl ntmps85 rfl rfl hG ?_;intro a H;refine kP H (SR fun _ K1=>ak K1 rfl (SQ fun _ K2=>?_));clear H K1;intro a H;have H:=H.sub (T':=[(0,_),(1,_)]) ⟨rfl,rfl,aD⟩;refine dI hmx [[],[],[0,1],[],[],[3,4],[3,4,5],(ra 3 4),(ra 0 8),(ra 0 9),(ra 0 10),[],[],[11,12],[11,12,13],(ra 11 4),(ra 0 16),(ra 0 17),(ra 0 18),(ra 0 19),(ra 0 20),(ra 0 21)] [19,20,21] (by kernel_rfl) [_,.func (.func 87) #[] #[(aJ bl 0)],vi (oN (fun k=>(l[k]?.map fH.id).getD 0) k),_,_,_,_,_,.bool (vP x.author),_,vi (bV (!vP x.author) 39),_,_,_,_,_,.bool (decide (0≤x.time∧x.time≤1099511627776)),_,vi (bV (!decide (0≤x.time∧x.time≤1099511627776)) 40)] H (aF (Z0 rfl (Rm rfl)) ?_ ?_ (X0 rfl fun hG=>Rg CB rfl (aK hG hb)) (aF (Z0 rfl (Rm rfl)) (Z2 3 7 4 8 rfl (Ri CG Em rfl rfl)) (Z1 5 9 rfl (Rf adY rfl)) (X1 6 10 rfl fun hG=>Rg fZ rfl (aK hG (hrow 1 _ rfl))) (aF ?_ (Z1 8 12 rfl (Rn rfl)) ?_ (X0 rfl fun hG=>Rg CB rfl (aK hG hb)) (aF (Z0 rfl (Rm rfl)) (Z2 11 15 12 16 rfl (Ri CG Em rfl rfl)) (Z1 13 17 rfl (Rf adZ rfl)) (X1 14 18 rfl fun hG=>Rg aC rfl (aK hG (hrow 2 _ rfl))) (aF ?_ (Z1 16 20 rfl (Rn rfl)) ?_ (bK rfl) (aS (bK rfl) (aS (bK rfl) bX))))))) ?_
 ·refine wM rfl fun _ a w G1 hG HT H fin=>?_;refine pY H wn rfl rfl ?_;clear H;intro a H;exact fin H iJ rfl
 ·refine dG 0 4 1 5 rfl rfl fun _ a w G1 hG HT H fin=>?_;refine s_call Nq H wn rfl (Po _ _ H.ro k _ _ (by omega) (fun i hi=>(hcb.mono hG) i (by omega))) rfl ?_;clear H;rintro v6 G6 a w rfl gJ H;exact fin H gJ (rfl)
 ·refine dR 7 11 rfl rfl fun _ a w G1 hG HT H fin=>?_;refine s_call T9 H wn rfl (Sq _ _ H.ro x.author hte) rfl ?_;clear H;rintro v12 BA a w ⟨rfl,-⟩ qo H;exact fin H qo (rfl)
 ·refine dR 9 13 rfl rfl fun _ a w G1 hG HT H fin=>?_;refine s_call iW H wn rfl (iZ _ _ H.ro _ 39) rfl ?_;clear H;rintro v14 FY a w ⟨rfl,-⟩ GX H;exact fin H GX (rfl)
 ·refine dR 15 19 rfl rfl fun _ a w G1 hG HT H fin=>?_;refine s_call uU H wn rfl (vv _ _ H.ro x.time 0 1099511627776) rfl ?_;clear H;rintro v20 Ev a w ⟨rfl,-⟩ aeN H;exact fin H aeN (rfl)
 ·refine dR 17 21 rfl rfl fun _ a w G1 hG HT H fin=>?_;refine s_call iW H wn rfl (iZ _ _ H.ro _ 40) rfl ?_;clear H;rintro v22 Y7 a w ⟨rfl,-⟩ N7 H;exact fin H N7 (rfl)
 clear H;intro a w G nu H hv;have H:=H.aR (hv 2 6 rfl rfl) rfl;have H:=H.aR (hv 10 14 rfl rfl) rfl;have H:=H.aR (hv 18 22 rfl rfl) rfl;clear hv;refine gQ oF gK [_,_,_] [_,_,_] H wn rfl rfl rfl rfl rfl (by intro i q h;match i,h with|0,h=>exact h|1,h=>exact h|2,h=>exact h|n+3,h=>simp at h) rfl rfl ?_;clear H;intro b23 a w akS H;obtain ⟨Mc,qx,afo,H⟩:=H.dP;refine s_call pI H wn rfl (pJ _ _ H.ro _ _ (DV [oN (fun k=>(l[k]?.map fH.id).getD 0) k,bV (!vP x.author) 39,bV (!decide (0≤x.time∧x.time≤1099511627776)) 40] afo (show 3≤maxLen by decide))) rfl ?_;clear H;rintro v24 _ a w ⟨rfl,rfl⟩ - H;refine kH H (Ra rfl ?_);clear H;intro a H;refine aH ⟨rfl,?_⟩;refine K2 _ _ ?_;clear K2;refine lr H results85 rfl ?_;exact H.rt (by rw [he,Qd])
def Gp (l:List fH):Int:=dH [bV (decide (256 < (l.length:Int))) 9,ko (Ei l) (min l.length 256)]
theorem aaP (G:GH) (w0:World) (hG:Hold G w0) (l:List fH) (v:aj) (hv:av G (.sl 3 (l.map fH.dat)) v) (hl:l.length≤4294967296) (ht:∀ x∈l,x.author.size < 4611686018427387904) :
  Calls prog 56 #[v] w0 (bE w0 G fun u G'=>u=vi (Gp l)):=by
 obtain ⟨A,c,rfl,hc1,hc2,-⟩:=hv.slice;rw [bQ] at *;refine eN [(0,_)] func56 rfl ntmps56 rfl rfl hG ?_;intro a H;refine dB (fun _ K1=>?_);refine eU (cs:=[_]) H wn rfl rfl rfl ?_;clear H;intro b1 a w hb1 H;refine kH H (ak K1 rfl (SQ fun _ K2=>?_));clear H K1;intro a H;have H:=H.sub (T':=[(1,_)]) ⟨rfl,aD⟩;obtain ⟨Ga,hma,hb1',H⟩:=H.dP
 have hbl:aI Ga b1 0=some (.slice A l.length c):=by unfold aI;rw [hb1'];rfl
 have hcb:=aiG hbl (hv.mono hma) hl ht;refine dI hmx [[],[0],[0,1],[0,1,2],[],[4],[4,5],[],(ra 0 8),(ra 0 9),(ra 0 10),(ra 0 11)] [9,10,11] (by kernel_rfl) [_,_,_,vi (bV (decide (256 < (l.length:Int))) 9),_,_,vi ((min l.length 256:Nat):Int),.func (.func 85) #[] #[(aJ b1 0)],vi (ko (Ei l) (min l.length 256))] H (aF (X0 rfl fun hG=>Rg CB rfl (aK hG hbl)) (Z1 0 3 rfl (Rl CG rfl)) (Z1 1 4 rfl (Rc rfl)) ?_ (aF (X0 rfl fun hG=>Rg CB rfl (aK hG hbl)) (Z1 4 7 rfl (Rl CG rfl)) ?_ ?_ (aF ?_ (bK rfl) (bK rfl) (bK rfl) bX))) ?_
 ·refine dR 2 5 rfl rfl fun _ a w G1 hG HT H fin=>?_;refine s_call iW H wn rfl (iZ _ _ H.ro _ 9) rfl ?_;clear H;rintro v6 G6 a w ⟨rfl,-⟩ gJ H;exact fin H gJ (rfl)
 ·refine dR 5 8 rfl rfl fun _ a w G1 hG HT H fin=>?_;refine La H wn rfl rfl rfl ?_;clear H;intro a H;exact fin H iJ (ay vi (by omega))
 ·refine wM rfl fun _ a w G1 hG HT H fin=>?_;refine pY H wn rfl rfl ?_;clear H;intro a H;exact fin H iJ rfl
 ·refine dG 6 9 7 10 rfl rfl fun _ a w G1 hG HT H fin=>?_;refine s_call EO H wn rfl (Gf _ _ H.ro (min l.length 256) (Ei l) _ (by omega) ((hcb.mono hG).le (Nat.min_le_left _ _))) rfl ?_;clear H;rintro v11 tL a w rfl iY H;exact fin H iY (rfl)
 clear H;intro a w G nu H hv;have H:=H.aR (hv 3 6 rfl rfl) rfl;have H:=H.aR (hv 8 11 rfl rfl) rfl;clear hv;refine gQ oF gK [_,_] [_,_] H wn rfl rfl rfl rfl rfl (by intro i q h;match i,h with|0,h=>exact h|1,h=>exact h|n+2,h=>simp at h) rfl rfl ?_;clear H;intro b12 a w Aw H;obtain ⟨BA,DC,Dy,H⟩:=H.dP;refine s_call pI H wn rfl (pJ _ _ H.ro _ _ (wE Dy)) rfl ?_;clear H;rintro v13 _ a w ⟨rfl,rfl⟩ - H;refine kH H (Ra rfl ?_);clear H;intro a H;refine aH ⟨rfl,?_⟩;refine K2 _ _ ?_;clear K2;refine lr H results56 rfl ?_;exact H.rt rfl
theorem qO:∀ {l:List Int},dH l=0→∀ x∈l,x=0
 | [],_,_,h=>by cases h
 | e :: r,h,x,hx=>by
  unfold dH at h
  by_cases he:e=0
  ·rw [ah (fun h'=>h' he)] at h
   rcases kZ.1 hx with rfl|hx
   ·exact he
   exact qO h x hx
  rw [au he] at h;exact absurd h he
theorem Si {E:Nat→Int} {n:Nat} (h:ko E n=0) (i:Nat) (hi:i < n):E i=0:=qO h _ (by simp;exact ⟨i,hi,rfl⟩)
theorem VT {id:Nat→Int} {i:Nat} (h:oN id i=0):1≤id i∧id i≤1073741824∧(0 < i→id (i - 1) < id i):=by
 unfold oN at h
 by_cases h1:1≤id i∧id i≤1073741824
 ·rw [ah (fun h'=>h' h1)] at h
  by_cases h2:0 < i∧id i=id (i - 1)
  ·rw [au h2] at h;cases h
  rw [ah h2] at h
  by_cases h3:0 < i∧id i < id (i - 1)
  ·rw [au h3] at h;cases h
  exact ⟨h1.1,h1.2,fun h0=>by omega⟩
 rw [au h1] at h;cases h
theorem VU {l:List Int} (h:∀ i (h:i+1 < l.length),l[i] < l[i+1]):zP l:=by
 have hlt:∀ (j i:Nat) (hj:j < l.length) (hi:i < j),l[i] < l[j]:=by
  intro j
  induction j with
  | zero=>intro i _ hi;omega
  | succ j ih =>
   intro i hj hi;have h1:=h j hj
   by_cases e:i=j
   ·subst e;exact h1
   have:=ih i (by omega) (by omega);omega
 intro k hk hm;obtain ⟨i,hi,he⟩:=List.getElem_of_mem hm;rw [List.length_take] at hi;have:=hlt k i hk (by omega);rw [List.getElem_take] at he
 omega
theorem aiH {l:List fH} (h:Gp l=0):zP (l.map fH.id):=by
 have h1:=qO h _ (gD);have h2:=qO h _ (jN _ gD)
 have hl:l.length≤256:=by
  unfold bV at h1
  by_cases hd:256 < (l.length:Int)
  ·rw [au (aB hd)] at h1;cases h1
  omega
 refine VU fun i hi=>?_;rw [bQ] at hi;have h3:=Si h2 (i+1) (by omega)
 unfold Ei at h3
 rw [gY hi] at h3;have h4:=(VT (qO h3 _ gD)).2.2 (by omega);rw [Nat.add_sub_cancel,gY hi,gY (show i < l.length by omega)] at h4
 simpa using h4
theorem ahl {l:List fU} (h:Gn l=0):zP (l.map fU.id):=by
 have h1:=qO h _ (gD);have h2:=qO h _ (jN _ gD)
 have hl:l.length≤64:=by
  unfold bV at h1
  by_cases hd:64 < (l.length:Int)
  ·rw [au (aB hd)] at h1;cases h1
  omega
 refine VU fun i hi=>?_;rw [bQ] at hi;have h3:=Si h2 (i+1) (by omega)
 unfold D6 at h3
 have h4:=(VT (qO h3 _ gD)).2.2 (by omega);rw [Nat.add_sub_cancel,gY hi,gY (show i < l.length by omega)] at h4
 simpa using h4
theorem ajR {l:List bL} (h:gF l=0):zP (l.map bL.id):=by
 unfold gF at h
 by_cases h1:128 < l.length
 ·rw [au h1] at h;cases h
 rw [ah h1] at h
 by_cases h2:rP (xY l) 0 l.length≠0
 ·rw [au h2] at h;exact absurd h h2
 intro k hk;rw [bQ] at hk;have:=WW (mY.1 h2) k hk;rw [← List.map_take,List.getElem_map];exact this
end
section
open Go.RowKit
theorem adi:∀ args w,(callFunc 57 args).run prog w=.ok (.enter 57 args) w:=enters func57 rfl (by kernel_rfl)
theorem LD:Ty prog 36 4 96 [.slice none 0 0,.slice none 0 0,.slice none 0 0,.slice none 0 0] true:=⟨by kernel_rfl,by kernel_rfl⟩
theorem adg:∀ args w,(callFunc 55 args).run prog w=.ok (.enter 55 args) w:=enters func55 rfl (by kernel_rfl)
theorem adh:∀ args w,(callFunc 56 args).run prog w=.ok (.enter 56 args) w:=enters func56 rfl (by kernel_rfl)
theorem JI:bW prog 38 1 1:=⟨by kernel_rfl⟩
theorem NG (e:Int):dH [e]=e:=by
 by_cases h:e=0 <;> simp [dH,h]
structure vL where
 flow:List aA
 fin:iE
 revs:List fH
 lT:zS
structure CV (G:GH) (D:mI) (d:vL):Prop where
 fl:av G (.sl 11 (d.flow.map aA.dat)) (eD D.f)
 hd:jF G d.fin (eD D.p) (eD D.d) (eD D.y)
 ins:D.ins=d.fin.marks.ins
 mv:D.move=d.fin.marks.move
 rv:av G (.sl 3 (d.revs.map fH.dat)) (eD D.r)
 st:EB G d.lT (eD D.s1) (eD D.s2) (eD D.s3) (eD D.s4)
theorem EB.mono {G G':GH} (hm:∀ b o,G b=some o→G' b=some o) {s:zS} {a b c d:aj} (h:EB G s a b c d):EB G' s a b c d:=⟨h.st.mono hm,h.li.mono hm,h.cm.mono hm,h.va.mono hm⟩
theorem CV.mono {G G':GH} (hm:∀ b o,G b=some o→G' b=some o) {D:mI} {d:vL} (h:CV G D d):CV G' D d:=⟨h.fl.mono hm,h.hd.mono hm,h.ins,h.mv,h.rv.mono hm,h.st.mono hm⟩
structure IX (d:vL):Prop where
 fl:bC d.flow≤1073741824
 hd:qd d.fin≤4294967296
 rn:d.revs.length≤4294967296
 rt:∀ x∈d.revs,x.author.size < 4611686018427387904
 sn:d.lT.styles.length≤4294967296
 st:Mw d.lT
abbrev vL.sJ (d:vL):gW:=aV d.lT.styles d.lT.lists d.revs
def vC (m:vM):Bool:=decide ((m.ins≠0∨m.move≠0)∨0 < (m.cO.length:Int))
def lY (d:vL):Int:=dH [dH [Jw d.lT,Gp d.revs],dH [iG d.sJ 3 d.fin,bV (vC d.fin.marks) 21],(jh d.sJ true false 0 d.flow ⟨0,[]⟩).1,bV (decide (16384 < (jh d.sJ true false 0 d.flow ⟨0,[]⟩).2.n)) 9]
theorem aaS (G:GH) (w0:World) (hG:Hold G w0) (D:mI) (d:vL) (hR:CV G D d) (hz:IX d) :
  Calls prog 33 #[D.val] w0 (bE w0 G fun u G'=>u=vi (lY d)):=by
 obtain ⟨df,dp,dd,dy,dr,d1,d2,d3,d4,ins,mv⟩:=D;obtain ⟨hfl,hhd,hin,hmv,xQ,hst⟩:=hR;dsimp only at hfl hhd hin hmv xQ hst;subst hin;subst hmv;obtain ⟨zf,zh,zr,zt,zs,zg⟩:=hz;have hdl:=hhd.cO.len;rw [bQ] at hdl
 have hdn:d.fin.marks.cO.length≤4294967296:=by
  have h1:=IJ d.fin;have h2:=rZ (d.fin.marks.cO.map jy.dat);rw [bQ] at h2;omega
 refine eN [(0,_)] func33 rfl ntmps33 rfl rfl hG ?_;intro a H;refine dB (fun _ K1=>?_);refine eU (cs:=[_,_,_,_,_,_,_,_,_,_,_]) H wn rfl rfl rfl ?_;clear H;intro b1 a w hb1 H;refine kH H (ak K1 rfl (SQ fun _ K2=>SQ fun _ K3=>?_));clear H K1;intro a H;refine dI hmx [[],[0],[0,1],[],[3],(ra 0 5),(ra 0 6),(ra 0 7),(ra 0 8)] [6,7,8] (by kernel_rfl) [_,.agg #[eD d1,eD d2,eD d3,eD d4],vi (Jw d.lT),_,eD dr,vi (Gp d.revs)] H (aF (Z0 rfl (Rf xk rfl)) ?_ ?_ (Z0 rfl (Rf Nz rfl)) (aF (Z1 3 11 rfl (Ro CB 0 rfl)) ?_ (bK rfl) (bK rfl) (aS (bK rfl) bX))) ?_
 ·refine dR 0 8 rfl rfl fun _ a w G1 hG HT H fin=>?_;refine bD LD (cs:=[_,_,_,_]) H wn rfl rfl (H.hp.dS 0 rfl rfl) rfl ?_;clear H;intro a H;exact fin H iJ rfl
 ·refine dR 1 9 rfl rfl fun _ a w G1 hG HT H fin=>?_;refine s_call adg H wn rfl (aaQ _ _ H.ro d.lT _ _ _ _ (hst.mono hG) zg) rfl ?_;clear H;rintro v10 wJ a w rfl oJ H;exact fin H oJ (rfl)
 ·refine dR 4 12 rfl rfl fun _ a w G1 hG HT H fin=>?_;refine s_call adh H wn rfl (aaP _ _ H.ro d.revs _ (xQ.mono hG) zr zt) rfl ?_;clear H;rintro v13 Eu a w rfl JV H;exact fin H JV (rfl)
 clear H;intro a w G nu H hv;have H:=H.aR (hv 2 10 rfl rfl) rfl;have H:=H.aR (hv 5 13 rfl rfl) rfl;clear hv;refine gQ oF gK [_,_] [_,_] H wn rfl rfl rfl rfl rfl (by intro i q h;match i,h with|0,h=>exact h|1,h=>exact h|n+2,h=>simp at h) rfl rfl ?_;clear H;intro b14 a w Ou H;obtain ⟨FY,OH,afl,H⟩:=H.dP;have hg1:=fun b o h=>OH b o (nu b o h);replace hfl:=hfl.mono hg1;replace hhd:=hhd.mono hg1;replace xQ:=xQ.mono hg1;replace hst:=hst.mono hg1;refine s_call pI H wn rfl (pJ _ _ H.ro _ _ (wE afl)) rfl ?_;clear H;rintro v15 _ a w ⟨rfl,rfl⟩ - H;refine kH H (Ra rfl ?_);clear H;intro a H;refine aH ⟨rfl,?_⟩;refine K3 _ _ ?_;clear K3;refine kP H (SR fun _ K4=>Rm rfl (Rc rfl (Kz K4 (Cd rfl ?_ ?_)))) <;> clear H K4
 ·intro dV a H
  try have mE:=dT dV
  have hE:lY d=dH [Jw d.lT,Gp d.revs]:=by rw [lY,dH,au mE]
  exact kP H (SR fun _ K5=>Rm rfl (ak K5 rfl (LR results33 rfl fun H=>H.rt (by rw [hE]))))
 intro dV a H
 try have mE:=dF dV
 have e1:=mY.1 mE;have s1:=qO e1 _ gD;have s2:=qO e1 _ (jN _ gD);have t1:=qO s1 _ gD;have t2:=qO s1 _ (jN _ gD);refine gI ?_;refine K2 _ _ ?_;clear K2;refine dB (fun _ K6=>?_);refine bD ru (cs:=[_,_,_,_,_,_,_,_,_,_,_]) H wn rfl rfl (H.hp.dS 0 rfl rfl) rfl ?_;clear H;intro a H;refine gU adi (Li:=[_]) (L:=[]) H wn rfl (ahK _ _ (Hp.owns (Li:=[_]) H.hp) ⟨df,dp,dd,dy,dr,d1,d2,d3,d4,d.fin.marks.ins,d.fin.marks.move⟩ d.lT.styles d.lT.lists d.revs hst.st hst.li xQ (ajR t1) (ahl t2) (aiH s2) zs zg.ln zr) rfl ?_;clear H;rintro v20 Ev _ a w ⟨b,ms,ml,mr,mb,mu,rfl,rfl,hck⟩ Ch H;dsimp only [lca,bg] at H;replace hfl:=hfl.mono Ch;replace hhd:=hhd.mono Ch;refine kH H (ak K6 rfl (SR fun _ K7=>Rf JI rfl (Rf ug rfl ?_)));clear H K6;intro a H;refine bD FL (cs:=[_,_,_,_]) H wn rfl rfl (H.hp.dS 0 rfl rfl) rfl ?_;clear H;intro a H;refine eB FL H wn rfl ?_;clear H;intro b5 a w hb5 H;refine bH FL 0 (vs:=[_,_,_,_]) _ H wn rfl rfl rfl rfl rfl rfl rfl rfl ?_;clear H;intro w H;dsimp only [List.set,setRow] at H;refine K7 _ _ ?_;clear K7;refine bA (fun _ K8=>?_);refine bA (fun _ K9=>?_)
 by_cases c0:d.fin.marks.ins≠0
 ·skip;have c1:d.fin.marks.ins≠0∨d.fin.marks.move≠0:=Or.inl c0;refine dI hmx [[],[],[1],[0,1,2],[],[4],[4,5],(ra 0 7),(ra 0 8),(ra 0 9),(ra 0 10),(ra 0 11),(ra 0 12),(ra 0 13),(ra 0 14),(ra 0 15),(ra 0 16),(ra 0 17),(ra 0 18),(ra 0 19),(ra 0 20),(ra 0 21)] [19,20,21] (by kernel_rfl) [_,_,zi d.fin (eD dp) (eD dd) (eD dy),vi (iG d.sJ 3 d.fin),_,vi d.fin.marks.ins,_,_,undef,undef,undef,.bool (decide (d.fin.marks.ins≠0∨d.fin.marks.move≠0)),_,undef,undef,undef,undef,.bool (vC d.fin.marks),vi (bV (vC d.fin.marks) 21)] H (aF (Z0 rfl (Rm rfl)) (Z0 rfl (Rf JI rfl)) ?_ ?_ (aF (Z0 rfl (Rf vT rfl)) (Z1 4 28 rfl (Ro aC 0 rfl)) (Z1 5 29 rfl (Rc rfl)) (Z1 6 30 rfl (Rm rfl)) (aF (aL (j:=7) (by kernel_rfl) (fun _ _ _ _ _ h=>h) rfl rfl rfl rfl rfl (fun _ _ h=>aM h (aG (aB c0))) rfl (fun _=>rfl)) (aL (j:=7) (by kernel_rfl) (fun _ _ _ _ _ h=>h) rfl rfl rfl rfl rfl (fun _ _ h=>aM h (aG (aB c0))) rfl (fun _=>rfl)) (aL (j:=7) (by kernel_rfl) (fun _ _ _ _ _ h=>h) rfl rfl rfl rfl rfl (fun _ _ h=>aM h (aG (aB c0))) rfl (fun _=>rfl)) ?_ (aF (Z1 11 35 rfl (Rm rfl)) (aL (j:=12) (by kernel_rfl) (fun _ _ _ _ _ h=>h) rfl rfl rfl rfl rfl (fun _ _ h=>aM h (aG (aB c1))) rfl (fun _=>rfl)) (aL (j:=12) (by kernel_rfl) (fun _ _ _ _ _ h=>h) rfl rfl rfl rfl rfl (fun _ _ h=>aM h (aG (aB c1))) rfl (fun _=>rfl)) (aL (j:=12) (by kernel_rfl) (fun _ _ _ _ _ h=>h) rfl rfl rfl rfl rfl (fun _ _ h=>aM h (aG (aB c1))) rfl (fun _=>rfl)) (aF (aL (j:=12) (by kernel_rfl) (fun _ _ _ _ _ h=>h) rfl rfl rfl rfl rfl (fun _ _ h=>aM h (aG (aB c1))) rfl (fun _=>rfl)) ?_ ?_ (bK rfl) (aS (bK rfl) (aS (bK rfl) bX))))))) ?_
  ·refine dR 1 25 rfl rfl fun _ a w G1 hG HT H fin=>?_;refine bD qD (cs:=[_,_,_,_,_]) H wn rfl rfl (H.hp.dS 1 rfl rfl) rfl ?_;clear H;intro a H;exact fin H iJ rfl
  ·refine dG 0 24 2 26 rfl rfl fun _ a w G1 hG HT H fin=>?_;refine gU EN (Li:=[_,_]) (L:=fO b ms ml mr mb mu 0 :: (mb,fK []) :: []) H wn rfl (E8 _ _ _ d.lT.styles d.lT.lists d.revs b ms ml mr mb mu _ (hck.mono hG) (Hp.owns (Li:=[_,_]) H.hp) 3 d.fin _ _ _ (hhd.mono hG) zh) rfl ?_;clear H;rintro v27 _ _ a w ⟨rfl,rfl,rfl⟩ GY H;dsimp only [lca,bg] at H;exact fin H GY (rfl)
  ·refine dG 7 31 10 34 rfl rfl fun _ a w G1 hG HT H fin=>?_;refine kH H (Pt (aB c0) rfl ?_);clear H;intro a H;exact fin H iJ (by show _=_;first|exact aG (aB c1).symm|exact aG (by simp [c0]))
  ·refine dG 12 36 16 40 rfl rfl fun _ a w G1 hG HT H fin=>?_;refine kH H (Pt (aB c1) rfl ?_);clear H;intro a H;exact fin H iJ (by show _=_;first|exact aG (iQ (Or.inl c1)).symm|exact aG (by simp [vC,c1]))
  ·refine dR 17 41 rfl rfl fun _ a w G1 hG HT H fin=>?_;refine s_call iW H wn rfl (iZ _ _ H.ro _ 21) rfl ?_;clear H;rintro v42 Mg a w ⟨rfl,-⟩ GZ H;exact fin H GZ (rfl)
  clear H;intro a w G gJ H hv;have H:=H.aR (hv 3 27 rfl rfl) rfl;have H:=H.aR (hv 18 42 rfl rfl) rfl;clear hv;refine gQ oF gK [_,_] [_,_] H wn rfl rfl rfl rfl rfl (by intro i q h;match i,h with|0,h=>exact h|1,h=>exact h|n+2,h=>simp at h) rfl rfl ?_;clear H;intro Sz a w U2 H;obtain ⟨I6,Ci,Hq,H⟩:=H.dP;have Cg:=fun b o h=>Ci b o (gJ b o h);replace hfl:=hfl.mono Cg;replace hck:=hck.mono Cg;refine s_call pI H wn rfl (pJ _ _ H.ro _ _ (wE Hq)) rfl ?_;clear H;rintro v44 _ a w ⟨rfl,rfl⟩ - H;refine kH H (Ra rfl ?_);clear H;intro a H;refine aH ⟨rfl,?_⟩;refine K9 _ _ ?_;clear K9;refine kP H (SR fun _ aT=>Rm rfl (Rc rfl (Kz aT (Cd rfl ?_ ?_)))) <;> clear H aT
  ·intro h46 a H
   try have p46:=dT h46
   have hE:lY d=dH [iG d.sJ 3 d.fin,bV (vC d.fin.marks) 21]:=by rw [lY,dH,ah (by simpa using e1),dH,au p46]
   exact kP H (SR fun _ bq=>Rm rfl (ak bq rfl (LR results33 rfl fun H=>H.rt (by rw [hE]))))
  intro h46 a H
  try have p46:=dF h46
  have e2:=mY.1 p46;refine kP H (Kc K8 (SQ fun _ bF=>SR fun _ bJ=>Rm rfl (aP Dp iD 1 rfl rfl ?_)));clear H K8;intro a H;refine iT Cy [_,_,_] H wn rfl rfl rfl rfl ?_;clear H;intro a H;refine gU GD (Li:=[_,_]) (L:=fO b ms ml mr mb mu 0 :: (mb,fK []) :: []) H wn rfl (Kr 4294967297 (by omega) _ _ _ d.lT.styles d.lT.lists d.revs b ms ml mr mb mu ⟨0,[]⟩ d.flow _ true false 0 hck (Hp.owns (Li:=[_,_]) H.hp) hfl (by omega) (by omega) (by omega) (by decide) (by dsimp only;omega)) rfl ?_;clear H;rintro v52 _ _ a w ⟨rfl,s3,rfl,rfl,h3⟩ - H;dsimp only [lca,bg] at H;refine kH H (ak bJ rfl (SR fun _ bN=>Rm rfl (Rc rfl (Kz bN (Cd rfl ?_ ?_))))) <;> clear H bJ bN
  ·intro fJ a H
   try have p54:=dT fJ
   have hE:lY d=(jh d.sJ true false 0 d.flow ⟨0,[]⟩).1:=by rw [lY,dH,ah (by simpa using e1),dH,ah (by simpa using e2),dH,au p54]
   exact kP H (SR fun _ cK=>Rm rfl (ak cK rfl (LR results33 rfl fun H=>H.rt (by rw [hE]))))
  intro fJ a H
  try have p54:=dF fJ
  have e3:=mY.1 p54;have hs3:=h3 e3;subst hs3;refine kP H (Kc bF (SR fun _ dw=>Rm rfl (Rk rfl (aP Dl aC 2 rfl rfl (Rc rfl ?_)))));clear H bF;intro a H;refine s_call iW H wn rfl (iZ _ _ H.ro _ 9) rfl ?_;clear H;rintro v61 _ a w ⟨rfl,rfl⟩ - H
  have hE:lY d=bV (decide (16384 < (jh d.sJ true false 0 d.flow ⟨0,[]⟩).2.n)) 9:=by rw [lY,dH,ah (by simpa using e1),dH,ah (by simpa using e2),dH,ah (by simpa using e3)];exact NG _
  exact kH H (ak dw rfl (LR results33 rfl fun H=>H.rt (by rw [hE])))
 skip
 by_cases c1:d.fin.marks.ins≠0∨d.fin.marks.move≠0
 ·skip;refine dI hmx [[],[],[1],[0,1,2],[],[4],[4,5],(ra 0 7),(ra 0 8),(ra 0 9),(ra 0 10),(ra 0 11),(ra 0 12),(ra 0 13),(ra 0 14),(ra 0 15),(ra 0 16),(ra 0 17),(ra 0 18),(ra 0 19),(ra 0 20),(ra 0 21)] [19,20,21] (by kernel_rfl) [_,_,zi d.fin (eD dp) (eD dd) (eD dy),vi (iG d.sJ 3 d.fin),_,vi d.fin.marks.ins,_,_,_,vi d.fin.marks.move,_,.bool (decide (d.fin.marks.ins≠0∨d.fin.marks.move≠0)),_,undef,undef,undef,undef,.bool (vC d.fin.marks),vi (bV (vC d.fin.marks) 21)] H (aF (Z0 rfl (Rm rfl)) (Z0 rfl (Rf JI rfl)) ?_ ?_ (aF (Z0 rfl (Rf vT rfl)) (Z1 4 28 rfl (Ro aC 0 rfl)) (Z1 5 29 rfl (Rc rfl)) (Z1 6 30 rfl (Rm rfl)) (aF (Z1 7 31 rfl (YF BN (aO c0) rfl)) (Z2 8 32 7 31 rfl (YO aC 0 (aO c0) rfl)) (Z2 9 33 7 31 rfl (YC (aO c0) rfl)) ?_ (aF (Z1 11 35 rfl (Rm rfl)) (aL (j:=12) (by kernel_rfl) (fun _ _ _ _ _ h=>h) rfl rfl rfl rfl rfl (fun _ _ h=>aM h (aG (aB c1))) rfl (fun _=>rfl)) (aL (j:=12) (by kernel_rfl) (fun _ _ _ _ _ h=>h) rfl rfl rfl rfl rfl (fun _ _ h=>aM h (aG (aB c1))) rfl (fun _=>rfl)) (aL (j:=12) (by kernel_rfl) (fun _ _ _ _ _ h=>h) rfl rfl rfl rfl rfl (fun _ _ h=>aM h (aG (aB c1))) rfl (fun _=>rfl)) (aF (aL (j:=12) (by kernel_rfl) (fun _ _ _ _ _ h=>h) rfl rfl rfl rfl rfl (fun _ _ h=>aM h (aG (aB c1))) rfl (fun _=>rfl)) ?_ ?_ (bK rfl) (aS (bK rfl) (aS (bK rfl) bX))))))) ?_
  ·refine dR 1 25 rfl rfl fun _ a w G1 hG HT H fin=>?_;refine bD qD (cs:=[_,_,_,_,_]) H wn rfl rfl (H.hp.dS 1 rfl rfl) rfl ?_;clear H;intro a H;exact fin H iJ rfl
  ·refine dG 0 24 2 26 rfl rfl fun _ a w G1 hG HT H fin=>?_;refine gU EN (Li:=[_,_]) (L:=fO b ms ml mr mb mu 0 :: (mb,fK []) :: []) H wn rfl (E8 _ _ _ d.lT.styles d.lT.lists d.revs b ms ml mr mb mu _ (hck.mono hG) (Hp.owns (Li:=[_,_]) H.hp) 3 d.fin _ _ _ (hhd.mono hG) zh) rfl ?_;clear H;rintro v27 _ _ a w ⟨rfl,rfl,rfl⟩ GY H;dsimp only [lca,bg] at H;exact fin H GY (rfl)
  ·refine dG 7 31 10 34 rfl rfl fun _ a w G1 hG HT H fin=>?_;refine kH H (Pf (aO c0) rfl ?_);clear H;intro a H;exact fin H iJ (by show _=_;first|exact aG (aB c1).symm|exact aG (by simp [c0]))
  ·refine dG 12 36 16 40 rfl rfl fun _ a w G1 hG HT H fin=>?_;refine kH H (Pt (aB c1) rfl ?_);clear H;intro a H;exact fin H iJ (by show _=_;first|exact aG (iQ (Or.inl c1)).symm|exact aG (by simp [vC,c1]))
  ·refine dR 17 41 rfl rfl fun _ a w G1 hG HT H fin=>?_;refine s_call iW H wn rfl (iZ _ _ H.ro _ 21) rfl ?_;clear H;rintro v42 Mg a w ⟨rfl,-⟩ GZ H;exact fin H GZ (rfl)
  clear H;intro a w G gJ H hv;have H:=H.aR (hv 3 27 rfl rfl) rfl;have H:=H.aR (hv 18 42 rfl rfl) rfl;clear hv;refine gQ oF gK [_,_] [_,_] H wn rfl rfl rfl rfl rfl (by intro i q h;match i,h with|0,h=>exact h|1,h=>exact h|n+2,h=>simp at h) rfl rfl ?_;clear H;intro Sz a w U2 H;obtain ⟨I6,Ci,Hq,H⟩:=H.dP;have Cg:=fun b o h=>Ci b o (gJ b o h);replace hfl:=hfl.mono Cg;replace hck:=hck.mono Cg;refine s_call pI H wn rfl (pJ _ _ H.ro _ _ (wE Hq)) rfl ?_;clear H;rintro v44 _ a w ⟨rfl,rfl⟩ - H;refine kH H (Ra rfl ?_);clear H;intro a H;refine aH ⟨rfl,?_⟩;refine K9 _ _ ?_;clear K9;refine kP H (SR fun _ bY=>Rm rfl (Rc rfl (Kz bY (Cd rfl ?_ ?_)))) <;> clear H bY
  ·intro h46 a H
   try have p46:=dT h46
   have hE:lY d=dH [iG d.sJ 3 d.fin,bV (vC d.fin.marks) 21]:=by rw [lY,dH,ah (by simpa using e1),dH,au p46]
   exact kP H (SR fun _ dz=>Rm rfl (ak dz rfl (LR results33 rfl fun H=>H.rt (by rw [hE]))))
  intro h46 a H
  try have p46:=dF h46
  have e2:=mY.1 p46;refine kP H (Kc K8 (SQ fun _ fC=>SR fun _ dN=>Rm rfl (aP Dp iD 1 rfl rfl ?_)));clear H K8;intro a H;refine iT Cy [_,_,_] H wn rfl rfl rfl rfl ?_;clear H;intro a H;refine gU GD (Li:=[_,_]) (L:=fO b ms ml mr mb mu 0 :: (mb,fK []) :: []) H wn rfl (Kr 4294967297 (by omega) _ _ _ d.lT.styles d.lT.lists d.revs b ms ml mr mb mu ⟨0,[]⟩ d.flow _ true false 0 hck (Hp.owns (Li:=[_,_]) H.hp) hfl (by omega) (by omega) (by omega) (by decide) (by dsimp only;omega)) rfl ?_;clear H;rintro v52 _ _ a w ⟨rfl,s3,rfl,rfl,h3⟩ - H;dsimp only [lca,bg] at H;refine kH H (ak dN rfl (SR fun _ fQ=>Rm rfl (Rc rfl (Kz fQ (Cd rfl ?_ ?_))))) <;> clear H dN fQ
  ·intro fJ a H
   try have p54:=dT fJ
   have hE:lY d=(jh d.sJ true false 0 d.flow ⟨0,[]⟩).1:=by rw [lY,dH,ah (by simpa using e1),dH,ah (by simpa using e2),dH,au p54]
   exact kP H (SR fun _ iq=>Rm rfl (ak iq rfl (LR results33 rfl fun H=>H.rt (by rw [hE]))))
  intro fJ a H
  try have p54:=dF fJ
  have e3:=mY.1 p54;have hs3:=h3 e3;subst hs3;refine kP H (Kc fC (SR fun _ jA=>Rm rfl (Rk rfl (aP Dl aC 2 rfl rfl (Rc rfl ?_)))));clear H fC;intro a H;refine s_call iW H wn rfl (iZ _ _ H.ro _ 9) rfl ?_;clear H;rintro v61 _ a w ⟨rfl,rfl⟩ - H
  have hE:lY d=bV (decide (16384 < (jh d.sJ true false 0 d.flow ⟨0,[]⟩).2.n)) 9:=by rw [lY,dH,ah (by simpa using e1),dH,ah (by simpa using e2),dH,ah (by simpa using e3)];exact NG _
  exact kH H (ak jA rfl (LR results33 rfl fun H=>H.rt (by rw [hE])))
 skip;refine dI hmx [[],[],[1],[0,1,2],[],[4],[4,5],(ra 0 7),(ra 0 8),(ra 0 9),(ra 0 10),(ra 0 11),(ra 0 12),(ra 0 13),(ra 0 14),(ra 0 15),(ra 0 16),(ra 0 17),(ra 0 18),(ra 0 19),(ra 0 20),(ra 0 21)] [19,20,21] (by kernel_rfl) [_,_,zi d.fin (eD dp) (eD dd) (eD dy),vi (iG d.sJ 3 d.fin),_,vi d.fin.marks.ins,_,_,_,vi d.fin.marks.move,_,.bool (decide (d.fin.marks.ins≠0∨d.fin.marks.move≠0)),_,_,eD dd,vi d.fin.marks.cO.length,_,.bool (vC d.fin.marks),vi (bV (vC d.fin.marks) 21)] H (aF (Z0 rfl (Rm rfl)) (Z0 rfl (Rf JI rfl)) ?_ ?_ (aF (Z0 rfl (Rf vT rfl)) (Z1 4 28 rfl (Ro aC 0 rfl)) (Z1 5 29 rfl (Rc rfl)) (Z1 6 30 rfl (Rm rfl)) (aF (Z1 7 31 rfl (YF BN (aO c0) rfl)) (Z2 8 32 7 31 rfl (YO aC 0 (aO c0) rfl)) (Z2 9 33 7 31 rfl (YC (aO c0) rfl)) ?_ (aF (Z1 11 35 rfl (Rm rfl)) (Z1 12 36 rfl (YF vU (aO c1) rfl)) (Z2 13 37 12 36 rfl (YO wF 0 (aO c1) rfl)) ?_ (aF (Z2 15 39 12 36 rfl (YC (aO c1) rfl)) ?_ ?_ (bK rfl) (aS (bK rfl) (aS (bK rfl) bX))))))) ?_
 ·refine dR 1 25 rfl rfl fun _ a w G1 hG HT H fin=>?_;refine bD qD (cs:=[_,_,_,_,_]) H wn rfl rfl (H.hp.dS 1 rfl rfl) rfl ?_;clear H;intro a H;exact fin H iJ rfl
 ·refine dG 0 24 2 26 rfl rfl fun _ a w G1 hG HT H fin=>?_;refine gU EN (Li:=[_,_]) (L:=fO b ms ml mr mb mu 0 :: (mb,fK []) :: []) H wn rfl (E8 _ _ _ d.lT.styles d.lT.lists d.revs b ms ml mr mb mu _ (hck.mono hG) (Hp.owns (Li:=[_,_]) H.hp) 3 d.fin _ _ _ (hhd.mono hG) zh) rfl ?_;clear H;rintro v27 _ _ a w ⟨rfl,rfl,rfl⟩ GY H;dsimp only [lca,bg] at H;exact fin H GY (rfl)
 ·refine dG 7 31 10 34 rfl rfl fun _ a w G1 hG HT H fin=>?_;refine kH H (Pf (aO c0) rfl ?_);clear H;intro a H;exact fin H iJ (by show _=_;first|exact aG (aB c1).symm|exact aG (by simp [c0]))
 ·refine dG 14 38 12 36 rfl rfl fun _ a w G1 hG HT H fin=>?_;refine kH H (YL qG (aO c1) rfl ?_);clear H;intro a H;exact fin H iJ (by show _=_;first|rfl|exact ay (fun n:Nat=>vi n) hdl)
 ·refine dG 12 36 16 40 rfl rfl fun _ a w G1 hG HT H fin=>?_;refine kH H (Pf (aO c1) rfl ?_);clear H;intro a H;exact fin H iJ (by show _=_;first|exact aG (iQ (Or.inl c1)).symm|exact aG (by simp [vC,c1]))
 ·refine dR 17 41 rfl rfl fun _ a w G1 hG HT H fin=>?_;refine s_call iW H wn rfl (iZ _ _ H.ro _ 21) rfl ?_;clear H;rintro v42 Mg a w ⟨rfl,-⟩ GZ H;exact fin H GZ (rfl)
 clear H;intro a w G gJ H hv;have H:=H.aR (hv 3 27 rfl rfl) rfl;have H:=H.aR (hv 18 42 rfl rfl) rfl;clear hv;refine gQ oF gK [_,_] [_,_] H wn rfl rfl rfl rfl rfl (by intro i q h;match i,h with|0,h=>exact h|1,h=>exact h|n+2,h=>simp at h) rfl rfl ?_;clear H;intro Sz a w U2 H;obtain ⟨I6,Ci,Hq,H⟩:=H.dP;have Cg:=fun b o h=>Ci b o (gJ b o h);replace hfl:=hfl.mono Cg;replace hck:=hck.mono Cg;refine s_call pI H wn rfl (pJ _ _ H.ro _ _ (wE Hq)) rfl ?_;clear H;rintro v44 _ a w ⟨rfl,rfl⟩ - H;refine kH H (Ra rfl ?_);clear H;intro a H;refine aH ⟨rfl,?_⟩;refine K9 _ _ ?_;clear K9;refine kP H (SR fun _ jo=>Rm rfl (Rc rfl (Kz jo (Cd rfl ?_ ?_)))) <;> clear H jo
 ·intro h46 a H
  try have p46:=dT h46
  have hE:lY d=dH [iG d.sJ 3 d.fin,bV (vC d.fin.marks) 21]:=by rw [lY,dH,ah (by simpa using e1),dH,au p46]
  exact kP H (SR fun _ jc=>Rm rfl (ak jc rfl (LR results33 rfl fun H=>H.rt (by rw [hE]))))
 intro h46 a H
 try have p46:=dF h46
 have e2:=mY.1 p46;refine kP H (Kc K8 (SQ fun _ jG=>SR fun _ jM=>Rm rfl (aP Dp iD 1 rfl rfl ?_)));clear H K8;intro a H;refine iT Cy [_,_,_] H wn rfl rfl rfl rfl ?_;clear H;intro a H;refine gU GD (Li:=[_,_]) (L:=fO b ms ml mr mb mu 0 :: (mb,fK []) :: []) H wn rfl (Kr 4294967297 (by omega) _ _ _ d.lT.styles d.lT.lists d.revs b ms ml mr mb mu ⟨0,[]⟩ d.flow _ true false 0 hck (Hp.owns (Li:=[_,_]) H.hp) hfl (by omega) (by omega) (by omega) (by decide) (by dsimp only;omega)) rfl ?_;clear H;rintro v52 _ _ a w ⟨rfl,s3,rfl,rfl,h3⟩ - H;dsimp only [lca,bg] at H;refine kH H (ak jM rfl (SR fun _ iI=>Rm rfl (Rc rfl (Kz iI (Cd rfl ?_ ?_))))) <;> clear H jM iI
 ·intro fJ a H
  try have p54:=dT fJ
  have hE:lY d=(jh d.sJ true false 0 d.flow ⟨0,[]⟩).1:=by rw [lY,dH,ah (by simpa using e1),dH,ah (by simpa using e2),dH,au p54]
  exact kP H (SR fun _ lU=>Rm rfl (ak lU rfl (LR results33 rfl fun H=>H.rt (by rw [hE]))))
 intro fJ a H
 try have p54:=dF fJ
 have e3:=mY.1 p54;have hs3:=h3 e3;subst hs3;refine kP H (Kc jG (SR fun _ mJ=>Rm rfl (Rk rfl (aP Dl aC 2 rfl rfl (Rc rfl ?_)))));clear H jG;intro a H;refine s_call iW H wn rfl (iZ _ _ H.ro _ 9) rfl ?_;clear H;rintro v61 _ a w ⟨rfl,rfl⟩ - H
 have hE:lY d=bV (decide (16384 < (jh d.sJ true false 0 d.flow ⟨0,[]⟩).2.n)) 9:=by rw [lY,dH,ah (by simpa using e1),dH,ah (by simpa using e2),dH,ah (by simpa using e3)];exact NG _
 exact kH H (ak mJ rfl (LR results33 rfl fun H=>H.rt (by rw [hE])))
end
section
open Go.RowKit
theorem Nj:∀ args w,(callFunc 32 args).run prog w=.ok (.enter 32 args) w:=enters func32 rfl (by kernel_rfl)
theorem acT:∀ args w,(callFunc 33 args).run prog w=.ok (.enter 33 args) w:=enters func33 rfl (by kernel_rfl)
theorem ahP {d:vL} (h:lY d=0):wK d.flow:=by
 have h1:=qO h _ (jN _ (jN _ gD));exact wK.of (Tj h1)
abbrev zX (b:Nat) (n:Int):Nat × Obj:=(b,.cells #[vi n] 3 (0,0))
def ZJ (bl:Nat) (left:Int) (z:Nat) (u:aj) (_:GH) (L':OL):Prop:=∃ b lf,u=.bool b∧L'=[zX bl lf]∧left - (z:Int)≤lf∧lf≤left
def Mt (n:Nat):Prop:=∀ (G:GH) (w0:World) (l:List aA) (v:aj) (Fu left:Int) (bl:Nat),gX G [zX bl left] w0→av G (.sl 11 (l.map aA.dat)) v→bC l < n→0≤Fu→Fu≤1000→left≤1000→-1000000000000≤left - (bC l:Int) →
 Calls prog 32 #[v,vi Fu,(aJ bl 0)] w0 (gH w0 G [zX bl left] (ZJ bl left (bC l)))
theorem YP (l m:List bO):ig (l++m)=ig l+ig m:=by simp [ig,QA]
theorem YE (l m:List bM):jm (l++m)=jm l+jm m:=by simp [jm,QA]
theorem akB {l:List aA} {k:Nat} (h:k < l.length):bC (l.take (k+1))=bC (l.take k)+(1+dh l[k].dat):=by rw [jq h,akA];simp [bC,eX]
theorem akD {l:List bO} {k:Nat} (h:k < l.length):ig (l.take (k+1))=ig (l.take k)+(1+dh l[k].dat):=by rw [jq h,YP];simp [ig,eX]
theorem akz {l:List bM} {k:Nat} (h:k < l.length):jm (l.take (k+1))=jm (l.take k)+(1+dh l[k].dat):=by rw [jq h,YE];simp [jm,eX]
theorem YK (l:List aA) (k:Nat):bC (l.take k)≤bC l:=IL (List.take_sublist k l)
theorem YQ (l:List bO) (k:Nat):ig (l.take k)≤ig l:=by
 have:=YP (l.take k) (l.drop k);rw [List.take_append_drop] at this;omega
theorem YG (l:List bM) (k:Nat):jm (l.take k)≤jm l:=by
 have:=YE (l.take k) (l.drop k);rw [List.take_append_drop] at this;omega
set_option maxHeartbeats 4000000 in
theorem ajB {n:Nat} (ih:Mt n) (hn:n≤4294967296):Mt (n+1):=by
 intro G w0 l v Fu left bl hO hv hz hl0 hl1 hf1 hf0;obtain ⟨A,c,rfl,hc1,hc2,hg⟩:=hv.slice;rw [bQ] at *;have hll:=CQ l;refine jO (N:=133) (T:=[(0,_),(1,_),(2,_)]) func32 rfl ntmps32 rfl rfl hO ?_;intro a H;refine kP H (SR fun _ K1=>ak K1 rfl (SQ fun _ K2=>SR fun _ K3=>ak K3 rfl (SB ?_)));clear H K1 K3;intro a H;skip;refine eT (ι:=Nat × Int × GH) (Tc:=[(0,_),(1,_),(2,_)]) (Lc:=[]) (fun gh=>[(7,vi gh.1)]) (fun gh=>[zX bl gh.2.1]) (fun gh=>gh.2.2) (fun gh=>gh.1≤l.length∧left - (bC (l.take gh.1):Int)≤gh.2.1∧gh.2.1≤left∧(∀ b o,G b=some o→gh.2.2 b=some o)) (fun gh=>l.length - gh.1) ((0,left,G)) (by exact (H).sub ⟨rfl,rfl,rfl,rfl,aD⟩) ?_ ?_
 ·exact ⟨by omega,by show left - ((0:Nat):Int)≤left;omega,Int.le_refl _,fun _ _ h=>h⟩
 clear H;intro gh a w hI H;obtain ⟨k,lf,g⟩:=gh;dsimp only at hI H;obtain ⟨hk,hlo,hhi,hgm⟩:=hI;have hzk:=YK l k;dsimp only [lca,bg] at H;refine kP H (SQ fun _ K4=>SR fun _ K5=>Rm rfl (Rm rfl (Rl gV rfl (Rc rfl (Kz K5 (Cd rfl ?_ ?_)))))) <;> clear H K5
 ·intro gy a H
  try have qC:=dT gy
  have hk2:k < l.length:=by omega
  obtain ⟨b,o,pA,pn,pc,dA,dn,dc,yA,yn,yc,fA,fn,fc,rA,rn,rc,rfl,hrow,hhd,hfl,hrw⟩:=Ai hk2 hg;have hrn:=hrw.len;rw [bQ] at hrn;subst hrn;have r3:aI g b (o+k*11+3)=some (.string l[k].text):=aK hgm (hrow 3 _ rfl);have r4:aI g b (o+k*11+4+0)=some (.slice pA pn pc):=aK hgm (hrow 4 _ rfl);have r9:aI g b (o+k*11+9)=some (.slice fA fn fc):=aK hgm (hrow 9 _ rfl);have Qb:aI g b (o+k*11+10)=some (.slice rA l[k].rows.length rc):=aK hgm (hrow 10 _ rfl);have hzi:=oU l[k];have hzs:=akB hk2;have hzt:=YK l (k+1);refine kP H (Kc K4 (SQ fun _ K6=>SB (SR fun _ K7=>Rm rfl (Rk rfl (Ro aC 0 rfl (Rs rfl (Rk rfl ?_)))))));clear H K4;intro a H;refine bH aC 0 (vs:=[_]) _ H wn rfl rfl rfl rfl rfl rfl rfl rfl ?_;clear H;intro w H;dsimp only [List.set,setRow] at H;refine K7 _ _ ?_;clear K7;refine kP H (SQ fun _ K8=>SR fun _ K9=>Rm rfl (Rk rfl (Ro aC 0 rfl (Rc rfl (Rm rfl (Sp 25 rfl ?_ ?_)))))) <;> clear H
  ·intro lQ a H
   try have p25:=dT lQ
   refine kH H (aQ lQ rfl (Pt lQ rfl (Rm rfl (aX rfl rfl (aQ rfl rfl (aQ rfl rfl (Pt rfl rfl (Rm rfl (aX rfl rfl (aX rfl rfl (aQ rfl rfl (Pt rfl rfl (Rm rfl (aX rfl rfl (aQ rfl rfl (aQ rfl rfl (Pt rfl rfl (Rm rfl (aX rfl rfl (aX rfl rfl (aQ rfl rfl (aQ rfl rfl ?_))))))))))))))))))))));clear H;intro a H;exact kH H (Pt rfl rfl (Kz K9 (Ct rfl rfl (SR fun _ aT=>ak aT rfl (LR results32 rfl fun H=>H.hp.eP ⟨_,_,rfl,rfl,by omega,by omega⟩)))))
  intro lQ a H
  try have p25:=dF lQ
  refine kH H (YM lQ rfl (YC lQ rfl (Pf lQ rfl (Rm rfl (Sp 29 rfl ?_ ?_))))) <;> clear H
  ·intro jW a H
   try have p29:=dT jW
   refine kH H (aX jW rfl (aQ jW rfl (aQ jW rfl (Pt jW rfl (Rm rfl (aX rfl rfl (aX rfl rfl (aQ rfl rfl (Pt rfl rfl (Rm rfl (aX rfl rfl (aQ rfl rfl (aQ rfl rfl (Pt rfl rfl (Rm rfl (aX rfl rfl (aX rfl rfl (aQ rfl rfl (aQ rfl rfl (Pt rfl rfl (Kz K9 ?_)))))))))))))))))))));clear H K9;intro a H;refine uQ H rfl rfl ?_;exact kP H (SR fun _ bq=>ak bq rfl (LR results32 rfl fun H=>H.hp.eP ⟨_,_,rfl,rfl,by omega,by omega⟩))
  intro jW a H
  try have p29:=dF jW
  refine kH H (YM jW rfl (YM jW rfl (YI gV dM jW rfl rfl (YF uj jW rfl (YR fZ jW rfl (by assumption) ?_)))));clear H;intro a H;refine Cw gu H (wg H rfl rfl jW) rfl rfl ?_;clear H;intro a H;refine kH H (YC jW rfl (Pf jW rfl (Rm rfl (Sp 38 rfl ?_ ?_)))) <;> clear H
  ·intro kT a H
   try have p38:=dT kT
   exact kH H (aX kT rfl (aX kT rfl (aQ kT rfl (Pt kT rfl (Rm rfl (aX rfl rfl (aQ rfl rfl (aQ rfl rfl (Pt rfl rfl (Rm rfl (aX rfl rfl (aX rfl rfl (aQ rfl rfl (aQ rfl rfl (Pt rfl rfl (Kz K9 (Ct rfl rfl (SR fun _ bF=>ak bF rfl (LR results32 rfl fun H=>H.hp.eP ⟨_,_,rfl,rfl,by omega,by omega⟩)))))))))))))))))))
  intro kT a H
  try have p38:=dF kT
  refine kH H (YM kT rfl (YM kT rfl (YI gV dM kT rfl rfl (YF BO kT rfl (YF Dn kT rfl (YR Bt kT rfl (by assumption) ?_))))));clear H;intro a H;refine kH H (YL oQ kT rfl (YC kT rfl (Pf kT rfl (Rm rfl (Sp 48 rfl ?_ ?_))))) <;> clear H
  ·intro h48 a H
   try have p48:=dT h48
   exact kH H (aX h48 rfl (aQ h48 rfl (aQ h48 rfl (Pt h48 rfl (Rm rfl (aX rfl rfl (aX rfl rfl (aQ rfl rfl (aQ rfl rfl (Pt rfl rfl (Kz K9 (Ct rfl rfl (SR fun _ bJ=>ak bJ rfl (LR results32 rfl fun H=>H.hp.eP ⟨_,_,rfl,rfl,by omega,by omega⟩))))))))))))))
  intro h48 a H
  try have p48:=dF h48
  refine kH H (YM h48 rfl (YM h48 rfl (YI gV dM h48 rfl rfl (YF qN h48 rfl (YR rz h48 rfl (by assumption) ?_)))));clear H;intro a H;refine kH H (YL mU h48 rfl (YC h48 rfl (Pf h48 rfl (Rm rfl (Sp 57 rfl ?_ ?_))))) <;> clear H
  ·intro h57 a H
   try have p57:=dT h57
   exact kH H (aX h57 rfl (aX h57 rfl (aQ h57 rfl (aQ h57 rfl (Pt h57 rfl (Kz K9 (Ct rfl rfl (SR fun _ bN=>ak bN rfl (LR results32 rfl fun H=>H.hp.eP ⟨_,_,rfl,rfl,by omega,by omega⟩)))))))))
  intro h57 a H
  try have p57:=dF h57
  refine kH H (YM h57 rfl (YM h57 rfl (YI gV dM h57 rfl rfl (YF yV h57 rfl (YR iD h57 rfl (by assumption) ?_)))));clear H;intro a H;refine kH H (YM h57 rfl ?_);clear H;intro a H;refine mR _ H (wg H rfl rfl h57) rfl rfl rfl (by omega) (by omega) rfl ?_;clear H;intro a H;refine kH H (YM h57 rfl ?_);clear H;intro a H;refine gU Nj (Li:=[]) (L:=[zX bl _]) H (wg H rfl rfl h57) rfl (ih _ _ l[k].flow _ (Fu - 1) _ bl (Hp.owns (Li:=[]) H.hp) (hfl.mono hgm) (by omega) (by omega) (by omega) (by omega) (by omega)) rfl ?_;clear H;rintro v66 Zm L66 a w ⟨b66,lf66,rfl,rfl,alk,alh⟩ Vh H;dsimp only [List.nil_append] at H;replace Qb:=aK Vh Qb;have afL:=fun b o h=>Vh b o (hgm b o h);refine kH H (YN h57 rfl (Pf h57 rfl (Kz K9 (Cd rfl ?_ ?_)))) <;> clear H K9
  ·intro h68 a H
   try have p68:=dT h68
   exact kP H (SR fun _ cK=>ak cK rfl (LR results32 rfl fun H=>H.hp.eP ⟨_,_,rfl,rfl,by omega,by omega⟩))
  intro h68 a H
  try have p68:=dF h68
  refine kP H (Kc K8 (SR fun _ dw=>ak dw rfl (SB ?_)));clear H K8 dw;intro a H;skip;refine eT (ι:=Nat × Int × GH) (Tc:=[(0,_),(1,_),(2,_),(7,_)]) (Lc:=[]) (fun gh=>[(8,vi gh.1)]) (fun gh=>[zX bl gh.2.1]) (fun gh=>gh.2.2) (fun gh=>gh.1≤l[k].rows.length∧lf66 - (ig (l[k].rows.take gh.1):Int)≤gh.2.1∧gh.2.1≤lf66∧(∀ b o,G b=some o→gh.2.2 b=some o)∧aI gh.2.2 b (o+k*11+10)=some (.slice rA l[k].rows.length rc)) (fun gh=>l[k].rows.length - gh.1) ((0,lf66,Zm)) (by exact (H).sub ⟨rfl,rfl,rfl,rfl,rfl,aD⟩) ?_ ?_
  ·exact ⟨by omega,by show lf66 - ((0:Nat):Int)≤lf66;omega,Int.le_refl _,afL,Qb⟩
  clear H;intro gh a w hI H;obtain ⟨j,lf2,g2⟩:=gh;dsimp only at hI H;obtain ⟨hj,hlo2,hhi2,oL,q10⟩:=hI;have alG:=YQ l[k].rows j;dsimp only [lca,bg] at H;refine kP H (SQ fun _ bY=>SR fun _ dz=>Rm rfl (Rm rfl (Rm rfl (Ri gV dM rfl rfl (Rf qN rfl (Rg rz rfl (by assumption) ?_))))));clear H;intro a H;refine kH H (Rl mU rfl (Rc rfl (Kz dz (Cd rfl ?_ ?_)))) <;> clear H dz
  ·intro Al a H
   try have PY:=dT Al
   have hj2:j < l[k].rows.length:=by omega
   obtain ⟨b2,o2,uA,un,uc,eA,en,ec,zA,zn,zc,cA,cn,cc,rfl,hrow2,AO,hcl⟩:=Im hj2 (hrw.mono oL).at_;have hcn:=hcl.len;rw [bQ] at hcn;subst hcn;have t5:aI g2 b2 (o2+j*6+5)=some (.slice cA l[k].rows[j].cells.length cc):=hrow2 5 _ rfl;have alE:=Bz l[k].rows[j];have alI:=akD hj2;have alK:=YQ l[k].rows (j+1);refine kP H (Kc bY (SQ fun _ fC=>SB (SQ fun _ dN=>SR fun _ fQ=>Rm rfl (Rm rfl (Ri gV dM rfl rfl (Rf qN rfl (Rg rz rfl (by assumption) ?_)))))));clear H bY;intro a H;refine kH H (Rm rfl (Ri mU kE rfl rfl (Rf vV rfl (Rg wI rfl (by assumption) ?_))));clear H;intro a H;refine kH H (Rl qH rfl (Rc rfl (Kz fQ (Cd rfl ?_ ?_)))) <;> clear H fQ
   ·intro NS a H
    try have p89:=dT NS
    exact kP H (SR fun _ iq=>ak iq rfl (LR results32 rfl fun H=>H.hp.eP ⟨_,_,rfl,rfl,by omega,by omega⟩))
   intro NS a H
   try have p89:=dF NS
   refine kP H (Kc dN (SR fun _ jA=>ak jA rfl (SB ?_)));clear H dN jA;intro a H;skip;refine eT (ι:=Nat × Int × GH) (Tc:=[(0,_),(1,_),(2,_),(7,_),(8,_)]) (Lc:=[]) (fun gh=>[(9,vi gh.1)]) (fun gh=>[zX bl gh.2.1]) (fun gh=>gh.2.2) (fun gh=>gh.1≤l[k].rows[j].cells.length∧lf2 - (jm (l[k].rows[j].cells.take gh.1):Int)≤gh.2.1∧gh.2.1≤lf2∧(∀ b o,G b=some o→gh.2.2 b=some o)∧aI gh.2.2 b (o+k*11+10)=some (.slice (some ⟨b2,o2,none⟩) l[k].rows.length rc)∧aI gh.2.2 b2 (o2+j*6+5)=some (.slice cA l[k].rows[j].cells.length cc)∧(∀ b o,g2 b=some o→gh.2.2 b=some o)) (fun gh=>l[k].rows[j].cells.length - gh.1) ((0,lf2,g2)) (by exact (H).sub ⟨rfl,rfl,rfl,rfl,rfl,rfl,aD⟩) ?_ ?_
   ·exact ⟨by omega,by show lf2 - ((0:Nat):Int)≤lf2;omega,Int.le_refl _,oL,q10,t5,fun _ _ h=>h⟩
   clear H;intro gh a w hI H;obtain ⟨m,lf3,g3⟩:=gh;dsimp only at hI H;obtain ⟨hm,hlo3,hhi3,Az,s10,s5,U9⟩:=hI;have alH:=YG l[k].rows[j].cells m;dsimp only [lca,bg] at H;refine kP H (SQ fun _ jo=>SR fun _ jc=>Rm rfl (Rm rfl (Rm rfl (Ri gV dM rfl rfl (Rf qN rfl (Rg rz rfl (by assumption) ?_))))));clear H;intro a H;refine kH H (Rm rfl (Ri mU kE rfl rfl (Rf vV rfl (Rg wI rfl (by assumption) ?_))));clear H;intro a H;refine kH H (Rl qH rfl (Rc rfl (Kz jc (Cd rfl ?_ ?_)))) <;> clear H jc
   ·intro BS a H
    try have WX:=dT BS
    have hm2:m < l[k].rows[j].cells.length:=by omega
    obtain ⟨b3,o3,x1,x2,x3,x4,x5,x6,x7,x8,x9,gA,gn,gc,rfl,hrow3,hch,hcf⟩:=Gm hm2 (hcl.mono U9).at_;have u6:aI g3 b3 (o3+m*7+6)=some (.slice gA gn gc):=hrow3 6 _ rfl;have alF:=Bw l[k].rows[j].cells[m];have alJ:=akz hm2;have alL:=YG l[k].rows[j].cells (m+1);refine kP H (Kc jo (SQ fun _ jG=>SB (SR fun _ jM=>Rm rfl (Rk rfl (Ro aC 0 rfl (Rs rfl (Rk rfl ?_)))))));clear H jo;intro a H;refine bH aC 0 (vs:=[_]) _ H wn rfl rfl rfl rfl rfl rfl rfl rfl ?_;clear H;intro w H;dsimp only [List.set,setRow] at H;refine jM _ _ ?_;clear jM;refine kP H (SR fun _ iI=>Rm rfl (Rk rfl (Ro aC 0 rfl (Rc rfl (Rm rfl (Sp 113 rfl ?_ ?_)))))) <;> clear H
    ·intro kL a H
     try have ahW:=dT kL
     exact kH H (aX kL rfl (aX kL rfl (aX kL rfl (aX kL rfl (aX kL rfl (aX kL rfl (Pt kL rfl (Kz iI (Ct rfl rfl (SR fun _ lU=>ak lU rfl (LR results32 rfl fun H=>H.hp.eP ⟨_,_,rfl,rfl,by omega,by omega⟩)))))))))))
    intro kL a H
    try have ahW:=dF kL
    refine kH H (YM kL rfl (YM kL rfl (YI gV dM kL rfl rfl (YF qN kL rfl (YR rz kL rfl (by assumption) ?_)))));clear H;intro a H;refine kH H (YM kL rfl (YI mU kE kL rfl rfl (YF vV kL rfl (YR wI kL rfl (by assumption) ?_))));clear H;intro a H;refine kH H (YM kL rfl (YI qH mF kL rfl rfl (YF ET kL rfl (YR iD kL rfl (by assumption) ?_))));clear H;intro a H;refine kH H (YM kL rfl ?_);clear H;intro a H;refine mR _ H (wg H rfl rfl kL) rfl rfl rfl (by omega) (by omega) rfl ?_;clear H;intro a H;refine kH H (YM kL rfl ?_);clear H;intro a H;refine gU Nj (Li:=[]) (L:=[zX bl _]) H (wg H rfl rfl kL) rfl (ih _ _ l[k].rows[j].cells[m].flow _ (Fu - 1) _ bl (Hp.owns (Li:=[]) H.hp) hcf (by omega) (by omega) (by omega) (by omega) (by omega)) rfl ?_;clear H;rintro v130 Y6 akH a w ⟨akJ,ahg,rfl,rfl,alj,alg⟩ J5 H;dsimp only [List.nil_append] at H;refine kH H (YN kL rfl (Pf kL rfl (Kz iI (Cd rfl ?_ ?_)))) <;> clear H iI
    ·intro BU a H
     try have WY:=dT BU
     exact kP H (SR fun _ mJ=>ak mJ rfl (LR results32 rfl fun H=>H.hp.eP ⟨_,_,rfl,rfl,by omega,by omega⟩))
    intro BU a H
    try have WY:=dF BU
    refine kP H (Kc jG (SC (Rm rfl (Rd rfl (Ra rfl ?_)))));clear H jG;intro a H;refine aH ?_;refine cu ((m+1,ahg,Y6)) (by exact (H).sub ⟨rfl,rfl,rfl,rfl,rfl,rfl,aD⟩) ?_ ?_
    ·(try dsimp only);exact ⟨by omega,by omega,by omega,fun b o h=>J5 b o (Az b o h),aK J5 s10,aK J5 s5,fun b o h=>J5 b o (U9 b o h)⟩
    first|omega|(dsimp only;omega)
   intro BS a H
   try have WX:=dF BS
   refine dU ?_;refine fC _ _ ?_;clear fC;refine kP H (SC (Rm rfl (Rd rfl (Ra rfl ?_))));clear H;intro a H;refine aH ?_;refine cu ((j+1,lf3,g3)) (by exact (H).sub ⟨rfl,rfl,rfl,rfl,rfl,aD⟩) ?_ ?_
   ·(try dsimp only);exact ⟨by omega,by omega,by omega,Az,s10⟩
   first|omega|(dsimp only;omega)
  intro Al a H
  try have PY:=dF Al
  refine dU ?_;refine K6 _ _ ?_;clear K6;refine kP H (SC (Rm rfl (Rd rfl (Ra rfl ?_))));clear H;intro a H;refine aH ?_;refine cu ((k+1,lf2,g2)) (by exact (H).sub ⟨rfl,rfl,rfl,rfl,aD⟩) ?_ ?_
  ·(try dsimp only);exact ⟨by omega,by omega,by omega,oL⟩
  first|omega|(dsimp only;omega)
 intro gy a H
 try have qC:=dF gy
 refine dU ?_;refine K2 _ _ ?_;clear K2;exact kP H (SR fun _ nH=>ak nH rfl (LR results32 rfl fun H=>H.hp.eP ⟨_,_,rfl,rfl,by omega,by omega⟩))
theorem XP:∀ n:Nat,n≤4294967296→Mt n
 | 0,_=>fun _ _ _ _ _ _ _ _ _ hz=>absurd hz (Nat.not_lt_zero _)
 | n+1,h=>ajB (XP n (by omega)) (by omega)
theorem ajA (G:GH) (w0:World) (hG:Hold G w0) (D:mI) (d:vL) (hR:CV G D d) (hz:IX d) :
  Calls prog 10 #[D.val] w0 (bE w0 G fun u G'=>∃ b,u=.bool b∧(b=true→lY d=0)):=by
 have DU:=hz.fl;refine eN [(0,_)] func10 rfl ntmps10 rfl rfl hG ?_;intro a H;refine dB (fun _ K1=>?_);refine eU (cs:=[_,_,_,_,_,_,_,_,_,_,_]) H wn rfl rfl rfl ?_;clear H;intro b1 a w hb1 H;refine kH H (ak K1 rfl (SQ fun _ K2=>?_));clear H K1;intro a H;obtain ⟨Ga,hma,hb1',H⟩:=H.dP;have hga:=fun j v hj=>xq hb1' 0 D.cells rfl j v hj;have hgs:=fun j v hj=>xq hb1' 7 [eD D.s1,eD D.s2,eD D.s3,eD D.s4] rfl j v hj
 have hgr:aI Ga b1 6=some (eD D.r):=by unfold aI;rw [hb1'];rfl
 have hgf:aI Ga b1 0=some (eD D.f):=by unfold aI;rw [hb1'];rfl
 replace hR:=hR.mono hma;refine pE ?_;refine eB aC H wn rfl ?_;clear H;intro b3 a w hb3 H;refine bH aC 0 (vs:=[_]) _ H wn rfl rfl rfl rfl rfl rfl rfl rfl ?_;clear H;intro w H;dsimp only [List.set,setRow] at H;refine kH H (Kn K2 (SR fun _ K3=>Rf xk rfl ?_));clear H K2;intro a H;refine bD LD (cs:=[eD D.s1,eD D.s2,eD D.s3,eD D.s4]) H wn rfl rfl (fun j v hj=>H.hp.aI (hgs j v hj)) rfl ?_;clear H;intro a H;refine eB LD H wn rfl ?_;clear H;intro b4 a w hb4 H;refine bH LD 0 (vs:=[_,_,_,_]) _ H wn rfl rfl rfl rfl rfl rfl rfl rfl ?_;clear H;intro w H;dsimp only [List.set,setRow] at H;refine K3 _ _ ?_;clear K3;refine kP H (SR fun _ K4=>aP Ad uI 0 rfl rfl (Rl tF rfl (Rc rfl (Rm rfl (Sp 11 rfl ?_ ?_))))) <;> clear H
 ·intro h11 a H
  try have nR:=dT h11
  refine kH H (YF Nw h11 rfl (YO sD 0 h11 rfl (YL nE h11 rfl (YC h11 rfl (Pt h11 rfl (Rm rfl (Sp 17 rfl ?_ ?_))))))) <;> clear H
  ·intro dV a H
   try have mE:=dT dV
   refine kH H (YF Ny dV rfl (YO Eo 0 dV rfl (YL Er dV rfl (YC dV rfl (Pt dV rfl (Rm rfl (Sp 23 rfl ?_ ?_))))))) <;> clear H
   ·intro h23 a H
    try have rU:=dT h23
    refine kH H (YF Uu h23 rfl (YO wG 0 h23 rfl (YL yx h23 rfl (YC h23 rfl (Pt h23 rfl (Rm rfl (Sp 29 rfl ?_ ?_))))))) <;> clear H
    ·intro jW a H
     try have p29:=dT jW
     refine kH H (YF Nz jW rfl (YR CB jW rfl (by assumption) ?_));clear H;intro a H;refine kH H (YL CG jW rfl (YC jW rfl (Pt jW rfl (Rm rfl (Sp 35 rfl ?_ ?_))))) <;> clear H
     ·intro ni a H
      try have p35:=dT ni
      refine kH H (YF Dp ni rfl (YR iD ni rfl (by assumption) ?_));clear H;intro a H;refine gU Nj (Li:=[_]) (L:=[zX b3 150]) H (wg H rfl rfl ni) rfl (XP 4294967296 (bU _) _ _ d.flow _ 12 150 b3 (Hp.owns (Li:=[_]) H.hp) hR.fl (by omega) (by decide) (by decide) (by decide) (by omega)) rfl ?_;clear H;rintro v38 Me L38 a w ⟨b38,lf38,rfl,rfl,-,-⟩ Fa H;refine kH H (Pt ni rfl (Rm rfl (Sp 40 rfl ?_ ?_))) <;> clear H
      ·intro lD a H
       try have p40:=dT lD
       refine bD ru (cs:=D.cells) H (wg H rfl rfl lD) rfl rfl (fun j v hj=>H.hp.aI (aK Fa (hga j v hj))) rfl ?_;clear H;intro a H;refine s_call acT H (wg H rfl rfl lD) rfl (aaS _ _ H.ro D d (hR.mono Fa) hz) rfl ?_;clear H;rintro v42 Mg a w rfl alo H;exact kH H (YC lD rfl (Pt lD rfl (ak K4 rfl (LR results10 rfl fun H=>H.rt ⟨_,rfl,fun h=>by first|assumption|(simp_all;done)⟩))))
      intro lD a H
      try have p40:=dF lD
      exact kH H (aX lD rfl (Pf lD rfl (ak K4 rfl (LR results10 rfl fun H=>H.rt ⟨_,rfl,fun h=>by first|assumption|(simp_all;done)⟩))))
     intro ni a H
     try have p35:=dF ni
     exact kH H (aX ni rfl (Pf ni rfl (Rm rfl (aX rfl rfl (Pf rfl rfl (ak K4 rfl (LR results10 rfl fun H=>H.rt ⟨_,rfl,fun h=>by first|assumption|(simp_all;done)⟩)))))))
    intro jW a H
    try have p29:=dF jW
    exact kH H (aQ jW rfl (aQ jW rfl (Pf jW rfl (Rm rfl (aX rfl rfl (Pf rfl rfl (Rm rfl (aX rfl rfl (Pf rfl rfl (ak K4 rfl (LR results10 rfl fun H=>H.rt ⟨_,rfl,fun h=>by first|assumption|(simp_all;done)⟩)))))))))))
   intro h23 a H
   try have rU:=dF h23
   exact kH H (aQ h23 rfl (aQ h23 rfl (Pf h23 rfl (Rm rfl (aQ rfl rfl (aQ rfl rfl (Pf rfl rfl (Rm rfl (aX rfl rfl (Pf rfl rfl (Rm rfl (aX rfl rfl (Pf rfl rfl (ak K4 rfl (LR results10 rfl fun H=>H.rt ⟨_,rfl,fun h=>by first|assumption|(simp_all;done)⟩)))))))))))))))
  intro dV a H
  try have mE:=dF dV
  exact kH H (aQ dV rfl (aQ dV rfl (Pf dV rfl (Rm rfl (aQ rfl rfl (aQ rfl rfl (Pf rfl rfl (Rm rfl (aQ rfl rfl (aQ rfl rfl (Pf rfl rfl (Rm rfl (aX rfl rfl (Pf rfl rfl (Rm rfl (aX rfl rfl (Pf rfl rfl (ak K4 rfl (LR results10 rfl fun H=>H.rt ⟨_,rfl,fun h=>by first|assumption|(simp_all;done)⟩)))))))))))))))))))
 intro h11 a H
 try have nR:=dF h11
 exact kH H (aQ h11 rfl (aQ h11 rfl (Pf h11 rfl (Rm rfl (aQ rfl rfl (aQ rfl rfl (Pf rfl rfl (Rm rfl (aQ rfl rfl (aQ rfl rfl (Pf rfl rfl (Rm rfl (aQ rfl rfl (aQ rfl rfl (Pf rfl rfl (Rm rfl (aX rfl rfl (Pf rfl rfl (Rm rfl (aX rfl rfl (Pf rfl rfl (ak K4 rfl (LR results10 rfl fun H=>H.rt ⟨_,rfl,fun h=>by first|assumption|(simp_all;done)⟩)))))))))))))))))))))))
end
section
open Go.RowKit
theorem WS:∀ {l:List aA} {x:aA},eY l→x∈l→jU x=0
 | y :: l,x,h,hx=>by
  obtain ⟨C,body,note,t,s,s',e⟩:=h;rw [jh] at e;obtain ⟨e1,e⟩:=oq e
  rcases kZ.1 hx with rfl|hx
  ·have e2:eH C body note t x s=(0,(eH C body note t x s).2):=Prod.ext e1 rfl
   generalize (eH C body note t x s).2=s2 at e2
   rw [Kq] at e2;exact (oq e2).1
  exact WS ⟨C,body,note,t,_,_,e⟩ hx
def L8 (t:Nat) (l:List aA) (a:aY):Prop:=∃ (p:List aA) (x:aA) (q:List aA),l=p++x :: q∧x.kind=8∧x.id=a.id∧x.code=a.code∧x.text=a.name∧a.at_=((t+nW p:Nat):Int)
def qJ (L:List iV) (a:aY):Prop:=∃ F∈L,F.id=a.flow∧eY F.items∧L8 0 F.items a
theorem qJ.left {L M:List iV} {a:aY} (h:qJ L a):qJ (L++M) a:=by obtain ⟨F,h1,h2⟩:=h;exact ⟨F,List.mem_append_left _ h1,h2⟩
theorem qJ.right {L M:List iV} {a:aY} (h:qJ M a):qJ (L++M) a:=by obtain ⟨F,h1,h2⟩:=h;exact ⟨F,List.mem_append_right _ h1,h2⟩
theorem qJ.cons {F:iV} {M:List iV} {a:aY} (h:qJ M a):qJ (F :: M) a:=qJ.right (L:=[F]) h
mutual
theorem aaf (g:Int) (t:Nat) (note:Bool) (tt:Int) (a:aY):∀ x:aA,wL x→a∈wO g t x→(g=a.flow∧x.kind=8∧x.id=a.id∧x.code=a.code∧x.text=a.name∧a.at_=(t:Int))∨qJ (yE note tt x) a
 | .mk k c i tx h fl r,hx,ha=>by
  have hf:=Jq i 0 true tt a fl hx.fl;have hr:=Sw note tt a r hx.rw;have hok:=hx.fl;rw [wO] at ha;rw [yE]
  rcases kg.1 ha with ha|ha
  ·by_cases h8:k=8
   ·rw [au h8,rH] at ha;subst ha;exact .inl ⟨rfl,h8,rfl,rfl,rfl,rfl⟩
   rw [ah h8] at ha;cases ha
  refine .inr ?_
  rcases kg.1 ha with ha|ha
  ·by_cases h6:k=6
   ·rw [au h6] at ha ⊢
    rcases hf ha with ⟨e,h2⟩|h2
    ·exact ⟨_,gD,e,hok,h2⟩
    exact h2.cons
   rw [ah h6] at ha;cases ha
  by_cases h7:k=7
  ·rw [au h7] at ha;rw [ah (by omega),au h7];exact hr ha
  rw [ah h7] at ha;cases ha
theorem Jq (g:Int) (t:Nat) (note:Bool) (tt:Int) (a:aY):∀ l:List aA,eY l→a∈dL g t l→(g=a.flow∧L8 t l a)∨qJ (jl note tt l) a
 | [],_,ha=>by rw [dL] at ha;cases ha
 | x :: l,hl,ha=>by
  obtain ⟨hx,hl⟩:=hl.head;have h1:=aaf g t note tt a x hx;have h2:=Jq g (t+n1 x) note tt a l hl;rw [dL] at ha;rw [jl]
  rcases kg.1 ha with ha|ha
  ·rcases h1 ha with ⟨e,h3,h4,h5,h6,h7⟩|h3
   ·exact .inl ⟨e,[],x,l,rfl,h3,h4,h5,h6,by rw [h7];rfl⟩
   exact .inr h3.left
  rcases h2 ha with ⟨e,p,y,q,h3,h4,h5,h6,h7,h8⟩|h3
  ·refine .inl ⟨e,x :: p,y,q,by rw [h3];rfl,h4,h5,h6,h7,?_⟩;rw [h8,hx.n1,nW,Nat.add_assoc]
  exact .inr h3.right
theorem Sw (note:Bool) (tt:Int) (a:aY):∀ l:List bO,(∀ r∈l,∀ c∈r.cells,eY c.flow)→a∈kY l→qJ (qI note tt l) a
 | [],_,ha=>by rw [kY] at ha;cases ha
 | x :: l,hl,ha=>by
  rw [kY] at ha;rw [qI]
  rcases kg.1 ha with ha|ha
  ·exact (aag note tt a x (hl x gD) ha).left
  exact (Sw note tt a l (fun r hr=>hl r (jN _ hr)) ha).right
theorem aag (note:Bool) (tt:Int) (a:aY):∀ x:bO,(∀ c∈x.cells,eY c.flow)→a∈wQ x→qJ (yF note tt x) a
 | .mk h cs,hx,ha=>by
  rw [wQ] at ha;rw [yF];exact Sv note tt a cs hx ha
theorem Sv (note:Bool) (tt:Int) (a:aY):∀ l:List bM,(∀ c∈l,eY c.flow)→a∈nJ l→qJ (rD note tt l) a
 | [],_,ha=>by rw [nJ] at ha;cases ha
 | x :: l,hl,ha=>by
  rw [nJ] at ha;rw [rD]
  rcases kg.1 ha with ha|ha
  ·exact (aae note tt a x (hl x gD) ha).left
  exact (Sv note tt a l (fun c hc=>hl c (jN _ hc)) ha).right
theorem aae (note:Bool) (tt:Int) (a:aY):∀ x:bM,eY x.flow→a∈wN x→qJ (yD note tt x) a
 | .mk i h fl,hx,ha=>by
  rw [wN] at ha;rw [yD];have hok:eY fl:=hx
  rcases Jq i 0 note (tt+1) a fl hok ha with ⟨e,h2⟩|h2
  ·exact ⟨_,gD,e,hok,h2⟩
  exact h2.cons
end
theorem Z5 {l:List aA} (h:wK l) {a:aY} (ha:a∈dL 0 0 l):∃ L,yY l a.flow=some L∧eY L∧L8 0 L a:=by
 have h1:qJ (BR l) a:=by
  rcases Jq 0 0 false 0 a l h.ok ha with ⟨e,h2⟩|h2
  ·exact ⟨_,gD,e,h.ok,h2⟩
  exact h2.cons
 obtain ⟨F,hF,e,h2,h3⟩:=h1;refine ⟨F.items,?_,h2,h3⟩
 unfold yY
 rw [← e,aes h.ids hF]
 rfl
end
section
open Go.RowKit
def nA:Nat→List ByteArray→List MapEntry
 | _,[]=>[]
 | i,s :: r=>⟨.string s,.bool true,i⟩ :: nA (i+1) r
theorem Ws (x:ByteArray):∀ (i:Nat) (l:List ByteArray),nA i (l++[x])=nA i l++[⟨.string x,.bool true,i+l.length⟩]
 | _,[]=>rfl
 | i,k :: r=>by
  rw [mW,nA,Ws x (i+1) r,nA,mW,nL,show i+1+r.length=i+(r.length+1) by omega]
theorem PD:∀ (i n:Nat) (l:List ByteArray),(nA i l)[n]?=(l[n]?).map fun s=>⟨.string s,.bool true,i+n⟩
 | _,_,[]=>rfl
 | i,0,s :: r=>rfl
 | i,n+1,s :: r=>by rw [nA,List.getElem?_cons_succ,List.getElem?_cons_succ,PD (i+1) n r,show i+1+n=i+(n+1) by omega]
theorem NA (s:ByteArray):∀ (i j:Nat) (l:List ByteArray),∃ an,Instr.findNow .string (.string s) (nA i l) j=some an∧((s∈l∧∃ n,an=some (j+n,.bool true)∧l[n]?=some s)∨(s∉l∧an=none))
 | _,_,[]=>⟨none,rfl,.inr ⟨by simp,rfl⟩⟩
 | i,j,k :: r=>by
  by_cases e:k=s
  ·subst e
   have hb:(k == k)=true:=(MapKept.bytes_beq k k).2 rfl
   exact ⟨some (j,.bool true),by simp only [nA,Instr.findNow,Instr.sameNow,hb,au],.inl ⟨gD,0,rfl,rfl⟩⟩
  ·have hb:(s == k)=false:=by
    cases h:(s == k) with
    | false=>rfl
    | true=>exact absurd ((MapKept.bytes_beq s k).1 h).symm e
   obtain ⟨an,h1,h2⟩:=NA s (i+1) (j+1) r
   refine ⟨an,by simpa only [nA,Instr.findNow,Instr.sameNow,hb] using h1,?_⟩
   rcases h2 with ⟨h3,n,h4,h5⟩|⟨h3,h4⟩
   ·exact .inl ⟨jN _ h3,n+1,by rw [h4,show j+1+n=j+(n+1) by omega],h5⟩
   ·exact .inr ⟨fun h=>(kZ.1 h).elim (fun h=>e h.symm) h3,h4⟩
abbrev lH (l:List ByteArray):Obj:=.map (nA 0 l).toArray l.length
def hasB (l:List ByteArray) (s:ByteArray):Bool:=l.any fun x=>decide (x=s)
theorem U1 {l:List ByteArray} {s:ByteArray} (h:s∈l):hasB l s=true:=List.any_eq_true.2 ⟨s,h,iQ rfl⟩
theorem U0 {l:List ByteArray} {s:ByteArray} (h:s∉l):hasB l s=false:=by
 cases e:hasB l s with
 | false=>rfl
 | true=>obtain ⟨x,hx,hd⟩:=List.any_eq_true.1 e;exact absurd (om hd ▸ hx) h
def Dc (l:List ByteArray) (s:ByteArray):List ByteArray:=if hasB l s=true then l else l++[s]
theorem aff (l:List ByteArray) (x s:ByteArray):hasB (l++[x]) s=(hasB l s || decide (x=s)):=by
 unfold hasB;rw [List.any_append];simp
theorem ZR (l:List ByteArray) (x s:ByteArray):hasB (Dc l x) s=(hasB l s || decide (x=s)):=by
 unfold Dc
 split
 ·rename_i h
  by_cases e:x=s
  ·subst e;rw [h];rfl
  ·rw [gL e,Bool.or_false]
 ·exact aff l x s
section
variable {N:Nat} {D:List Deferred} {w0:World} {F:Nat→Prop} {G0 G:GH} {L:OL} {T:List (Nat × aj)}
variable {r:Option Nat} {P:Program} {ops:Array Oper} {Q:Exit→Act→World→Prop} {rest:List Oper} {a:Act} {w:World}
variable {d:Nat} {ty:TypeId} {pos:String} {aN:Array Edge} {g:Option (Nat × Bool)}
theorem aiV {t kt et:TypeId} {x y:Operand} {b:Nat} {l:List ByteArray} {ky:ByteArray} (hm:P.underlying t=some (.map kt et)) (hk:P.underlying kt=some .string) (hz:(P.info? et).map (fun i=>i.zero)=some (some (.bool false))) (H:St N D w0 F G0 G L T a w)
  (hw:Region.wanted ⟨some d,.lookup t x y false,ty,pos,aN,g⟩ (yielded ops a.tmps)=true) (hx:ev T x=some (.map (some b))) (hy:ev T y=some (.string ky)) (hb:w.heap[b]?=some (lH l)) (hd:Nat.blt d N=true)
  (k:∀ a',St N D w0 F G0 G L ((d,.bool (hasB l ky)) :: T) a' w→WL r P ops Q rest a' w):WL r P ops Q (⟨some d,.lookup t x y false,ty,pos,aN,g⟩ :: rest) a w:=by
 obtain ⟨an,hf,han⟩:=NA ky 0 0 l
 obtain ⟨inf,hi1,hi2⟩:=lK.1 hz
 refine fM (v:=.bool (hasB l ky)) (w':=w) hw rfl ?_ (k _ (H.put hd _ H.hp))
 have hkey:MapKept.IsKey .string (.string ky):=by trivial
 have hf2:Instr.findNow .string (.string ky) (nA 0 l).toArray.toList 0=some an:=by simpa using hf
 replace hb:w.heap[b]?=some (.map (nA 0 l).toArray l.length):=hb
 generalize (nA 0 l).toArray=es at hb hf2
 have h1:=MapKept.run_checkKey (P:=P) (w:=w) hk hkey es.isEmpty 9999
 have h2:=MapKept.run_findKey (P:=P) (w:=w) hk hf2
 rcases han with ⟨hm2,n,rfl,-⟩|⟨hm2,rfl⟩
 ·rw [U1 hm2]
  simp [execOp,Instr.lookup,H.ev hx,H.ev hy,bZ,kM hm,MapKept.run_getObj_map hb,h1,h2,Result.andThen]
 ·rw [U0 hm2]
  simp [execOp,Instr.lookup,H.ev hx,H.ev hy,bZ,kM hm,MapKept.run_getObj_map hb,h1,h2,Result.andThen,zeroValue,zx hi1,hi2]
theorem aiY {t kt et:TypeId} {x y z:Operand} {b i:Nat} {l:List ByteArray} {ky:ByteArray} (hm:P.underlying t=some (.map kt et)) (hk:P.underlying kt=some .string) (H:St N D w0 F G0 G L T a w)
  (hw:Region.wanted ⟨none,.mapUpdate t x y z,ty,pos,aN,g⟩ (yielded ops a.tmps)=true) (hx:ev T x=some (.map (some b))) (hy:ev T y=some (.string ky)) (hzv:ev T z=some (.bool true)) (hi:L[i]?=some (b,lH l))
  (k:∀ w',St N D w0 F G0 G (L.set i (b,lH (Dc l ky))) T a w'→WL r P ops Q rest a w'):WL r P ops Q (⟨none,.mapUpdate t x y z,ty,pos,aN,g⟩ :: rest) a w:=by
 obtain ⟨an,hf,han⟩:=NA ky 0 0 l
 rcases han with ⟨hm2,n,rfl,hn⟩|⟨hm2,rfl⟩
 ·have hkey:MapKept.IsKey .string (.string ky):=by trivial
  have hb:w.heap[b]?=some (.map (nA 0 l).toArray l.length):=H.hp.own _ (lg hi)
  have h1:=MapKept.run_checkKey (P:=P) (w:=w) hk hkey false 9999
  have h2:=MapKept.run_findKey (P:=P) (w:=w) (l:=(nA 0 l).toArray.toList) hk (by simpa using hf)
  have h3:=MapKept.run_keyThatStays (P:=P) (w:=w) hkey
  have hg:((nA 0 l).toArray[n]?.map (·.key)).getD (.string ky)=.string ky:=by
   rw [List.getElem?_toArray,PD,hn];rfl
  have hmod:(nA 0 l).toArray.modify n (fun e=>{ e with key:=.string ky,val:=.bool true })=(nA 0 l).toArray:=by
   apply Array.ext_getElem?
   intro j
   rw [Array.getElem?_modify]
   by_cases hij:n=j
   ·subst hij
    rw [au rfl,List.getElem?_toArray,PD,hn];rfl
   ·rw [ah hij]
  have ha:Dc l ky=l:=by unfold Dc;rw [au (U1 hm2)]
  rw [ha] at k
  refine LV (w':={ w with heap:=w.heap.setIfInBounds b (lH l) }) hw rfl ?_ (k _ (H.move (H.hp.upd hi (QK hb))))
  show (execOp a.eval _).run P w=.ok _ { w with heap:=w.heap.setIfInBounds b (.map (nA 0 l).toArray l.length) }
  generalize (nA 0 l).toArray=es at hb h2 hg hmod ⊢
  simp [execOp,Instr.mapUpdate,H.ev hx,H.ev hy,H.ev hzv,bZ,kM hm,MapKept.run_getObj_map hb,h1,h2,hg,h3,hmod,MapKept.run_setObj_map _ hb,Result.andThen]
 ·refine Qp (i:=i) hm hk H hw hx hy hzv hi (by trivial) (by simpa using hf) ?_
  intro w' H'
  have e:(nA 0 l).toArray.push ⟨.string ky,.bool true,l.length⟩=(nA 0 (l++[ky])).toArray:=by
   rw [Ws,List.push_toArray,kR]
  refine k w' ?_
  rw [e] at H'
  unfold Dc
  rw [ah (by rw [U0 hm2];decide),lH,iA]
  exact H'
end
end
section
open Go.RowKit
theorem Yg:prog.underlying 131=some (.map 9 4):=by kernel_rfl
theorem adr:∀ args w,(callFunc 79 args).run prog w=.ok (.enter 79 args) w:=enters func79 rfl (by kernel_rfl)
structure jZ where
 code:Int
 id:Int
 flow:Int
 at_:Int
def jZ.dat (x:jZ):List Dat:=[li x.code,li x.id,li x.flow,li x.at_]
abbrev jZ.cells (x:jZ):List aj:=[vi x.code,vi x.id,vi x.flow,vi x.at_]
theorem aii {G:GH} {x:jZ} {cs:List aj} (h:aZ G x.dat cs):cs=x.cells:=by
 simp only [jZ.dat,aZ,av] at h
 obtain ⟨_,_,rfl,⟨rfl,_⟩,_,_,rfl,⟨rfl,_⟩,_,_,rfl,⟨rfl,_⟩,_,_,rfl,⟨rfl,_⟩,rfl⟩:=h
 rfl
theorem aij (G:GH) (x:jZ):aZ G x.dat x.cells :=
 ⟨_,_,rfl,⟨rfl,rfl⟩,_,_,rfl,⟨rfl,rfl⟩,_,_,rfl,⟨rfl,rfl⟩,_,_,rfl,⟨rfl,rfl⟩,rfl⟩
def Bd (l:List jZ):List aj:=(l.map jZ.cells).flatten
theorem KH (l:List jZ) (x:jZ):Bd (l++[x])=Bd l++x.cells:=by
 unfold Bd
 rw [mZ,List.flatten_append]
 simp
theorem P7 (G:GH):∀ l:List jZ,fE G 4 (l.map jZ.dat) (Bd l)
 | []=>fE.nil
 | x :: l=>by
  have h1:fE G 4 [x.dat] x.cells:=by
   have:=(fE.nil (G:=G) (sz:=4)).snoc (q:=x.dat) (cs:=x.cells) (aij G x) rfl
   simpa using this
  rw [eZ,← List.singleton_append];exact h1.append (P7 G l)
def qz (A:List aY) (k:Nat) (s:ByteArray):Bool:=(A.take k).any fun a=>decide (a.code=1) && (jE A 1 a && decide (a.name=s))
theorem Ed {A:List aY} {k:Nat} (hk:k < A.length) (s:ByteArray):qz A (k+1) s=(qz A k s || (decide (A[k].code=1) && (jE A 1 A[k] && decide (A[k].name=s)))):=by
 unfold qz
 rw [jq hk,List.any_append]
 simp
def kC (A:List aY) (cm:List eO) (nb:Bool) (x:aY):Int :=
 if (!jE A x.code x)=true then 3
 else if x.code=2∨x.code=4 then (if (iU A (x.code - 1) x.id).isSome=true then 0 else 1)
 else if x.code=1∧nb=true then 6
 else if ¬ (iU A (x.code+1) x.id).isSome=true then 2
 else if ¬ ((iU A (x.code+1) x.id).getD mH).flow=x.flow then 4
 else if ((iU A (x.code+1) x.id).getD mH).at_ < x.at_ then 5
 else if x.code=3∧¬ (cm.any fun c=>decide (c.id=x.id))=true then 7 else 0
theorem Xa (A:List aY) (cm:List eO) (nb:Bool) (x:aY):0≤kC A cm nb x∧kC A cm nb x≤7:=by
 unfold kC
 repeat (first|split|omega)
def Cq (A:List aY) (cm:List eO) (k:Nat) (x:aY):List jZ:=if kC A cm (qz A k x.name) x=0 then [] else [⟨kC A cm (qz A k x.name) x,x.id,x.flow,x.at_⟩]
def lS (A:List aY) (cm:List eO):Nat→List jZ
 | 0=>[]
 | k+1=>lS A cm k++(match A[k]? with|none=>[]|some x=>Cq A cm k x)
theorem Xb {A:List aY} {cm:List eO} {k:Nat} (hk:k < A.length):lS A cm (k+1)=lS A cm k++Cq A cm k A[k]:=by
 rw [lS,gY hk]
theorem Il (A:List aY) (cm:List eO):∀ k,(lS A cm k).length≤k
 | 0=>bU _
 | k+1=>by
  have:=Il A cm k;rw [lS,iA]
  cases A[k]? with
  | none=>simp;omega
  | some x=>dsimp only;unfold Cq;split <;> simp <;> omega
def Bc (A:List aY) (c:eO):Bool:=decide (c.parent=0) && !(iU A 3 c.id).isSome
def pW (A:List aY) (l:List eO):List jZ:=(l.filter (Bc A)).map fun c=>⟨8,c.id,0,0⟩
theorem Xe {A:List aY} {l:List eO} {k:Nat} (hk:k < l.length) (h:Bc A l[k]=true):pW A (l.take (k+1))=pW A (l.take k)++[⟨8,l[k].id,0,0⟩]:=by
 unfold pW
 rw [jq hk,List.filter_append,List.filter_cons,au h,mZ];rfl
theorem KJ {A:List aY} {l:List eO} {k:Nat} (hk:k < l.length) (h:Bc A l[k]=false):pW A (l.take (k+1))=pW A (l.take k):=by
 unfold pW
 rw [jq hk,List.filter_append,List.filter_cons,ah (by rw [h];decide),List.filter_nil,mX]
theorem P8 (A:List aY) (l:List eO):(pW A l).length≤l.length:=by
 unfold pW;rw [bQ];exact List.length_filter_le _ _
theorem abj {cm:List eO} {i:Int}:(cm.findIdx? fun c=>decide (c.id=i)).isSome=cm.any fun c=>decide (c.id=i):=by
 rw [List.findIdx?_isSome]
theorem aif {G:GH} {b:Nat} {x:aY} (hb:aI G b 1=some (vi x.id)) (y:eO):uM (.func (.func 79) #[] #[(aJ b 0)]) G y.dat (decide (y.id=x.id)):=by
 intro G1 w0 cs hm hG hr;refine lX (caps:=[(aJ b 0)]) adr ?_;obtain rfl:=MV hr;replace hb:=aK hm hb;refine eN [(0,_),(1,_)] func79 rfl ntmps79 rfl rfl hG ?_;intro a H;refine dB (fun _ K1=>?_);refine eU (cs:=[_,_,_,_,_,_]) H wn rfl rfl rfl ?_;clear H;intro b2 a w hb2 H;refine kH H (ak K1 rfl (SR fun _ K2=>aP Ag aC 0 rfl rfl (Rf nM rfl (Rg aC rfl (by assumption) ?_))));clear H K1;intro a H;exact kH H (Rc rfl (ak K2 rfl (LR results79 rfl fun H=>H.rt rfl)))
set_option maxHeartbeats 4000000 in
theorem aip (G:GH) (w0:World) (D:mI) (A:List aY) (cm:List eO) (x:aY) (bm bn:Nat) (acc:List ((Int × Int) × aj)) (nm:List ByteArray) (Lx:OL) (hO:gX G ((bn,lH nm) :: Lx) w0) (hcm:av G (.sl 6 (cm.map eO.dat)) (eD D.s3)) (sQ:G bm=some (Bb acc)) (hfm:tK acc A) (hx:x∈A) (hc:1≤x.code∧x.code≤4) :
  Calls prog 52 #[D.val,.map (some bm),.map (some bn),x.val] w0 (gH w0 G ((bn,lH nm) :: Lx) (fun u _ L'=>L'=(bn,lH nm) :: Lx∧u=vi (kC A cm (hasB nm x.name) x))):=by
 refine jO (N:=98) (T:=[(0,_),(1,_),(2,_),(3,_)]) func52 rfl ntmps52 rfl rfl hO ?_;intro a H;refine dB (fun _ K1=>?_);refine eU (cs:=[_,_,_,_,_,_,_,_,_,_,_]) H wn rfl rfl rfl ?_;clear H;intro b4 a w hb4 H;refine eU (cs:=[_,_,_,_,_]) H wn rfl rfl rfl ?_;clear H;intro b7 a w Ce H;refine kH H (Ra rfl ?_);clear H;intro a H;obtain ⟨Ga,hma,afw,H⟩:=H.dP;obtain ⟨Gb,hmb,uZ,H⟩:=H.dP
 have hgd:aI Gb b4 9=some (eD D.s3):=by unfold aI;rw [uZ];rfl
 have hgx:∀ j v,x.cells[j]?=some v→aI Gb b7 (0+j)=some v:=fun j v hj=>aK hmb (xq afw 0 x.cells rfl j v hj);have hx0:aI Gb b7 0=some (vi x.code):=hgx 0 _ rfl;have hx1:aI Gb b7 1=some (vi x.id):=hgx 1 _ rfl;have hx2:aI Gb b7 2=some (.string x.name):=hgx 2 _ rfl;have hx3:aI Gb b7 3=some (vi x.flow):=hgx 3 _ rfl;have hx4:aI Gb b7 4=some (vi x.at_):=hgx 4 _ rfl;replace hcm:=(hcm.mono hma).mono hmb;replace sQ:=hmb _ _ (hma _ _ sQ);refine K1 _ _ ?_;clear K1;refine pF (ι:=Bool) (Tc:=[(1,_),(2,_),(4,_),(7,_)]) (Lc:=[(_,_)]) (fun gh=>[(9,.bool gh)]) (fun gh=>[]++Lx) (fun gh=>Gb) (fun gh=>gh=decide (x.code=1∨x.code=3)) (by exact (H).sub ⟨rfl,rfl,rfl,rfl,aD⟩) ?_ ?_
 ·skip;refine kP H (SC (Rf jr rfl (Rg aC rfl hx0 (Rc rfl (Rm rfl (Sp 16 rfl ?_ ?_)))))) <;> clear H
  ·intro h16 a H
   try have p16:=dT h16
   refine kH H (aX h16 rfl (Pt h16 rfl (Ra rfl ?_)));clear H;intro a H;refine aH ?_;refine ⟨true,by exact (H).sub ⟨rfl,rfl,rfl,rfl,rfl,aD⟩,?_⟩
   simp [p16]
  intro h16 a H
  try have p16:=dF h16
  refine kH H (YF jr h16 rfl (YR aC h16 rfl hx0 (YC h16 rfl (Pf h16 rfl (Ra rfl ?_)))));clear H;intro a H;refine aH ?_;refine ⟨(decide (x.code=3)),by exact (H).sub ⟨rfl,rfl,rfl,rfl,rfl,aD⟩,?_⟩
  simp [p16]
 clear H;intro gh a w hI H;obtain ⟨st,hgh⟩:∃ x,x=gh:=⟨_,rfl⟩;subst hgh;have hst:=hI;dsimp only [lca,bg] at H;refine bA (fun _ K2=>?_);skip;refine kP H (SC (Rf jr rfl (Rg aC rfl hx0 (Rs rfl (aU K2 rfl (SQ fun _ K3=>SR fun _ K4=>Rm rfl (Kz K4 (Cd rfl ?_ ?_)))))))) <;> clear H K2 K4
 ·intro dD a H
  try have jS:=dT dD
  have alc:x.code=1∨x.code=3:=om (hst ▸ dD);obtain ⟨ot,hot⟩:∃ ot,ot=x.code+1:=⟨_,rfl⟩;refine kP H (SC (Rf jr rfl (Rg aC rfl hx0 (Rd rfl ?_))));clear H;intro a H;rw [← hot] at H;refine kH H (aU K3 rfl (SR fun _ K5=>Rm rfl (Rm rfl (Rf nM rfl (Rg aC rfl hx1 ?_)))));clear H K3;intro a H;refine iT Bo [_,_] H wn rfl rfl rfl rfl ?_;clear H;intro a H;refine Iq (ky:=(ot,x.id)) (zv:=mH.val) (l:=acc) zL yS (by kernel_rfl) H wn rfl rfl (H.ro _ _ sQ) rfl ?_;clear H;intro a H;rw [AZ hfm,show (lG (ot,x.id) acc).isSome=(iU A ot x.id).isSome by rw [hfm,Option.isSome_map]] at H;obtain ⟨E,hE⟩:∃ E,E=iU A ot x.id:=⟨_,rfl⟩;dsimp only at H;rw [← hE] at H;obtain ⟨q,hq⟩:∃ q,q=E.getD mH:=⟨_,rfl⟩;rw [← hq] at H;rw [hot] at hE;have hqe:(E.getD mH)=q:=hq.symm;refine kH H (Rm rfl ?_);clear H;intro a H;(iterate 2 refine kN H wn rfl rfl rfl ?_;clear H;intro a H);refine eB gq H wn rfl ?_;clear H;intro b11 a w Dx H;refine bH gq 0 (vs:=[_,_,_,_,_]) _ H wn rfl rfl rfl rfl rfl rfl rfl rfl ?_;clear H;intro w H;dsimp only [List.set,setRow] at H;refine kH H (ak K5 rfl (SQ fun _ K6=>SB (SQ fun _ K7=>?_)));clear H K5;intro a H;refine dI hmx [[],[],[1],[],[3],(ra 1 4),(ra 0 6),[],(ra 0 8),(ra 0 9)] [] (by kernel_rfl) [_,_,_,_,_,.agg #[vi x.code,vi x.id],((iU A x.code x.id).getD mH).val,x.val,.bool (!jE A x.code x),_] H (aF (Z0 rfl (Rm rfl)) (Z0 rfl (Rf jr rfl)) (X1 1 39 rfl fun hG=>Rg aC rfl (aK hG hx0)) (Z0 rfl (Rf nM rfl)) (aF (X1 3 41 rfl fun hG=>Rg aC rfl (aK hG hx1)) ?_ ?_ ?_ (aS ?_ (aS (Z1 8 46 rfl (Ra rfl)) bX)))) ?_
  ·refine dG 2 40 4 42 rfl rfl fun _ a w G1 hG HT H fin=>?_;refine iT Bo [_,_] H wn rfl rfl rfl rfl ?_;clear H;intro a H;exact fin H iJ rfl
  ·refine dG 0 38 5 43 rfl rfl fun _ a w G1 hG HT H fin=>?_;refine KY (ky:=(x.code,x.id)) (zv:=mH.val) (l:=acc) zL yS (by kernel_rfl) H wn rfl rfl (H.ro _ _ (hG _ _ sQ)) rfl ?_;clear H;intro a H;rw [AZ hfm] at H;exact fin H iJ rfl
  ·refine wM rfl fun _ a w G1 hG HT H fin=>?_;refine bD gq (cs:=x.cells) H wn rfl rfl (fun j v hj=>H.hp.aI (aK hG (hgx j v hj))) rfl ?_;clear H;intro a H;exact fin H iJ rfl
  ·refine dG 6 44 7 45 rfl rfl fun _ a w G1 hG HT H fin=>?_;refine Lb JE H wn rfl rfl rfl rfl ?_;clear H;intro a H;rw [Jk] at H;exact fin H iJ (aG (Jl hfm (fun h=>h rfl) hx))
  clear H;intro a w G gJ H hv;have H:=H.aR (hv 9 37 rfl rfl) rfl;clear hv;refine aH ⟨rfl,?_⟩;refine K7 _ _ ?_;clear K7;refine kr H rfl ?_ ?_
  ·intro h37
   try have p37:=dT h37
   refine kP H (SR fun _ K8=>ak K8 rfl ?_);clear H K8;intro a H;refine lr H results52 rfl ?_
   exact H.hp.fI (L':=(bn,lH nm) :: Lx) (by repeat (first|exact fV _|apply List.Sublist.cons)) ⟨rfl,ay vi (by
    unfold kC
    (try rw [← hE,hqe])
    repeat (first|rw [au (by first|assumption|omega|(simp_all <;> fail)|fail)]|rw [ah (by first|assumption|omega|(simp_all <;> fail)|fail)]))⟩
  intro h37
  try have p37:=dF h37
  refine kP H (SR fun _ K9=>Rm rfl (Rn rfl (Rm rfl (Sp 50 rfl ?_ ?_)))) <;> clear H
  ·intro h50 a H
   exact absurd h50 (by rw [dD];decide)
  intro h50 a H
  try have p50:=dF h50
  refine kH H (aQ h50 rfl (Pf h50 rfl (ak K9 rfl (Cf rfl rfl (SR fun _ aT=>Rm rfl (Rn rfl (ak aT rfl (Cd rfl ?_ ?_)))))))) <;> clear H K9 aT
  ·intro fJ a H
   exact absurd fJ (by rw [dD];decide)
  intro fJ a H
  try have p54:=dF fJ
  refine kP H (SR fun _ bq=>Rf jr rfl (Rg aC rfl (aK gJ hx0) (Rc rfl (Rm rfl (Sp 61 rfl ?_ ?_))))) <;> clear H
  ·intro pO a H
   try have p61:=dT pO
   refine kH H (YM pO rfl (YF Dq pO rfl (YR fZ pO rfl (aK gJ hx2) ?_)));clear H;intro a H;refine aiV (l:=nm) (ky:=x.name) Yg gu (by kernel_rfl) H (wg H rfl rfl pO) rfl rfl (H.hp.own (bn,lH nm) (by simp)) rfl ?_;clear H;intro a H;refine kH H (Pt pO rfl (ak bq rfl (Cd rfl ?_ ?_))) <;> clear H bq
   ·intro h57 a H
    try have p57:=dT h57
    refine kP H (SR fun _ bF=>ak bF rfl ?_);clear H bF;intro a H;refine lr H results52 rfl ?_
    exact H.hp.fI (L':=(bn,lH nm) :: Lx) (by repeat (first|exact fV _|apply List.Sublist.cons)) ⟨rfl,ay vi (by
     unfold kC
     (try rw [← hE,hqe])
     repeat (first|rw [au (by first|assumption|omega|(simp_all <;> fail)|fail)]|rw [ah (by first|assumption|omega|(simp_all <;> fail)|fail)]))⟩
   intro h57 a H
   try have p57:=dF h57
   refine kP H (SR fun _ bJ=>Rm rfl (Rn rfl (ak bJ rfl (Cd rfl ?_ ?_)))) <;> clear H bJ
   ·intro xG a H
    try have p67:=dT xG
    refine kP H (SR fun _ bN=>ak bN rfl ?_);clear H bN;intro a H;refine lr H results52 rfl ?_
    exact H.hp.fI (L':=(bn,lH nm) :: Lx) (by repeat (first|exact fV _|apply List.Sublist.cons)) ⟨rfl,ay vi (by
     unfold kC
     (try rw [← hE,hqe])
     repeat (first|rw [au (by first|assumption|omega|(simp_all <;> fail)|fail)]|rw [ah (by first|assumption|omega|(simp_all <;> fail)|fail)]))⟩
   intro xG a H
   try have p67:=dF xG
   refine kP H (SR fun _ cK=>Rf ou rfl (aP Ae aC 0 rfl rfl (Rf ou rfl (Rf Ae rfl (Rg aC rfl (aK gJ hx3) (Rc rfl (ak cK rfl (Cd rfl ?_ ?_)))))))) <;> clear H cK
   ·intro oz a H
    try have p70:=dT oz
    refine kP H (SR fun _ dw=>ak dw rfl ?_);clear H dw;intro a H;refine lr H results52 rfl ?_
    exact H.hp.fI (L':=(bn,lH nm) :: Lx) (by repeat (first|exact fV _|apply List.Sublist.cons)) ⟨rfl,ay vi (by
     unfold kC
     (try rw [← hE,hqe])
     repeat (first|rw [au (by first|assumption|omega|(simp_all <;> fail)|fail)]|rw [ah (by first|assumption|omega|(simp_all <;> fail)|fail)]))⟩
   intro oz a H
   try have p70:=dF oz
   refine kP H (SR fun _ bY=>Rf ou rfl (aP uh aC 0 rfl rfl (Rf ou rfl (Rf uh rfl (Rg aC rfl (aK gJ hx4) (Rc rfl (ak bY rfl (Cd rfl ?_ ?_)))))))) <;> clear H bY
   ·intro jP a H
    try have Eh:=dT jP
    refine kP H (SR fun _ dz=>ak dz rfl ?_);clear H dz;intro a H;refine lr H results52 rfl ?_
    exact H.hp.fI (L':=(bn,lH nm) :: Lx) (by repeat (first|exact fV _|apply List.Sublist.cons)) ⟨rfl,ay vi (by
     unfold kC
     (try rw [← hE,hqe])
     repeat (first|rw [au (by first|assumption|omega|(simp_all <;> fail)|fail)]|rw [ah (by first|assumption|omega|(simp_all <;> fail)|fail)]))⟩
   intro jP a H
   try have Eh:=dF jP
   refine kP H (SR fun _ fC=>Rf jr rfl (Rg aC rfl (aK gJ hx0) (Rc rfl (Rm rfl (Sp 90 rfl ?_ ?_))))) <;> clear H
   ·intro jC a H
    try have Fx:=dT jC
    exact absurd (om jC) (by omega)
   intro jC a H
   try have Fx:=dF jC
   refine kH H (aX jC rfl (aX jC rfl (Pf jC rfl (ak fC rfl (Cf rfl rfl (Kc K6 (SR fun _ dN=>ak dN rfl ?_)))))));clear H fC K6 dN;intro a H;refine lr H results52 rfl ?_
   exact H.hp.fI (L':=(bn,lH nm) :: Lx) (by repeat (first|exact fV _|apply List.Sublist.cons)) ⟨rfl,ay vi (by
    unfold kC
    (try rw [← hE,hqe])
    repeat (first|rw [au (by first|assumption|omega|(simp_all <;> fail)|fail)]|rw [ah (by first|assumption|omega|(simp_all <;> fail)|fail)]))⟩
  intro pO a H
  try have p61:=dF pO
  refine kH H (aQ pO rfl (aQ pO rfl (Pf pO rfl (ak bq rfl (Cf rfl rfl (SR fun _ fQ=>Rm rfl (Rn rfl (ak fQ rfl (Cd rfl ?_ ?_))))))))) <;> clear H bq fQ
  ·intro xG a H
   try have p67:=dT xG
   refine kP H (SR fun _ iq=>ak iq rfl ?_);clear H iq;intro a H;refine lr H results52 rfl ?_
   exact H.hp.fI (L':=(bn,lH nm) :: Lx) (by repeat (first|exact fV _|apply List.Sublist.cons)) ⟨rfl,ay vi (by
    unfold kC
    (try rw [← hE,hqe])
    repeat (first|rw [au (by first|assumption|omega|(simp_all <;> fail)|fail)]|rw [ah (by first|assumption|omega|(simp_all <;> fail)|fail)]))⟩
  intro xG a H
  try have p67:=dF xG
  refine kP H (SR fun _ jA=>Rf ou rfl (aP Ae aC 0 rfl rfl (Rf ou rfl (Rf Ae rfl (Rg aC rfl (aK gJ hx3) (Rc rfl (ak jA rfl (Cd rfl ?_ ?_)))))))) <;> clear H jA
  ·intro oz a H
   try have p70:=dT oz
   refine kP H (SR fun _ jo=>ak jo rfl ?_);clear H jo;intro a H;refine lr H results52 rfl ?_
   exact H.hp.fI (L':=(bn,lH nm) :: Lx) (by repeat (first|exact fV _|apply List.Sublist.cons)) ⟨rfl,ay vi (by
    unfold kC
    (try rw [← hE,hqe])
    repeat (first|rw [au (by first|assumption|omega|(simp_all <;> fail)|fail)]|rw [ah (by first|assumption|omega|(simp_all <;> fail)|fail)]))⟩
  intro oz a H
  try have p70:=dF oz
  refine kP H (SR fun _ jc=>Rf ou rfl (aP uh aC 0 rfl rfl (Rf ou rfl (Rf uh rfl (Rg aC rfl (aK gJ hx4) (Rc rfl (ak jc rfl (Cd rfl ?_ ?_)))))))) <;> clear H jc
  ·intro jP a H
   try have Eh:=dT jP
   refine kP H (SR fun _ jG=>ak jG rfl ?_);clear H jG;intro a H;refine lr H results52 rfl ?_
   exact H.hp.fI (L':=(bn,lH nm) :: Lx) (by repeat (first|exact fV _|apply List.Sublist.cons)) ⟨rfl,ay vi (by
    unfold kC
    (try rw [← hE,hqe])
    repeat (first|rw [au (by first|assumption|omega|(simp_all <;> fail)|fail)]|rw [ah (by first|assumption|omega|(simp_all <;> fail)|fail)]))⟩
  intro jP a H
  try have Eh:=dF jP
  refine kP H (SR fun _ jM=>Rf jr rfl (Rg aC rfl (aK gJ hx0) (Rc rfl (Rm rfl (Sp 90 rfl ?_ ?_))))) <;> clear H
  ·intro jC a H
   try have Fx:=dT jC
   refine kH H (YF xk jC rfl (YF Ad jC rfl (YR uI jC rfl (aK gJ hgd) ?_)));clear H;intro a H;refine pY H (wg H rfl rfl jC) rfl rfl ?_;clear H;intro a H;refine s_call TY H (wg H rfl rfl jC) rfl (Ti _ _ H.ro cm (fun c=>decide (c.id=x.id)) _ _ (hcm.mono gJ) (fun y _=>aif (aK gJ hx1) y)) rfl ?_;clear H;rintro v95 Zp a w rfl als H;rw [abj] at H;refine kH H (YN jC rfl (Pt jC rfl (ak jM rfl (Cd rfl ?_ ?_)))) <;> clear H jM
   ·intro xH a H
    try have W9:=dT xH
    refine kP H (SR fun _ iI=>ak iI rfl ?_);clear H iI;intro a H;refine lr H results52 rfl ?_
    exact H.hp.fI (L':=(bn,lH nm) :: Lx) (by repeat (first|exact fV _|apply List.Sublist.cons)) ⟨rfl,ay vi (by
     unfold kC
     (try rw [← hE,hqe])
     repeat (first|rw [au (by first|assumption|omega|(simp_all <;> fail)|fail)]|rw [ah (by first|assumption|omega|(simp_all <;> fail)|fail)]))⟩
   intro xH a H
   try have W9:=dF xH
   refine kP H (Kc K6 (SR fun _ lU=>ak lU rfl ?_));clear H K6 lU;intro a H;refine lr H results52 rfl ?_
   exact H.hp.fI (L':=(bn,lH nm) :: Lx) (by repeat (first|exact fV _|apply List.Sublist.cons)) ⟨rfl,ay vi (by
    unfold kC
    (try rw [← hE,hqe])
    repeat (first|rw [au (by first|assumption|omega|(simp_all <;> fail)|fail)]|rw [ah (by first|assumption|omega|(simp_all <;> fail)|fail)]))⟩
  intro jC a H
  try have Fx:=dF jC
  exact absurd (show x.code=3 by omega) (of_decide_eq_false jC)
 intro dD a H
 try have jS:=dF dD
 have hc24:x.code=2∨x.code=4:=by
  have:¬ (x.code=1∨x.code=3):=of_decide_eq_false (hst ▸ dD)
  omega
 obtain ⟨ot,hot⟩:∃ ot,ot=x.code - 1:=⟨_,rfl⟩;rw [← hot] at H;refine kP H (Kc K3 (SR fun _ mJ=>Rm rfl (Rm rfl (Rf nM rfl (Rg aC rfl hx1 ?_)))));clear H K3;intro a H;refine iT Bo [_,_] H wn rfl rfl rfl rfl ?_;clear H;intro a H;refine Iq (ky:=(ot,x.id)) (zv:=mH.val) (l:=acc) zL yS (by kernel_rfl) H wn rfl rfl (H.ro _ _ sQ) rfl ?_;clear H;intro a H;rw [AZ hfm,show (lG (ot,x.id) acc).isSome=(iU A ot x.id).isSome by rw [hfm,Option.isSome_map]] at H;obtain ⟨E,hE⟩:∃ E,E=iU A ot x.id:=⟨_,rfl⟩;dsimp only at H;rw [← hE] at H;obtain ⟨q,hq⟩:∃ q,q=E.getD mH:=⟨_,rfl⟩;rw [← hq] at H;rw [hot] at hE;have hqe:(E.getD mH)=q:=hq.symm;refine kH H (Rm rfl ?_);clear H;intro a H;(iterate 2 refine kN H wn rfl rfl rfl ?_;clear H;intro a H);refine eB gq H wn rfl ?_;clear H;intro b11 a w Dx H;refine bH gq 0 (vs:=[_,_,_,_,_]) _ H wn rfl rfl rfl rfl rfl rfl rfl rfl ?_;clear H;intro w H;dsimp only [List.set,setRow] at H;refine kH H (ak mJ rfl (SQ fun _ nH=>SB (SQ fun _ mV=>?_)));clear H mJ;intro a H;refine dI hmx [[],[],[1],[],[3],(ra 1 4),(ra 0 6),[],(ra 0 8),(ra 0 9)] [] (by kernel_rfl) [_,_,_,_,_,.agg #[vi x.code,vi x.id],((iU A x.code x.id).getD mH).val,x.val,.bool (!jE A x.code x),_] H (aF (Z0 rfl (Rm rfl)) (Z0 rfl (Rf jr rfl)) (X1 1 39 rfl fun hG=>Rg aC rfl (aK hG hx0)) (Z0 rfl (Rf nM rfl)) (aF (X1 3 41 rfl fun hG=>Rg aC rfl (aK hG hx1)) ?_ ?_ ?_ (aS ?_ (aS (Z1 8 46 rfl (Ra rfl)) bX)))) ?_
 ·refine dG 2 40 4 42 rfl rfl fun _ a w G1 hG HT H fin=>?_;refine iT Bo [_,_] H wn rfl rfl rfl rfl ?_;clear H;intro a H;exact fin H iJ rfl
 ·refine dG 0 38 5 43 rfl rfl fun _ a w G1 hG HT H fin=>?_;refine KY (ky:=(x.code,x.id)) (zv:=mH.val) (l:=acc) zL yS (by kernel_rfl) H wn rfl rfl (H.ro _ _ (hG _ _ sQ)) rfl ?_;clear H;intro a H;rw [AZ hfm] at H;exact fin H iJ rfl
 ·refine wM rfl fun _ a w G1 hG HT H fin=>?_;refine bD gq (cs:=x.cells) H wn rfl rfl (fun j v hj=>H.hp.aI (aK hG (hgx j v hj))) rfl ?_;clear H;intro a H;exact fin H iJ rfl
 ·refine dG 6 44 7 45 rfl rfl fun _ a w G1 hG HT H fin=>?_;refine Lb JE H wn rfl rfl rfl rfl ?_;clear H;intro a H;rw [Jk] at H;exact fin H iJ (aG (Jl hfm (fun h=>h rfl) hx))
 clear H;intro a w G gJ H hv;have H:=H.aR (hv 9 37 rfl rfl) rfl;clear hv;refine aH ⟨rfl,?_⟩;refine mV _ _ ?_;clear mV;refine kr H rfl ?_ ?_
 ·intro h37
  try have p37:=dT h37
  refine kP H (SR fun _ mK=>ak mK rfl ?_);clear H mK;intro a H;refine lr H results52 rfl ?_
  exact H.hp.fI (L':=(bn,lH nm) :: Lx) (by repeat (first|exact fV _|apply List.Sublist.cons)) ⟨rfl,ay vi (by
   unfold kC
   (try rw [← hE,hqe])
   repeat (first|rw [au (by first|assumption|omega|(simp_all <;> fail)|fail)]|rw [ah (by first|assumption|omega|(simp_all <;> fail)|fail)]))⟩
 intro h37
 try have p37:=dF h37
 refine kP H (SR fun _ nZ=>Rm rfl (Rn rfl (Rm rfl (Sp 50 rfl ?_ ?_)))) <;> clear H
 ·intro h50 a H
  try have p50:=dT h50
  refine kH H (YM h50 rfl (YN h50 rfl (Pt h50 rfl (ak nZ rfl (Cd rfl ?_ ?_))))) <;> clear H nZ
  ·intro h47 a H
   try have p47:=dT h47
   refine kP H (SR fun _ oV=>ak oV rfl ?_);clear H oV;intro a H;refine lr H results52 rfl ?_
   exact H.hp.fI (L':=(bn,lH nm) :: Lx) (by repeat (first|exact fV _|apply List.Sublist.cons)) ⟨rfl,ay vi (by
    unfold kC
    (try rw [← hE,hqe])
    repeat (first|rw [au (by first|assumption|omega|(simp_all <;> fail)|fail)]|rw [ah (by first|assumption|omega|(simp_all <;> fail)|fail)]))⟩
  intro h47 a H
  try have p47:=dF h47
  refine kP H (SR fun _ nI=>Rm rfl (Rn rfl (ak nI rfl (Cd rfl ?_ ?_)))) <;> clear H nI
  ·intro fJ a H
   try have p54:=dT fJ
   refine kP H (SR fun _ oW=>ak oW rfl ?_);clear H oW;intro a H;refine lr H results52 rfl ?_
   exact H.hp.fI (L':=(bn,lH nm) :: Lx) (by repeat (first|exact fV _|apply List.Sublist.cons)) ⟨rfl,ay vi (by
    unfold kC
    (try rw [← hE,hqe])
    repeat (first|rw [au (by first|assumption|omega|(simp_all <;> fail)|fail)]|rw [ah (by first|assumption|omega|(simp_all <;> fail)|fail)]))⟩
  intro fJ a H
  exact absurd fJ (by rw [dD];decide)
 intro h50 a H
 exact absurd h50 (by rw [dD];decide)
end
end Go.Proofs.YteopmoocmoigcaaGreat
