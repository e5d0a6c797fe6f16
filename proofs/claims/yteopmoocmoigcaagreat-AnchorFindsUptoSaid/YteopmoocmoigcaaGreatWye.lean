/-
  What the claim stands on, part 5: Ml16 Dn Ms16 Fd16 Par It Div Rc Nrm Pas L14 L14b L14c L14d L14e Sl Kt K16 Rws Itm Its Rvs Chd Sm16 Al16 Ct Nf.
-/
import Derived.Test.YteopmoocmoigcaaGreatWyd
namespace Go.Proofs.YteopmoocmoigcaaGreat
open Go.Proofs.Tryz
section
open Go.RowKit
theorem OH:∀ args w,(callFunc 12 args).run prog w=.ok (.enter 12 args) w:=enters func12 rfl (by kernel_rfl)
theorem VJ:∀ args w,(callFunc 36 args).run prog w=.ok (.enter 36 args) w:=enters func36 rfl (by kernel_rfl)
theorem aaw (G:GH) (w0:World) (hG:Hold G w0) (x:au) (i2 i3:Int) (p i5 i6 d l f r:aj) (hs:x.text.size < 4611686018427387904) :
  Calls prog 36 #[.agg #[vi x.kind,vi i2,vi i3,.string x.text,p,i5,i6,d,l,f,r]] w0 (bq w0 G fun v G'=>v=vi (dG x:Nat)∧G=G'):=by
 refine eN [(0,_)] func36 rfl ntmps36 rfl rfl hG ?_;intro a H;refine dH (fun _ K1=>?_);refine fC (cs:=[_,_,_,_,_,_,_,_,_,_,_]) H wn rfl rfl rfl ?_;clear H;intro b1 a w hb1 H;refine kH H (ak K1 rfl (SQ fun _ K2=>SR fun _ K3=>aT gV aH 0 rfl rfl (Rc rfl (Kz K3 (Cd rfl ?_ ?_))))) <;> clear H K1 K3
 ·intro h7 a H
  try have p7:=dT h7
  refine kP H (SR fun _ K4=>aT pG fV 0 rfl rfl ?_);clear H;intro a H;refine s_call OV H wn rfl (Ot _ _ H.ro _ hs) rfl ?_;clear H;rintro v11 _ a w ⟨rfl,rfl⟩ - H;refine kH H (Rm rfl ?_);clear H;intro a H;(iterate 2 refine jc H wn rfl rfl rfl ?_;clear H;intro a H);exact kH H (Ra rfl (ak K4 rfl (SR fun _ K5=>Rm rfl (ak K5 rfl (LR results36 rfl fun H=>H.rt ⟨by unfold dG;rw [av p7],rfl⟩)))))
 intro h7 a H
 try have p7:=dF h7
 exact kP H (Kc K2 (SR fun _ K6=>ak K6 rfl (LR results36 rfl fun H=>H.rt ⟨by unfold dG;rw [ah p7];rfl,rfl⟩)))
theorem abE {G:GH} {l:List bP} {xs:List aj} (h:eY G 5 (l.map bP.dat) xs):xs=rE l:=by
 obtain ⟨css,rfl,h2,h3⟩:=h;rw [bV] at h2
 have e:css=l.map bP.cells:=by
  apply List.ext_getElem?
  intro j;rw [qm]
  by_cases hj:j < l.length
  ·have h4:=(h3 j l[j].dat css[j] (by simp [hj]) (iA (by omega))).1;rw [iA hj,iA (by omega),Uy h4];rfl
  rw [List.getElem?_eq_none (by omega),List.getElem?_eq_none (by omega)];rfl
 rw [e];rfl
theorem Uw (a b:List bP):rE (a++b)=rE a++rE b:=by unfold rE;rw [kL,List.flatten_append]
abbrev wN (v:aj) (A:List bP) (Lo:OL):Prop:=dz 47 5 v A.length (rE A) Lo
theorem wN.one {v:aj} {A:List bP} {Lo:OL} (a:bP) (h:dz 47 5 v (A.length+1) (rE A++a.cells) Lo):wN v (A++[a]) Lo:=by
 show dz _ 5 v (A++[a]).length (rE (A++[a])) Lo
 rw [iM,Uw]
 have e:rE [a]=a.cells:=by simp [rE]
 rw [e];exact h
theorem wN.app {G:GH} {v:aj} {A B:List bP} {n:Nat} {news:List aj} {Lo:OL} (h:dz 47 5 v (A.length+n) (rE A++news) Lo) (hn:B.length=n) (hc:eY G 5 (B.map bP.dat) news):wN v (A++B) Lo:=by
 show dz _ 5 v (A++B).length (rE (A++B)) Lo
 rw [iM,Uw,hn,← abE hc];exact h
def NK (m:Nat):Prop:=∀ (G:GH) (w0:World),Hold G w0→∀ (g:Int) (l:List au) (u:aj),ay G (.sl 11 (l.map au.dat)) u→dQ l→bg l < m →
 Calls prog 12 #[u,vi g] w0 (bq w0 G fun r G'=>ay G' (.sl 5 ((dX g 0 l).map bP.dat)) r)
set_option maxHeartbeats 4000000 in
theorem ajG {m:Nat} (ih:NK m) (hm:m≤1073741824):NK (m+1):=by
 intro G w0 hG g l u hu hok hz;obtain ⟨A,c,rfl,hc1,hc2,hgu⟩:=hu.slice;rw [bV] at *;have hll:=Ak l;have hln:=Au g 0 l;have hml:maxLen=9223372036854775807:=rfl;refine eN [(0,_),(1,_)] func12 rfl ntmps12 rfl rfl hG ?_;intro a H;refine kP H (SR fun _ K1=>ak K1 rfl (SR fun _ K2=>ak K2 rfl (SR fun _ K3=>ak K3 rfl (SQ fun _ K4=>SR fun _ K5=>ak K5 rfl (SB ?_)))));clear H K1 K2 K3 K5;intro a H;skip;refine eU (ι:=Nat × Nat × aj × List bP × OL × GH) (Tc:=[(0,_),(1,_)]) (Lc:=[]) (fun gh=>[(5,gh.2.2.1),(6,vi gh.2.1),(7,vi gh.1)]) (fun gh=>[]++gh.2.2.2.2.1) (fun gh=>gh.2.2.2.2.2) (fun gh=>gh.1≤l.length∧wN gh.2.2.1 gh.2.2.2.1 gh.2.2.2.2.1∧gh.2.2.2.1++dX g gh.2.1 (l.drop gh.1)=dX g 0 l∧dQ (l.drop gh.1)∧gh.2.1+bg (l.drop gh.1)≤4294967297∧(∀ b o,G b=some o→gh.2.2.2.2.2 b=some o)) (fun gh=>l.length - gh.1) ((0,0,.slice none 0 0,[],[],G)) (by exact (H).sub ⟨rfl,rfl,rfl,rfl,rfl,aB⟩) ?_ ?_
 ·exact ⟨iB _,dz.nil,rfl,hok,by dsimp only;rw [vP];omega,fun _ _ h=>h⟩
 clear H;intro gh a w hI H;obtain ⟨k,t,v5,A1,Lo,g1⟩:=gh;dsimp only at hI H;obtain ⟨hk,hr1,hX,hok1,hat,hg1⟩:=hI
 have hl1:A1.length≤bg l:=by have:=aC List.length hX;rw [iM] at this;omega
 obtain ⟨v5A,v5c,rfl,-,-⟩:=hr1.shape;dsimp only [lca,bG] at H;refine kP H (SQ fun _ K6=>SR fun _ K7=>Rm rfl (Rm rfl (Rl dZ rfl (Rc rfl (Kz K7 (Cd rfl ?_ ?_)))))) <;> clear H K7
 ·intro dY a H
  try have lC:=dT dY
  have hk2:k < l.length:=by omega
  obtain ⟨b,o,pA,pn,pc,dA,dn,dc,yA,yn,yc,fA,fn,fc,rA,rn,rc,rfl,hrow,hhd,hfl,hrw⟩:=vY hk2 hgu;replace hrow:=fun j u hj=>aO hg1 (hrow j u hj);replace hfl:=hfl.mono hg1;replace hrw:=hrw.mono hg1;have hrn:=hrw.len;rw [bV] at hrn;subst hrn;have hzs:=aaU hk2;have hzi:=oF l[k];have Gg:=Hu (iF hk2);have Ev:=Rp l[k];rw [kZ hk2] at hX hok1;obtain ⟨hox,hok2⟩:=hok1.head;rw [dX,NU,hox.n1] at hX;rw [hox.n1] at Ev;obtain ⟨x,hx⟩:∃ x,x=l[k]:=⟨_,rfl⟩;rw [← hx] at hX hox hrow hhd hfl hrw hzs hzi Gg Ev;have hrl:=E9 x.rows;refine kP H (Kc K6 (SQ fun _ K8=>SB (SR fun _ K9=>Rm rfl (Rm rfl (Ri dZ bW rfl rfl ?_)))));clear H K6;intro a H;refine bJ bW (cs:=[vi x.kind,vi x.code,vi x.id,.string x.text,.slice pA pn pc,vi x.head.marks.ins,vi x.head.marks.move,.slice dA dn dc,.slice yA yn yc,.slice fA fn fc,.slice rA x.rows.length rc]) H wn rfl rfl (fun j v hj=>H.hp.aJ (hrow j v hj)) rfl ?_;clear H;intro a H;refine eB bW H wn rfl ?_;clear H;intro b8 a w I4 H;refine bM bW 0 (vs:=[_,_,_,_,_,_,_,_,_,_,_]) _ H wn rfl rfl rfl rfl rfl rfl rfl rfl ?_;clear H;intro w H;dsimp only [List.set,setRow] at H;refine K9 _ _ ?_;clear K9;refine pE (ι:=aj × List bP × OL) (Tc:=[(0,_),(1,_),(6,_),(7,_),(8,_)]) (Lc:=[(_,_)]) (fun gh=>[(5,gh.1)]) (fun gh=>[]++gh.2.2) (fun gh=>g1) (fun gh=>wN gh.1 gh.2.1 gh.2.2∧gh.2.1=A1++(if x.kind=8 then [⟨x.code,x.id,x.text,g,(t:Int)⟩] else [])) (by exact (H).sub ⟨rfl,rfl,rfl,rfl,rfl,aB⟩) ?_ ?_
  ·skip;refine kP H (SR fun _ aQ=>aT gV aH 0 rfl rfl (Rc rfl (Kz aQ (Cd rfl ?_ ?_)))) <;> clear H aQ
   ·intro h23 a H
    try have sU:=dT h23
    refine kP H (SC (Rm rfl (aT D6 aH 0 rfl rfl (aT zL aH 0 rfl rfl (aT pG fV 0 rfl rfl (Rm rfl (Rm rfl ?_)))))));clear H;intro a H;refine jR Sk [_,_] H wn rfl rfl rfl rfl ?_;clear H;intro a H;refine jR aah [_,_,_,_,_] H wn rfl rfl rfl rfl ?_;clear H;intro a H;refine gX ny jX [_,_,_,_,_] [_,_,_,_,_] H wn rfl rfl rfl rfl rfl (by intro i q h;match i,h with|0,h=>exact h|n+1,h=>simp at h) rfl rfl ?_;clear H;intro b35 a w anA H;refine oz (Li:=[_,_]) (Lo:=Lo) (news:=[vi x.code,vi x.id,.string x.text,vi g,vi t]) ny jX rfl rfl H wn rfl rfl hr1 rfl (H.hp.dL 0 rfl rfl) rfl (by omega) (by omega) rfl ?_;clear H;intro v36 abh a w ain H;refine kH H (Ra rfl ?_);clear H;intro a H;refine aG ?_;refine ⟨(v36,A1++[⟨x.code,x.id,x.text,g,(t:Int)⟩],abh),by exact (H.dP (Pl:=[_,_]) (dD:=[_]) [1] (by decide) rfl).sub ⟨rfl,rfl,rfl,rfl,rfl,rfl,aB⟩,?_⟩;(try dsimp only);exact ⟨wN.one ⟨x.code,x.id,x.text,g,(t:Int)⟩ ain,by rw [av sU]⟩
   intro h23 a H
   try have sU:=dF h23
   refine fZ ?_;refine ⟨(_,A1,Lo),by exact (H).sub ⟨rfl,rfl,rfl,rfl,rfl,rfl,aB⟩,?_⟩;(try dsimp only);exact ⟨hr1,by rw [ah sU,jA]⟩
  clear H;intro gh a w hI H;obtain ⟨v2,A2,KC⟩:=gh;dsimp only at hI H;obtain ⟨hr2,hX2⟩:=hI
  have hl2:A2.length≤bg l+1:=by rw [hX2,iM];split <;> simp only [nZ,List.length_nil] <;> omega
  obtain ⟨v2A,v2c,rfl,-,-⟩:=hr2.shape;dsimp only [lca,bG] at H;refine pE (ι:=aj × List bP × OL × GH) (Tc:=[(0,_),(1,_),(6,_),(7,_),(8,_)]) (Lc:=[(_,_)]) (fun gh=>[(5,gh.1)]) (fun gh=>[]++gh.2.2.1) (fun gh=>gh.2.2.2) (fun gh=>wN gh.1 gh.2.1 gh.2.2.1∧gh.2.1=A2++(if x.kind=6 then dX x.id 0 x.flow else [])∧gh.2.1.length≤bg l+1∧(∀ b o,g1 b=some o→gh.2.2.2 b=some o)) (by exact (H).sub ⟨rfl,rfl,rfl,rfl,rfl,aB⟩) ?_ ?_
  ·skip;refine kP H (SR fun _ bH=>aT gV aH 0 rfl rfl (Rc rfl (Kz bH (Cd rfl ?_ ?_)))) <;> clear H bH
   ·intro lg a H
    try have p39:=dT lg
    refine kP H (SC (Rm rfl (aT vX gT 0 rfl rfl (aT zL aH 0 rfl rfl ?_))));clear H;intro a H;refine s_call OH H wn rfl (ih _ _ H.ro x.id x.flow _ hfl hox.fl (by omega)) rfl ?_;clear H;rintro v45 NC a w Gc Qu H;obtain ⟨A45,n45,c45,rfl⟩:=Gc.form;have hn45:=Gc.len;rw [bV] at hn45;have anL:=Au x.id 0 x.flow;refine ZI (Li:=[_]) (Lo:=KC) ny jX rfl rfl H wn rfl rfl hr2 Gc (by omega) (by omega) rfl ?_;clear H;intro v46 DF aof a w aio ahu H;refine kH H (Ra rfl ?_);clear H;intro a H;refine aG ?_;refine ⟨(v46,A2++dX x.id 0 x.flow,DF,NC),by exact (H).sub ⟨rfl,rfl,rfl,rfl,rfl,rfl,aB⟩,?_⟩;(try dsimp only);exact ⟨wN.app aio hn45.symm ahu,by rw [av p39],by have:=aC List.length hX;simp only [hX2,iM,av p39,ah (show ¬ x.kind=8 by omega),List.length_nil] at this ⊢;omega,Qu⟩
   intro lg a H
   try have p39:=dF lg
   refine fZ ?_;refine ⟨(_,A2,KC,g1),by exact (H).sub ⟨rfl,rfl,rfl,rfl,rfl,rfl,aB⟩,?_⟩;(try dsimp only);exact ⟨hr2,by rw [ah p39,jA],hl2,fun _ _ h=>h⟩
  clear H;intro gh a w hI H;obtain ⟨v3,A3,Lo3,g2⟩:=gh;dsimp only at hI H;obtain ⟨hr3,Ei,hl3,hg2⟩:=hI;obtain ⟨v3A,v3c,rfl,-,-⟩:=hr3.shape;dsimp only [lca,bG] at H;refine kP H (SQ fun _ bL=>SR fun _ bR=>ak bR rfl (SB ?_));clear H bR;intro a H;skip;refine eU (ι:=Nat × aj × List bP × OL × GH) (Tc:=[(0,_),(1,_),(6,_),(7,_),(8,_)]) (Lc:=[(_,_)]) (fun gh=>[(5,gh.2.1),(9,vi gh.1)]) (fun gh=>[]++gh.2.2.2.1) (fun gh=>gh.2.2.2.2) (fun gh=>gh.1≤x.rows.length∧wN gh.2.1 gh.2.2.1 gh.2.2.2.1∧gh.2.2.1++lH (x.rows.drop gh.1)=A3++lH x.rows∧(∀ b o,g2 b=some o→gh.2.2.2.2 b=some o)) (fun gh=>x.rows.length - gh.1) ((0,_,A3,Lo3,g2)) (by exact (H).sub ⟨rfl,rfl,rfl,rfl,rfl,rfl,rfl,aB⟩) ?_ ?_
  ·exact ⟨iB _,hr3,rfl,fun _ _ h=>h⟩
  clear H;intro gh a w hI H;obtain ⟨rk,v4,A4,Ue,g3⟩:=gh;dsimp only at hI H;obtain ⟨Jo,hr4,sN,hg3⟩:=hI;obtain ⟨v4A,v4c,rfl,-,-⟩:=hr4.shape;dsimp only [lca,bG] at H;refine kP H (SQ fun _ bQ=>SR fun _ dJ=>Rm rfl (aT nG nU 0 rfl rfl (Rl lD rfl (Rc rfl (Kz dJ (Cd rfl ?_ ?_)))))) <;> clear H dJ
  ·intro jB a H
   try have p51:=dT jB
   have hk3:rk < x.rows.length:=by omega
   obtain ⟨b2,o2,qA,qn,qc,eA,en,ec,zA,zn,zc,cA,cn,cc,rfl,hrow2,yL,hcl⟩:=GJ hk3 ((hrw.mono hg2).mono hg3).at_;have hcn:=hcl.len;rw [bV] at hcn;subst hcn;have r5:aJ g3 b2 (o2+rk*6+5)=some (.slice cA x.rows[rk].cells.length cc):=hrow2 5 _ rfl;have hsz2:=J9 hk3;have hcs:=E5 x.rows[rk].cells;have hoc:=hox.rw _ (iF hk3);have har:=NV x.rows;rw [kZ hk3,lH,Uq] at sN;obtain ⟨y,hy⟩:∃ y,y=x.rows[rk]:=⟨_,rfl⟩;rw [← hy] at r5 sN hrow2 yL hcl hsz2 hcs hoc;refine kP H (Kc bQ (SQ fun _ dO=>SB (SR fun _ dK=>ak dK rfl (SB ?_))));clear H bQ dK;intro a H;skip;refine eU (ι:=Nat × aj × List bP × OL × GH) (Tc:=[(0,_),(1,_),(6,_),(7,_),(8,_),(9,_)]) (Lc:=[(_,_)]) (fun gh=>[(5,gh.2.1),(10,vi gh.1)]) (fun gh=>[]++gh.2.2.2.1) (fun gh=>gh.2.2.2.2) (fun gh=>gh.1≤y.cells.length∧wN gh.2.1 gh.2.2.1 gh.2.2.2.1∧gh.2.2.1++(nX (y.cells.drop gh.1)++lH (x.rows.drop (rk+1)))=A4++(nX y.cells++lH (x.rows.drop (rk+1)))∧(∀ b o,g3 b=some o→gh.2.2.2.2 b=some o)) (fun gh=>y.cells.length - gh.1) ((0,_,A4,Ue,g3)) (by exact (H).sub ⟨rfl,rfl,rfl,rfl,rfl,rfl,rfl,rfl,aB⟩) ?_ ?_
   ·exact ⟨iB _,hr4,rfl,fun _ _ h=>h⟩
   clear H;intro gh a w hI H;obtain ⟨ck,v5',A5,Uf,g4⟩:=gh;dsimp only at hI H;obtain ⟨hck,QD,FX,hg4⟩:=hI;have GD:=aO hg4 r5
   have hl5:A5.length≤bg l+1+iD x.rows:=by
    have h1:=aC List.length FX;have h2:=aC List.length sN
    simp only [iM] at h1 h2
    omega
   obtain ⟨J4,J5,rfl,-,-⟩:=QD.shape;dsimp only [lca,bG] at H;refine kP H (SQ fun _ eO=>SR fun _ gH=>Rm rfl (aT nG nU 0 rfl rfl (Rm rfl (Ri lD jM rfl rfl (Rf sK rfl (Rg tH rfl GD (Rl oP rfl (Rc rfl (Kz gH (Cd rfl ?_ ?_)))))))))) <;> clear H gH
   ·intro Ec a H
    try have p62:=dT Ec
    have hk4:ck < y.cells.length:=by omega
    obtain ⟨b3,o3,sA,sn,sc,tA,tn,tc,uA,un,uc,gA,gn,gc,rfl,hrow3,hch,hcf⟩:=FC hk4 (hcl.mono hg4).at_;have Jt:=J7 hk4;have xC:=hoc _ (iF hk4);have hlz:=Au y.cells[ck].id 0 y.cells[ck].flow;rw [kZ hk4,nX,Un,nE] at FX;obtain ⟨z,hzy⟩:∃ z,z=y.cells[ck]:=⟨_,rfl⟩;rw [← hzy] at FX hrow3 hch hcf Jt xC hlz;refine kP H (Kc eO (SQ fun _ fE=>SB ?_));clear H eO;intro a H
    have nL:∀ (bE:Nat) (v:aj) (G G':GH),(∀ k o,G k=some o→G' k=some o)→(fun (bE:Nat) (v:aj) (G:GH)=>match bE with|0=>v=.slice J4 A5.length J5|1=>v=(aI b8 10)|2=>v=.slice (some ⟨b2,o2,none⟩) x.rows.length rc|3=>v=vi rk|4=>v=(aI b2 (o2+rk*6))|5=>v=(aI b2 (o2+rk*6+5))|6=>v=.slice (some ⟨b3,o3,none⟩) y.cells.length cc|7=>v=vi ck|8=>v=(aI b3 (o3+ck*7))|9=>v=(aI b3 (o3+ck*7+6))|10=>v=.slice gA gn gc|11=>v=(aI b8 10)|12=>v=.slice (some ⟨b2,o2,none⟩) x.rows.length rc|13=>v=vi rk|14=>v=(aI b2 (o2+rk*6))|15=>v=(aI b2 (o2+rk*6+5))|16=>v=.slice (some ⟨b3,o3,none⟩) y.cells.length cc|17=>v=vi ck|18=>v=(aI b3 (o3+ck*7))|19=>v=(aI b3 (o3+ck*7+0))|20=>v=vi z.id|21=>ay G (.sl 5 ((dX z.id 0 z.flow).map bP.dat)) v|_=>True) bE v G→(fun (bE:Nat) (v:aj) (G:GH)=>match bE with|0=>v=.slice J4 A5.length J5|1=>v=(aI b8 10)|2=>v=.slice (some ⟨b2,o2,none⟩) x.rows.length rc|3=>v=vi rk|4=>v=(aI b2 (o2+rk*6))|5=>v=(aI b2 (o2+rk*6+5))|6=>v=.slice (some ⟨b3,o3,none⟩) y.cells.length cc|7=>v=vi ck|8=>v=(aI b3 (o3+ck*7))|9=>v=(aI b3 (o3+ck*7+6))|10=>v=.slice gA gn gc|11=>v=(aI b8 10)|12=>v=.slice (some ⟨b2,o2,none⟩) x.rows.length rc|13=>v=vi rk|14=>v=(aI b2 (o2+rk*6))|15=>v=(aI b2 (o2+rk*6+5))|16=>v=.slice (some ⟨b3,o3,none⟩) y.cells.length cc|17=>v=vi ck|18=>v=(aI b3 (o3+ck*7))|19=>v=(aI b3 (o3+ck*7+0))|20=>v=vi z.id|21=>ay G (.sl 5 ((dX z.id 0 z.flow).map bP.dat)) v|_=>True) bE v G':=by
     intro bE v G G' hm h
     match bE,h with
     | 0,h=>exact h
     | 1,h=>exact h
     | 2,h=>exact h
     | 3,h=>exact h
     | 4,h=>exact h
     | 5,h=>exact h
     | 6,h=>exact h
     | 7,h=>exact h
     | 8,h=>exact h
     | 9,h=>exact h
     | 10,h=>exact h
     | 11,h=>exact h
     | 12,h=>exact h
     | 13,h=>exact h
     | 14,h=>exact h
     | 15,h=>exact h
     | 16,h=>exact h
     | 17,h=>exact h
     | 18,h=>exact h
     | 19,h=>exact h
     | 20,h=>exact h
     | 21,h=>exact ay.mono hm h
     | 22,h=>exact trivial
     | 23,h=>exact trivial
     | _+24,h=>exact trivial
    refine xZ (hmx) [[],[],[1],[],[1,2,3],(ra 1 4),(ra 1 5),[],(ra 1 7),(ra 1 8),(ra 1 9),[],[11],[],[11,12,13],(ra 11 4),(ra 11 5),[],(ra 11 7),(ra 11 8),(ra 11 9),(ra 1 20),(ra 0 22),(ra 0 23)] [22,23] (by kernel_rfl) (by kernel_rfl) (fun (bE:Nat) (v:aj) (G:GH)=>match bE with|0=>v=.slice J4 A5.length J5|1=>v=(aI b8 10)|2=>v=.slice (some ⟨b2,o2,none⟩) x.rows.length rc|3=>v=vi rk|4=>v=(aI b2 (o2+rk*6))|5=>v=(aI b2 (o2+rk*6+5))|6=>v=.slice (some ⟨b3,o3,none⟩) y.cells.length cc|7=>v=vi ck|8=>v=(aI b3 (o3+ck*7))|9=>v=(aI b3 (o3+ck*7+6))|10=>v=.slice gA gn gc|11=>v=(aI b8 10)|12=>v=.slice (some ⟨b2,o2,none⟩) x.rows.length rc|13=>v=vi rk|14=>v=(aI b2 (o2+rk*6))|15=>v=(aI b2 (o2+rk*6+5))|16=>v=.slice (some ⟨b3,o3,none⟩) y.cells.length cc|17=>v=vi ck|18=>v=(aI b3 (o3+ck*7))|19=>v=(aI b3 (o3+ck*7+0))|20=>v=vi z.id|21=>ay G (.sl 5 ((dX z.id 0 z.flow).map bP.dat)) v|_=>True) nL H ?_ ?_
    ·clear H;refine aD ?_ ?_ ?_ ?_ (aD ?_ ?_ ?_ ?_ (aD ?_ ?_ ?_ ?_ (aD ?_ ?_ ?_ ?_ (aD ?_ ?_ ?_ ?_ (aD ?_ ?_ (bN rfl) (bN rfl) cu)))))
     ·refine bX [] rfl trivial (by kernel_rfl) nL rfl rfl ?_;intro aV a w G1 hG HT H fin;exact kH H (Rm rfl fun _ H=>fin H iJ rfl)
     ·refine bX [] rfl trivial (by kernel_rfl) nL rfl rfl ?_;intro aV a w G1 hG HT H fin;exact kH H (Rf nG rfl fun _ H=>fin H iJ rfl)
     ·refine bX [(1,66,_)] rfl ⟨fun _ _ h=>h,aB⟩ (by kernel_rfl) nL rfl rfl ?_;intro aV a w G1 hG HT H fin;exact kH H (Ro nU 0 rfl fun _ H=>fin H iJ rfl)
     ·refine bX [] rfl trivial (by kernel_rfl) nL rfl rfl ?_;intro aV a w G1 hG HT H fin;exact kH H (Rm rfl fun _ H=>fin H iJ rfl)
     ·refine bX [(2,67,_),(3,68,_)] rfl ⟨fun _ _ h=>h,fun _ _ h=>h,aB⟩ (by kernel_rfl) nL rfl rfl ?_;intro aV a w G1 hG HT H fin;exact kH H (Ri lD jM rfl rfl fun _ H=>fin H iJ rfl)
     ·refine bX [(4,69,_)] rfl ⟨fun _ _ h=>h,aB⟩ (by kernel_rfl) nL rfl rfl ?_;intro aV a w G1 hG HT H fin;exact kH H (Rf sK rfl fun _ H=>fin H iJ rfl)
     ·refine bX [(5,70,_)] rfl ⟨fun _ _ h=>h,aB⟩ (by kernel_rfl) nL rfl rfl ?_;intro aV a w G1 hG HT H fin;exact kH H (Rg tH rfl (aO hG GD) fun _ H=>fin H iJ rfl)
     ·refine bX [] rfl trivial (by kernel_rfl) nL rfl rfl ?_;intro aV a w G1 hG HT H fin;exact kH H (Rm rfl fun _ H=>fin H iJ rfl)
     ·refine bX [(6,71,_),(7,72,_)] rfl ⟨fun _ _ h=>h,fun _ _ h=>h,aB⟩ (by kernel_rfl) nL rfl rfl ?_;intro aV a w G1 hG HT H fin;exact kH H (Ri oP ku rfl rfl fun _ H=>fin H iJ rfl)
     ·refine bX [(8,73,_)] rfl ⟨fun _ _ h=>h,aB⟩ (by kernel_rfl) nL rfl rfl ?_;intro aV a w G1 hG HT H fin;exact kH H (Rf Cm rfl fun _ H=>fin H iJ rfl)
     ·refine bX [(9,74,_)] rfl ⟨fun _ _ h=>h,aB⟩ (by kernel_rfl) nL rfl rfl ?_;intro aV a w G1 hG HT H fin;exact kH H (Rg gT rfl (aO hG (hrow3 6 _ rfl)) fun _ H=>fin H iJ rfl)
     ·refine bX [] rfl trivial (by kernel_rfl) nL rfl rfl ?_;intro aV a w G1 hG HT H fin;exact kH H (Rf nG rfl fun _ H=>fin H iJ rfl)
     ·refine bX [(11,76,_)] rfl ⟨fun _ _ h=>h,aB⟩ (by kernel_rfl) nL rfl rfl ?_;intro aV a w G1 hG HT H fin;exact kH H (Ro nU 0 rfl fun _ H=>fin H iJ rfl)
     ·refine bX [] rfl trivial (by kernel_rfl) nL rfl rfl ?_;intro aV a w G1 hG HT H fin;exact kH H (Rm rfl fun _ H=>fin H iJ rfl)
     ·refine bX [(12,77,_),(13,78,_)] rfl ⟨fun _ _ h=>h,fun _ _ h=>h,aB⟩ (by kernel_rfl) nL rfl rfl ?_;intro aV a w G1 hG HT H fin;exact kH H (Ri lD jM rfl rfl fun _ H=>fin H iJ rfl)
     ·refine bX [(14,79,_)] rfl ⟨fun _ _ h=>h,aB⟩ (by kernel_rfl) nL rfl rfl ?_;intro aV a w G1 hG HT H fin;exact kH H (Rf sK rfl fun _ H=>fin H iJ rfl)
     ·refine bX [(15,80,_)] rfl ⟨fun _ _ h=>h,aB⟩ (by kernel_rfl) nL rfl rfl ?_;intro aV a w G1 hG HT H fin;exact kH H (Rg tH rfl (aO hG GD) fun _ H=>fin H iJ rfl)
     ·refine bX [] rfl trivial (by kernel_rfl) nL rfl rfl ?_;intro aV a w G1 hG HT H fin;exact kH H (Rm rfl fun _ H=>fin H iJ rfl)
     ·refine bX [(16,81,_),(17,82,_)] rfl ⟨fun _ _ h=>h,fun _ _ h=>h,aB⟩ (by kernel_rfl) nL rfl rfl ?_;intro aV a w G1 hG HT H fin;exact kH H (Ri oP ku rfl rfl fun _ H=>fin H iJ rfl)
     ·refine bX [(18,83,_)] rfl ⟨fun _ _ h=>h,aB⟩ (by kernel_rfl) nL rfl rfl ?_;intro aV a w G1 hG HT H fin;exact kH H (Rf D8 rfl fun _ H=>fin H iJ rfl)
     ·refine bX [(19,84,_)] rfl ⟨fun _ _ h=>h,aB⟩ (by kernel_rfl) nL rfl rfl ?_;intro aV a w G1 hG HT H fin;exact kH H (Rg aH rfl (aO hG (hrow3 0 _ rfl)) fun _ H=>fin H iJ rfl)
     refine bX [(10,75,_),(20,85,_)] rfl ⟨fun _ _ h=>h,fun _ _ h=>h,aB⟩ (by kernel_rfl) nL rfl rfl ?_;intro aV a w G1 hG HT H fin;refine s_call OH H wn rfl (ih _ _ H.ro z.id z.flow _ (hcf.mono hG) xC (by omega)) rfl ?_;clear H;rintro v86 G86 a w Gd agQ H;exact fin H agQ (Gd)
    clear H;intro a w G agD H hv;have H:=H.aP (hv 0 65 rfl rfl) rfl;obtain ⟨u86,aiA,Gd⟩:=hv 21 86 (by decide) rfl;(try dsimp only at Gd);obtain ⟨A86,n86,c86,rfl⟩:=Gd.form;have Xx:=Gd.len;rw [bV] at Xx;have H:=H.iT aiA;clear hv;refine ZI (Li:=[_]) (Lo:=Uf) ny jX rfl rfl H wn rfl rfl QD Gd (by omega) (by omega) rfl ?_;clear H;intro v87 abk aog a w aip ahv H;refine kH H (Ra rfl ?_);clear H;intro a H;refine aG ⟨rfl,?_⟩;refine fE _ _ ?_;clear fE;refine kP H (SC (Rm rfl (Rd rfl (Ra rfl ?_))));clear H;intro a H;refine aG ?_;refine dh ((ck+1,v87,A5++dX z.id 0 z.flow,abk,_)) (by exact (H).sub ⟨rfl,rfl,rfl,rfl,rfl,rfl,rfl,rfl,aB⟩) ?_ ?_
    ·(try dsimp only);exact ⟨by omega,wN.app aip Xx.symm ahv,by rw [← FX,nE],fun b o h=>agD b o (hg4 b o h)⟩
    first|omega|(dsimp only;omega)
   intro Ec a H
   try have p62:=dF Ec
   refine dW ?_;refine dO _ _ ?_;clear dO;refine kP H (SC (Rm rfl (Rd rfl (Ra rfl ?_))));clear H;intro a H;refine aG ?_;refine dh ((rk+1,_,A5,Uf,g4)) (by exact (H).sub ⟨rfl,rfl,rfl,rfl,rfl,rfl,rfl,aB⟩) ?_ ?_
   ·(try dsimp only);rw [ig (by omega),nX,jP] at FX;exact ⟨by omega,QD,FX.trans sN,fun b o h=>hg4 b o (hg3 b o h)⟩
   first|omega|(dsimp only;omega)
  intro jB a H
  try have p51:=dF jB
  refine dW ?_;refine bL _ _ ?_;clear bL;refine kP H (SC (Rm rfl ?_));clear H;intro a H;refine bJ bW (cs:=[_,_,_,_,_,_,_,_,_,_,_]) H wn rfl rfl (H.hp.dL 0 rfl rfl) rfl ?_;clear H;intro a H;refine s_call VJ H wn rfl (aaw _ _ H.ro x _ _ _ _ _ _ _ _ _ (by omega)) rfl ?_;clear H;rintro v90 _ a w ⟨rfl,rfl⟩ - H;refine kH H (Rd rfl (aU K8 rfl (SC (Rm rfl (Rd rfl (Ra rfl ?_))))));clear H K8;intro a H;refine aG ?_;refine dh ((k+1,t+dG x,_,A4,Ue,g3)) (by exact (H.dP (Pl:=[_]) (dD:=[]) [] (by decide) rfl).sub ⟨rfl,rfl,rfl,rfl,rfl,aB⟩) ?_ ?_
  ·try dsimp only
   have Jq:(if x.kind=7 then lH x.rows else [])=lH x.rows:=by
    by_cases h7:x.kind=7
    ·rw [av h7]
    rw [ah h7,hox.JQ h7];rfl
   rw [ig (by omega),lH,jA] at sN;exact ⟨by omega,hr4,by rw [sN,Ei,hX2,← hX,Jq];simp only [nE],hok2,by omega,fun b o h=>hg3 b o (hg2 b o (hg1 b o h))⟩
  first|omega|(dsimp only;omega)
 intro dY a H
 try have lC:=dF dY
 refine dW ?_;refine K4 _ _ ?_;clear K4;refine kP H (SR fun _ gL=>Rm rfl (ak gL rfl ?_));clear H gL;intro a H;refine lr H results12 rfl ?_;rw [ig (by omega),dX,jA] at hX;obtain ⟨Gr,hmr,hrep,H⟩:=St.um (Li:=[]) H hr1 (rows:=A1.map bP.dat) (by simp) (N7 _ _);exact H.rt (by rw [← hX];exact hrep)
theorem YJ:∀ m:Nat,m≤1073741825→NK m
 | 0,_=>fun _ _ _ _ _ _ _ _ h=>absurd h (by omega)
 | m+1,hm=>ajG (YJ m (by omega)) (by omega)
def wz (A:List bP) (c i:Int):Int:=match A.findIdx? (fun a=>decide (a.code=c∧a.id=i)) with|some k=>k|none=>-1
theorem Wy (G:GH) (w0:World) (hG:Hold G w0) (A:List bP) (v:aj) (c i:Int) (hv:ay G (.sl 5 (A.map bP.dat)) v) (hl:A.length≤4294967296) :
  Calls prog 38 #[v,vi c,vi i] w0 (bq w0 G fun u G'=>u=vi (wz A c i)∧G=G'):=by
 obtain ⟨vA,n,cc,rfl⟩:=hv.form;have hn:=hv.len;rw [bV] at hn;subst hn;refine eN [(0,_),(1,_),(2,_)] func38 rfl ntmps38 rfl rfl hG ?_;intro a H;refine kP H (SR fun _ K1=>ak K1 rfl (SQ fun _ K2=>SR fun _ K3=>ak K3 rfl (SB ?_)));clear H K1 K3;intro a H;skip;refine eU (ι:=Nat) (Tc:=[(0,_),(1,_),(2,_)]) (Lc:=[]) (fun gh=>[(7,vi gh)]) (fun gh=>[]) (fun gh=>G) (fun gh=>gh≤A.length∧(A.take gh).findIdx? (fun a=>decide (a.code=c∧a.id=i))=none) (fun gh=>A.length - gh) (0) (by exact (H).sub ⟨rfl,rfl,rfl,rfl,aB⟩) ?_ ?_
 ·exact ⟨by omega,rfl⟩
 clear H;intro gh a w hI H;obtain ⟨k,hgh⟩:∃ x,x=gh:=⟨_,rfl⟩;subst hgh;obtain ⟨hk,hno⟩:=hI;dsimp only [lca,bG] at H;refine kP H (SQ fun _ K4=>SR fun _ K5=>Rm rfl (Rm rfl (Rl ny rfl (Rc rfl (Kz K5 (Cd rfl ?_ ?_)))))) <;> clear H K5
 ·intro h11 a H
  try have nN:=dT h11
  have hk2:k < A.length:=by omega
  obtain ⟨b,o,rfl,hrow⟩:=Ik hv hk2;refine kP H (Kc K4 (SQ fun _ K6=>SB (SR fun _ K7=>Rm rfl (Rm rfl (Ri ny jX rfl rfl (Rf IL rfl (Rg aH rfl (hrow 0 _ rfl) (Rm rfl (Rc rfl (Rm rfl (Sp 21 rfl ?_ ?_))))))))))) <;> clear H K4
  ·intro h21 a H
   try have oN:=dT h21
   refine kH H (YM h21 rfl (YM h21 rfl (YI ny jX h21 rfl rfl (YF Cj h21 rfl (YR aH h21 rfl (hrow 1 _ rfl) (YM h21 rfl (YC h21 rfl (Pt h21 rfl (Kz K7 (Cd rfl ?_ ?_)))))))))) <;> clear H K7
   ·intro kF a H
    try have p29:=dT kF
    exact kP H (SR fun _ K8=>Rm rfl (ak K8 rfl (LR results38 rfl fun H=>H.rt ⟨by unfold wz;rw [vD hk2 hno (by simp_all)],rfl⟩)))
   intro kF a H
   try have p29:=dF kF
   refine kP H (Kc K6 (SC (Rm rfl (Rd rfl (Ra rfl ?_)))));clear H K6;intro a H;refine aG ?_;refine dh ((k+1)) (by exact (H).sub ⟨rfl,rfl,rfl,rfl,aB⟩) ?_ ?_
   ·exact ⟨by omega,Bw hk2 hno (by simp_all)⟩
   first|omega|(dsimp only;omega)
  intro h21 a H
  try have oN:=dF h21
  refine kH H (bC h21 rfl (aR h21 rfl (aR h21 rfl (Pf h21 rfl (Kz K7 (Cf rfl rfl (Kc K6 (SC (Rm rfl (Rd rfl (Ra rfl ?_)))))))))));clear H K7 K6;intro a H;refine aG ?_;refine dh ((k+1)) (by exact (H).sub ⟨rfl,rfl,rfl,rfl,aB⟩) ?_ ?_
  ·exact ⟨by omega,Bw hk2 hno (by simp_all)⟩
  first|omega|(dsimp only;omega)
 intro h11 a H
 try have nN:=dF h11
 refine dW ?_;refine K2 _ _ ?_;clear K2;exact kP H (SR fun _ K9=>ak K9 rfl (LR results38 rfl fun H=>H.rt ⟨by rw [show A.take k=A from jF (by omega)] at hno;unfold wz;rw [hno],rfl⟩))
end
section
open Go.RowKit
section
variable {N:Nat} {D:List Deferred} {w0:World} {F:Nat→Prop} {G0 G G1 G2:GH} {L L1 L2:OL} {T Xs:List (Nat × aj)}
variable {r:Option Nat} {P:Program} {Q:Exit→Act→World→Prop} {l:List Oper} {a a':Act} {w w':World}
theorem aci {id:Nat} (hm:P.follows .mixedOrders=true) (bS:List (List Nat)) (B:List Nat) (hk:zJ l bS=true) (hB:Ac l bS B=true) (m1 m2:Nat) (ahR:B.contains m1=false) (Xr:B.contains m2=false) (h12:(bS.getD m2 []).contains m1=true) (hne:Nat.beq m1 m2=false) (Ry Rz:Obj) (pr:Nat→Nat→aj→GH→Prop)
  (hp1:∀ b b' i v G,Nat.beq i m1=false→(bS.getD i []).contains m1=false→pr b i v G→pr b' i v G)
  (H:St N D w0 F G0 G L T a w)
  (hstep:allI (fun i o=>∀ b L' S a w G1,(∀ x,x∈L→x∈L')→B.contains i=false→Nat.beq i m1=false→Nat.beq i m2=false→S i=false→(∀ j∈bS.getD i [],S j=true)→(∀ k o,G k=some o→G1 k=some o)→St N D w0 F G0 G1 L' T a w→(∀ i d,S i=true→eD l i=some d→∃ v,a.tmps[d]?=some v∧pr b i v G1) →
   WL r P l.toArray (fun e a' w'=>e=.normal∧DX N D w0 F G0 G L' T l (pr b) (dR S i) a' w') [o] a w) 0 l)
  (Qw:∀ o S a w G1,l[m1]?=some o→S m1=false→(∀ j∈bS.getD m1 [],S j=true)→(∀ k o,G k=some o→G1 k=some o)→St N D w0 F G0 G1 L T a w→(∀ b i d,i≠m1→S i=true→eD l i=some d→∃ v,a.tmps[d]?=some v∧pr b i v G1) →
   WL r P l.toArray (fun e a' w'=>e=.normal∧∃ b,DX N D w0 F G0 G ((b,Ry) :: L) T l (pr b) (dR S m1) a' w') [o] a w)
  (Qx:∀ o b S a w G1,l[m2]?=some o→S m2=false→(∀ j∈bS.getD m2 [],S j=true)→(∀ k o,G k=some o→G1 k=some o)→St N D w0 F G0 G1 ((b,Ry) :: L) T a w→(∀ i d,S i=true→eD l i=some d→∃ v,a.tmps[d]?=some v∧pr b i v G1) →
   WL r P l.toArray (fun e a' w'=>e=.normal∧DX N D w0 F G0 G ((b,Rz) :: L) T l (pr b) (dR S m2) a' w') [o] a w)
  (hend:∀ b a w G1,(∀ k o,G k=some o→G1 k=some o)→St N D w0 F G0 G1 ((b,Rz) :: L) T a w→(∀ i d,B.contains i=false→eD l i=some d→∃ v,a.tmps[d]?=some v∧pr b i v G1)→WL r P l.toArray (fun e a w=>e=.normal∧Q .normal a w) (qU l B) a w)
  (Je:Nat.blt m2 l.length=true):WP r P (.region id l.toArray true) Q a w:=by
 have hne':m1≠m2:=fun e=>by subst e;rw [Nat.beq_refl] at hne;cases hne
 refine UY hm bS B hk hB (fun S a w=>(S m2=true→S m1=true)∧∃ b L',L'=(bif S m2 then (b,Rz) :: L else bif S m1 then (b,Ry) :: L else L)∧DX N D w0 F G0 G L' T l (pr b) S a w)
  ⟨fun h=>h,0,L,rfl,G,fun _ _ h=>h,H.move H.hp.drew,fun _ _ h=>absurd (show false=true from h) (by decide)⟩ ?_ ?_
 ·rintro i o S a w ho hb aX mo hdesc ⟨Jh,b,L',hL,G1,hG,HS,hv⟩
  have hsub:∀ x,x∈L→x∈L':=fun x hx=>by
   rw [hL]
   cases S m2 with
   | true=>exact iZ _ hx
   | false=>cases S m1 with
    | true=>exact iZ _ hx
    | false=>exact hx
  have hno:∀ j,j < l.length→S j=true→(bS.getD j []).contains i=false:=fun j hjl hj=>by
   cases hc:(bS.getD j []).contains i with
   | false=>rfl
   | true =>
    have:=hdesc j hjl (by simpa using hc)
    rw [this] at hj;cases hj
  by_cases h1:i=m1
  ·subst h1
   have hs2:S m2=false:=by
    cases hs:S m2 with
    | false=>rfl
    | true=>rw [Jh hs] at aX;cases aX
   rw [hs2,aX] at hL
   subst hL
   have h:=Qw o S a w G1 ho aX mo hG HS fun b' j d hj hSj hd=>by
    obtain ⟨v,hv1,hv2⟩:=hv j d hSj hd
    exact ⟨v,hv1,hp1 b b' j v _ (wU hj) (hno j (wX hd) hSj) hv2⟩
   refine qZ (fun e a' w' ⟨he,b',hD⟩=>⟨he,fun _=>av rfl,b',_,?_,hD⟩) h
   rw [show dR S i i=true from av rfl,show dR S i m2=S m2 from ah (fun e=>hne' e.symm),hs2]
   rfl
  ·by_cases h2:i=m2
   ·subst h2
    have hs1:S m1=true:=mo m1 (by simpa using h12)
    rw [aX,hs1] at hL
    subst hL
    have h:=Qx o b S a w G1 ho aX mo hG HS hv
    refine qZ (fun e a' w' ⟨he,hD⟩=>⟨he,fun _=>by rw [show dR S i m1=S m1 from ah hne'];exact hs1,b,_,?_,hD⟩) h
    rw [show dR S i i=true from av rfl]
    rfl
   ·have h:=Fx hstep i o ho
    rw [jh] at h
    have e1:dR S i m1=S m1:=ah (fun e=>h1 e.symm)
    have e2:dR S i m2=S m2:=ah (fun e=>h2 e.symm)
    refine qZ (fun e a' w' ⟨he,hD⟩=>⟨he,by rw [e1,e2];exact Jh,b,L',?_,hD⟩) (h b L' S a w G1 hsub hb (wU h1) (wU h2) aX mo hG HS hv)
    rw [e1,e2];exact hL
 ·rintro S a w hall hnB ⟨Jh,b,L',hL,G1,hG,HS,hv⟩
  have hs2:S m2=true:=hall m2 (Eq.mp Nat.blt_eq Je) Xr
  rw [hs2] at hL
  subst hL
  exact hend b a w G1 hG HS fun j d hb hd=>hv j d (hall j (wX hd) hb) hd
end
end
section
open Go.RowKit
theorem VK:∀ args w,(callFunc 38 args).run prog w=.ok (.enter 38 args) w:=enters func38 rfl (by kernel_rfl)
theorem Yi {A:List bP} {p:bP→Bool}:match A.findIdx? p with|some k=>∃ hk:k < A.length,A.find? p=some A[k]|none=>A.find? p=none:=by
 cases h:A.findIdx? p with
 | none =>
  dsimp only;rw [List.find?_eq_none];intro x hx;have:=List.findIdx?_eq_none_iff.1 h x hx
  simp [this]
 | some k =>
  obtain ⟨hk,h1,h2⟩:=List.findIdx?_eq_some_iff_getElem.1 h;refine ⟨hk,?_⟩;rw [List.find?_eq_some_iff_getElem];exact ⟨h1,k,hk,rfl,fun j hj=>by simpa using h2 j hj⟩
theorem QV {A:List bP} {c i:Int} (h:¬ 0≤wz A c i):mI A c i=none:=by
 have:=Yi (A:=A) (p:=fun a=>decide (a.code=c∧a.id=i))
 unfold wz at h
 cases hk:A.findIdx? (fun a=>decide (a.code=c∧a.id=i)) with
 | none=>rw [hk] at this;exact this
 | some k=>rw [hk] at h;exact absurd (Int.natCast_nonneg k) h
theorem Yg {A:List bP} {c i:Int} (h:0≤wz A c i):∃ (j:Nat) (hj:j < A.length),wz A c i=j∧mI A c i=some A[j]:=by
 have:=Yi (A:=A) (p:=fun a=>decide (a.code=c∧a.id=i))
 unfold wz at h ⊢
 cases hk:A.findIdx? (fun a=>decide (a.code=c∧a.id=i)) with
 | none=>rw [hk] at h;exact absurd h (by decide)
 | some k=>rw [hk] at this;obtain ⟨hj,e⟩:=this;exact ⟨k,hj,rfl,e⟩
theorem QU {A:List bP} (hnd:A.Nodup) {c:Int} {k:Nat} (hk:k < A.length) (hc:A[k].code=c):(!decide (wz A c A[k].id=(k:Int)))=!pU A c A[k]:=by
 have hmem:0≤wz A c A[k].id:=by
  unfold wz
  cases hi:A.findIdx? (fun a=>decide (a.code=c∧a.id=A[k].id)) with
  | none =>
   have:=List.findIdx?_eq_none_iff.1 hi A[k] (iF hk)
   simp [hc] at this
  | some j=>exact Int.natCast_nonneg j
 obtain ⟨j,hj,e1,e2⟩:=Yg hmem
 unfold pU
 rw [e1,e2]
 congr 1
 rw [og,decide_eq_true_iff,decide_eq_true_iff]
 constructor
 ·intro e
  obtain rfl:j=k:=by omega
  exact ⟨hc,rfl⟩
 rintro ⟨-,e⟩;have:=(List.getElem_inj hnd).1 (Option.some.inj e)
 omega
set_option maxHeartbeats 4000000 in
theorem ajH (G:GH) (w0:World) (hG:Hold G w0) (A:List bP) (v:aj) (code:Int) (hv:ay G (.sl 5 (A.map bP.dat)) v) (hl:A.length≤1073741824) (hnd:A.Nodup) (Ej:∀ a∈A,0≤a.at_∧a.at_≤4294967296) (hc:0≤code∧code≤100) :
  Calls prog 15 #[v,vi code] w0 (bq w0 G fun u G'=>ay G' (.sl 6 ((nP A code).map jO.dat)) u):=by
 obtain ⟨vA,n,cc,rfl⟩:=hv.form;have hn:=hv.len;rw [bV] at hn;subst hn;have hml:maxLen=9223372036854775807:=rfl;refine eN [(0,_),(1,_)] func15 rfl ntmps15 rfl rfl hG ?_;intro a H;refine kP H (SR fun _ K1=>ak K1 rfl (SR fun _ K2=>ak K2 rfl (SQ fun _ K3=>SR fun _ K4=>ak K4 rfl (SB ?_))));clear H K1 K2 K4;intro a H;skip;refine eU (ι:=Nat × aj × OL × GH) (Tc:=[(0,_),(1,_)]) (Lc:=[]) (fun gh=>[(5,gh.2.1),(6,vi gh.1)]) (fun gh=>[]++gh.2.2.1) (fun gh=>gh.2.2.2) (fun gh=>gh.1≤A.length∧dz 55 6 gh.2.1 (rX A code gh.1).length (EO (rX A code gh.1)) gh.2.2.1∧(∀ b o,G b=some o→gh.2.2.2 b=some o)) (fun gh=>A.length - gh.1) ((0,.slice none 0 0,[],G)) (by exact (H).sub ⟨rfl,rfl,rfl,rfl,aB⟩) ?_ ?_
 ·exact ⟨iB _,dz.nil,fun _ _ h=>h⟩
 clear H;intro gh a w hI H;obtain ⟨k,v5,Lo,g⟩:=gh;dsimp only at hI H;obtain ⟨hk,hrw,hgm⟩:=hI;have hsl:=Sg A code k hk;obtain ⟨v5A,v5c,rfl,-,-⟩:=hrw.shape;dsimp only [lca,bG] at H;refine kP H (SQ fun _ K5=>SR fun _ K6=>Rm rfl (Rm rfl (Rl ny rfl (Rc rfl (Kz K6 (Cd rfl ?_ ?_)))))) <;> clear H K6
 ·intro h12 a H
  try have qE:=dT h12
  have hk2:k < A.length:=by omega
  obtain ⟨b,o,rfl,hrow⟩:=Ik (hv.mono hgm) hk2;obtain ⟨ha0,ha1⟩:=Ej A[k] (iF hk2);refine kP H (Kc K5 (SQ fun _ K7=>SB (SQ fun _ K8=>SR fun _ K9=>Rm rfl (Rm rfl (Ri ny jX rfl rfl (Rf IL rfl (Rg aH rfl (hrow 0 _ rfl) (Rm rfl (Rc rfl (Rm rfl (Sp 22 rfl ?_ ?_))))))))))) <;> clear H K5
  ·intro h22 a H
   try have iC:=dT h22
   refine kH H (bC h22 rfl (bC h22 rfl (aR h22 rfl (aR h22 rfl (Pt h22 rfl (Kz K9 (Ct rfl rfl ?_)))))));clear H K9;intro a H;refine dW ?_;refine K7 _ _ ?_;clear K7;refine kP H (SC (Rm rfl (Rd rfl (Ra rfl ?_))));clear H;intro a H;refine aG ?_;refine dh ((k+1,_,Lo,g)) (by exact (H).sub ⟨rfl,rfl,rfl,rfl,aB⟩) ?_ ?_
   ·(try dsimp only);exact ⟨by omega,by rw [M5 hk2 (by first|(simp [pU,iC];done)|(have:=QU hnd hk2 (mW.1 iC);simp_all))];exact hrw,hgm⟩
   first|omega|(dsimp only;omega)
  intro h22 a H
  try have iC:=dF h22
  refine kH H (YM h22 rfl (YM h22 rfl (YM h22 rfl (YM h22 rfl (YI ny jX h22 rfl rfl (YF Cj h22 rfl (YR aH h22 rfl (hrow 1 _ rfl) ?_)))))));clear H;intro a H;refine s_call VK H (wg H rfl rfl h22) rfl (Wy _ _ H.ro A _ code A[k].id (hv.mono hgm) (by omega)) rfl ?_;clear H;rintro v30 _ a w ⟨rfl,rfl⟩ - H;refine kH H (YM h22 rfl (YC h22 rfl (Pf h22 rfl (Kz K9 (Cd rfl ?_ ?_))))) <;> clear H K9
  ·intro Pz a H
   try have p33:=dT Pz
   refine dW ?_;refine K7 _ _ ?_;clear K7;refine kP H (SC (Rm rfl (Rd rfl (Ra rfl ?_))));clear H;intro a H;refine aG ?_;refine dh ((k+1,_,Lo,g)) (by exact (H).sub ⟨rfl,rfl,rfl,rfl,aB⟩) ?_ ?_
   ·(try dsimp only);exact ⟨by omega,by rw [M5 hk2 (by first|(simp [pU,iC];done)|(have:=QU hnd hk2 (mW.1 iC);simp_all))];exact hrw,hgm⟩
   first|omega|(dsimp only;omega)
  intro Pz a H
  try have p33:=dF Pz
  have hst:pU A code A[k]=true:=by
   have h1:A[k].code=code:=by first|exact mW.1 iC|simp_all
   have h2:=QU hnd hk2 h1
   have h3:wz A code A[k].id=(k:Int):=by simp_all
   rw [jy h3] at h2
   simpa using h2
  refine fZ ?_;refine K8 _ _ ?_;clear K8;refine bK (fun _ aQ=>?_)
  have sQ:∀ (dV bE:Nat) (v:aj) (G G':GH),(∀ k o,G k=some o→G' k=some o)→(fun (dV bE:Nat) (v:aj) (G:GH)=>match bE with|0=>v=.slice (some ⟨b,o,none⟩) A.length cc|1=>v=vi k|2=>v=(aI b (o+k*5))|3=>v=(aI b (o+k*5+1))|4=>v=vi A[k].id|5=>v=.slice (some ⟨b,o,none⟩) A.length cc|6=>v=vi k|7=>v=(aI b (o+k*5))|8=>v=(aI b (o+k*5+2))|9=>v=.string A[k].name|10=>v=.slice (some ⟨b,o,none⟩) A.length cc|11=>v=vi k|12=>v=(aI b (o+k*5))|13=>v=(aI b (o+k*5+3))|14=>v=.agg #[vi A[k].flow,vi A[k].at_]|15=>v=.agg #[vi A[k].id,.string A[k].name,vi A[k].flow,vi A[k].at_,vi 0,vi 0]|16=>v=(aI dV 0)|_=>True) dV bE v G→(fun (dV bE:Nat) (v:aj) (G:GH)=>match bE with|0=>v=.slice (some ⟨b,o,none⟩) A.length cc|1=>v=vi k|2=>v=(aI b (o+k*5))|3=>v=(aI b (o+k*5+1))|4=>v=vi A[k].id|5=>v=.slice (some ⟨b,o,none⟩) A.length cc|6=>v=vi k|7=>v=(aI b (o+k*5))|8=>v=(aI b (o+k*5+2))|9=>v=.string A[k].name|10=>v=.slice (some ⟨b,o,none⟩) A.length cc|11=>v=vi k|12=>v=(aI b (o+k*5))|13=>v=(aI b (o+k*5+3))|14=>v=.agg #[vi A[k].flow,vi A[k].at_]|15=>v=.agg #[vi A[k].id,.string A[k].name,vi A[k].flow,vi A[k].at_,vi 0,vi 0]|16=>v=(aI dV 0)|_=>True) dV bE v G':=by
   intro dV bE v G G' hm h
   match bE,h with
   | 0,h=>exact h
   | 1,h=>exact h
   | 2,h=>exact h
   | 3,h=>exact h
   | 4,h=>exact h
   | 5,h=>exact h
   | 6,h=>exact h
   | 7,h=>exact h
   | 8,h=>exact h
   | 9,h=>exact h
   | 10,h=>exact h
   | 11,h=>exact h
   | 12,h=>exact h
   | 13,h=>exact h
   | 14,h=>exact h
   | 15,h=>exact h
   | 16,h=>exact h
   | 17,h=>exact trivial
   | _+18,h=>exact trivial
  refine aci (hmx) [[],[],[0,1],[0,1,2],(ra 0 4),[],[],[5,6],[5,6,7],(ra 5 4),[],[],[10,11],[10,11,12],(ra 10 4),(ra 0 15),[],(ra 0 17)] [] (by kernel_rfl) (by kernel_rfl) 16 17 (by decide) (by decide) (by decide) (by decide) (.cells #[vi 0,.string ⟨#[]⟩,vi 0,vi 0,vi 0,vi 0] 55 (0,0)) (.cells #[vi A[k].id,.string A[k].name,vi A[k].flow,vi A[k].at_,vi 0,vi 0] 55 (0,0)) (fun (dV bE:Nat) (v:aj) (G:GH)=>match bE with|0=>v=.slice (some ⟨b,o,none⟩) A.length cc|1=>v=vi k|2=>v=(aI b (o+k*5))|3=>v=(aI b (o+k*5+1))|4=>v=vi A[k].id|5=>v=.slice (some ⟨b,o,none⟩) A.length cc|6=>v=vi k|7=>v=(aI b (o+k*5))|8=>v=(aI b (o+k*5+2))|9=>v=.string A[k].name|10=>v=.slice (some ⟨b,o,none⟩) A.length cc|11=>v=vi k|12=>v=(aI b (o+k*5))|13=>v=(aI b (o+k*5+3))|14=>v=.agg #[vi A[k].flow,vi A[k].at_]|15=>v=.agg #[vi A[k].id,.string A[k].name,vi A[k].flow,vi A[k].at_,vi 0,vi 0]|16=>v=(aI dV 0)|_=>True) (fun b b' i v G hi hc h=>by match i,hi,hc,h with|0,_,_,h=>exact h|1,_,_,h=>exact h|2,_,_,h=>exact h|3,_,_,h=>exact h|4,_,_,h=>exact h|5,_,_,h=>exact h|6,_,_,h=>exact h|7,_,_,h=>exact h|8,_,_,h=>exact h|9,_,_,h=>exact h|10,_,_,h=>exact h|11,_,_,h=>exact h|12,_,_,h=>exact h|13,_,_,h=>exact h|14,_,_,h=>exact h|15,_,_,h=>exact h|16,hi,_,_=>exact absurd hi (by decide)|17,_,hc,_=>exact absurd hc (by decide)|_+18,_,_,_=>exact trivial) H ?_ ?_ ?_ ?_ (by kernel_rfl)
  ·clear H;refine aD ?_ ?_ ?_ ?_ (aD ?_ ?_ ?_ ?_ (aD ?_ ?_ ?_ ?_ (aD ?_ ?_ ?_ ?_ (aZ ?_ (aZ ?_ cu)))))
   ·intro dV mV aV a w G1 mK _ _ _ aX hc hG HT hv;have H:=HT;clear aX;have Hb:=H.full;have H:=Hb;clear hc;refine kH H (Rm rfl ?_);clear H;intro a H;refine aG ⟨rfl,?_⟩;exact gG (by kernel_rfl) (sQ dV) rfl rfl HT Hb hG hv (fun _ _ h=>h) (rfl) H
   ·intro dV mV aV a w G1 mK _ _ _ aX hc hG HT hv;have H:=HT;clear aX;have Hb:=H.full;have H:=Hb;clear hc;refine kH H (Rm rfl ?_);clear H;intro a H;refine aG ⟨rfl,?_⟩;exact gG (by kernel_rfl) (sQ dV) rfl rfl HT Hb hG hv (fun _ _ h=>h) (rfl) H
   ·intro dV mV aV a w G1 mK _ _ _ aX hc hG HT hv;have H:=HT;clear aX;have H:=H.aP (hv 0 34 (hc 0 (by decide)) rfl) rfl;have H:=H.aP (hv 1 35 (hc 1 (by decide)) rfl) rfl;have Hb:=H.full;have H:=Hb;clear hc;refine kH H (Ri ny jX rfl rfl ?_);clear H;intro a H;refine aG ⟨rfl,?_⟩;exact gG (by kernel_rfl) (sQ dV) rfl rfl HT Hb hG hv (fun _ _ h=>h) (rfl) H
   ·intro dV mV aV a w G1 mK _ _ _ aX hc hG HT hv;have H:=HT;clear aX;have H:=H.aP (hv 2 36 (hc 2 (by decide)) rfl) rfl;have Hb:=H.full;have H:=Hb;clear hc;refine kH H (Rf Cj rfl ?_);clear H;intro a H;refine aG ⟨rfl,?_⟩;exact gG (by kernel_rfl) (sQ dV) rfl rfl HT Hb hG hv (fun _ _ h=>h) (rfl) H
   ·intro dV mV aV a w G1 mK _ _ _ aX hc hG HT hv;have H:=HT;clear aX;have H:=H.aP (hv 3 37 (hc 3 (by decide)) rfl) rfl;have Hb:=H.full;have H:=Hb;clear hc;refine kH H (Rg aH rfl (aO hG (hrow 1 _ rfl)) ?_);clear H;intro a H;refine aG ⟨rfl,?_⟩;exact gG (by kernel_rfl) (sQ dV) rfl rfl HT Hb hG hv (fun _ _ h=>h) (rfl) H
   ·intro dV mV aV a w G1 mK _ _ _ aX hc hG HT hv;have H:=HT;clear aX;have Hb:=H.full;have H:=Hb;clear hc;refine kH H (Rm rfl ?_);clear H;intro a H;refine aG ⟨rfl,?_⟩;exact gG (by kernel_rfl) (sQ dV) rfl rfl HT Hb hG hv (fun _ _ h=>h) (rfl) H
   ·intro dV mV aV a w G1 mK _ _ _ aX hc hG HT hv;have H:=HT;clear aX;have Hb:=H.full;have H:=Hb;clear hc;refine kH H (Rm rfl ?_);clear H;intro a H;refine aG ⟨rfl,?_⟩;exact gG (by kernel_rfl) (sQ dV) rfl rfl HT Hb hG hv (fun _ _ h=>h) (rfl) H
   ·intro dV mV aV a w G1 mK _ _ _ aX hc hG HT hv;have H:=HT;clear aX;have H:=H.aP (hv 5 39 (hc 5 (by decide)) rfl) rfl;have H:=H.aP (hv 6 40 (hc 6 (by decide)) rfl) rfl;have Hb:=H.full;have H:=Hb;clear hc;refine kH H (Ri ny jX rfl rfl ?_);clear H;intro a H;refine aG ⟨rfl,?_⟩;exact gG (by kernel_rfl) (sQ dV) rfl rfl HT Hb hG hv (fun _ _ h=>h) (rfl) H
   ·intro dV mV aV a w G1 mK _ _ _ aX hc hG HT hv;have H:=HT;clear aX;have H:=H.aP (hv 7 41 (hc 7 (by decide)) rfl) rfl;have Hb:=H.full;have H:=Hb;clear hc;refine kH H (Rf Ws rfl ?_);clear H;intro a H;refine aG ⟨rfl,?_⟩;exact gG (by kernel_rfl) (sQ dV) rfl rfl HT Hb hG hv (fun _ _ h=>h) (rfl) H
   ·intro dV mV aV a w G1 mK _ _ _ aX hc hG HT hv;have H:=HT;clear aX;have H:=H.aP (hv 8 42 (hc 8 (by decide)) rfl) rfl;have Hb:=H.full;have H:=Hb;clear hc;refine kH H (Rg fV rfl (aO hG (hrow 2 _ rfl)) ?_);clear H;intro a H;refine aG ⟨rfl,?_⟩;exact gG (by kernel_rfl) (sQ dV) rfl rfl HT Hb hG hv (fun _ _ h=>h) (rfl) H
   ·intro dV mV aV a w G1 mK _ _ _ aX hc hG HT hv;have H:=HT;clear aX;have Hb:=H.full;have H:=Hb;clear hc;refine kH H (Rm rfl ?_);clear H;intro a H;refine aG ⟨rfl,?_⟩;exact gG (by kernel_rfl) (sQ dV) rfl rfl HT Hb hG hv (fun _ _ h=>h) (rfl) H
   ·intro dV mV aV a w G1 mK _ _ _ aX hc hG HT hv;have H:=HT;clear aX;have Hb:=H.full;have H:=Hb;clear hc;refine kH H (Rm rfl ?_);clear H;intro a H;refine aG ⟨rfl,?_⟩;exact gG (by kernel_rfl) (sQ dV) rfl rfl HT Hb hG hv (fun _ _ h=>h) (rfl) H
   ·intro dV mV aV a w G1 mK _ _ _ aX hc hG HT hv;have H:=HT;clear aX;have H:=H.aP (hv 10 44 (hc 10 (by decide)) rfl) rfl;have H:=H.aP (hv 11 45 (hc 11 (by decide)) rfl) rfl;have Hb:=H.full;have H:=Hb;clear hc;refine kH H (Ri ny jX rfl rfl ?_);clear H;intro a H;refine aG ⟨rfl,?_⟩;exact gG (by kernel_rfl) (sQ dV) rfl rfl HT Hb hG hv (fun _ _ h=>h) (rfl) H
   ·intro dV mV aV a w G1 mK _ _ _ aX hc hG HT hv;have H:=HT;clear aX;have H:=H.aP (hv 12 46 (hc 12 (by decide)) rfl) rfl;have Hb:=H.full;have H:=Hb;clear hc;refine kH H (Rf xq rfl ?_);clear H;intro a H;refine aG ⟨rfl,?_⟩;exact gG (by kernel_rfl) (sQ dV) rfl rfl HT Hb hG hv (fun _ _ h=>h) (rfl) H
   ·intro dV mV aV a w G1 mK _ _ _ aX hc hG HT hv;have H:=HT;clear aX;have H:=H.aP (hv 13 47 (hc 13 (by decide)) rfl) rfl;have Hb:=H.full;have H:=Hb;clear hc;refine bJ BQ (cs:=[vi A[k].flow,vi A[k].at_]) H wn rfl rfl (fun j v hj=>H.hp.aJ (aO hG (by match j,hj with|0,hj=>exact hrow 3 v hj|1,hj=>exact hrow 4 v hj))) rfl ?_;clear H;intro a H;refine aG ⟨rfl,?_⟩;exact gG (by kernel_rfl) (sQ dV) rfl rfl HT Hb hG hv (fun _ _ h=>h) (rfl) H
   ·intro dV mV aV a w G1 mK _ _ _ aX hc hG HT hv;have H:=HT;clear aX;have H:=H.aP (hv 4 38 (hc 4 (by decide)) rfl) rfl;have H:=H.aP (hv 9 43 (hc 9 (by decide)) rfl) rfl;have H:=H.aP (hv 14 48 (hc 14 (by decide)) rfl) rfl;have Hb:=H.full;have H:=Hb;clear hc;refine jR JX [_,_,_,_,_,_] H wn rfl rfl rfl rfl ?_;clear H;intro a H;refine aG ⟨rfl,?_⟩;exact gG (by kernel_rfl) (sQ dV) rfl rfl HT Hb hG hv (fun _ _ h=>h) (rfl) H
   ·intro _ _ _ _ _ _ _ _ hB;exact absurd hB (by decide)
   intro _ _ _ _ _ _ _ _ _ hB;exact absurd hB (by decide)
  ·clear H;intro o_ aV a w G1 vw _ hc hG HT hv;obtain rfl:_=o_:=Option.some.inj vw;clear vw;have H:=HT;have Hb:=H.full;have H:=Hb;clear hc;refine eB jD H wn rfl ?_;clear H;intro b7 a w Em H;refine aG ⟨rfl,b7,?_⟩;exact Oy (by kernel_rfl) rfl HT Hb hG (fun j e h1 h2 h3=>hv _ j e h1 h2 h3) (rfl) H
  ·clear H;intro o_ dV aV a w G1 vw _ hc hG HT hv;obtain rfl:_=o_:=Option.some.inj vw;clear vw;have H:=HT;have H:=H.aP (hv 16 7 (hc 16 (by decide)) rfl) rfl;have H:=H.aP (hv 15 49 (hc 15 (by decide)) rfl) rfl;have Hb:=H.full;have H:=Hb;clear hc;refine bM jD 0 (vs:=[_,_,_,_,_,_]) _ H wn rfl rfl rfl rfl rfl rfl rfl rfl ?_;clear H;intro w H;dsimp only [List.set,setRow] at H;refine aG ⟨rfl,?_⟩;exact adF rfl HT hG hv H
  clear H;intro b7 a w G iq H hv;have H:=H.aP (hv 16 7 rfl rfl) rfl;clear hv;refine aG ⟨rfl,?_⟩;refine aQ _ _ ?_;clear aQ;refine kP H (SR fun _ bH=>Rf uT rfl (aT sJ aH 0 rfl rfl (Rd rfl (Rf uT rfl (Rf sJ rfl ?_)))));clear H;intro a H;refine bM aH 0 (vs:=[_]) _ H wn rfl rfl rfl rfl rfl rfl rfl rfl ?_;clear H;intro w H;dsimp only [List.set,setRow] at H;refine bH _ _ ?_;clear bH;refine kP H (SR fun _ bL=>Rf uT rfl ?_);clear H;intro a H;refine bJ BQ (cs:=[_,_]) H wn rfl rfl (H.hp.dL 0 rfl rfl) rfl ?_;clear H;intro a H;refine kH H (Rf Ck rfl ?_);clear H;intro a H;refine bM BQ 0 (vs:=[_,_]) _ H wn rfl rfl rfl rfl rfl rfl rfl rfl ?_;clear H;intro w H;dsimp only [List.set,setRow] at H;refine bL _ _ ?_;clear bL;refine pE (ι:=Int × Int × GH) (Tc:=[(0,_),(1,_),(5,_),(6,_),(7,_)]) (Lc:=[]) (fun gh=>[]) (fun gh=>[(b7,.cells #[vi A[k].id,.string A[k].name,vi A[k].flow,vi (A[k].at_+1),vi gh.1,vi gh.2.1] 55 (0,0))]++Lo) (fun gh=>gh.2.2) (fun gh=>(gh.1,gh.2.1)=yw A code A[k]∧(∀ b o,g b=some o→gh.2.2 b=some o)) (by exact (H).sub ⟨rfl,rfl,rfl,rfl,rfl,aB⟩) ?_ ?_
  ·skip;refine kP H (SR fun _ bR=>Rm rfl (Rm rfl (Rd rfl (Rm rfl (Rm rfl (Ri ny jX rfl rfl (Rf Cj rfl (Rg aH rfl (aO iq (hrow 1 _ rfl)) ?_))))))));clear H;intro a H;refine s_call VK H wn rfl (Wy _ _ H.ro A _ (code+1) A[k].id ((hv.mono hgm).mono iq) (by omega)) rfl ?_;clear H;rintro v67 _ a w ⟨rfl,rfl⟩ - H;obtain ⟨K,hK⟩:∃ K,K=wz A (code+1) A[k].id:=⟨_,rfl⟩;rw [← hK] at H;obtain ⟨q,hq⟩:∃ q,q=(mI A (code+1) A[k].id).getD BS:=⟨_,rfl⟩
   have hrow':0≤K→∃ j:Nat,K=j∧j < A.length∧mI A (code+1) A[k].id=some q∧∀ i u,q.cells[i]?=some u→aJ G b (o+j*5+i)=some u:=by
    intro h0;rw [hK] at h0;obtain ⟨j,hj,e1,e2⟩:=Yg h0
    have hqe:q=A[j]:=by rw [hq,e2];rfl
    obtain ⟨b2,o2,e3,hrow2⟩:=Ik ((hv.mono hgm).mono iq) hj
    injection e3 with e3
    injection e3 with e4 e5 _
    subst e4;subst e5;exact ⟨j,by rw [hK,e1],hj,by rw [hqe];exact e2,by rw [hqe];exact hrow2⟩
   refine kH H (ak bR rfl (SQ fun _ bQ=>?_));clear H bR;intro a H;have hjj:=hrow'
   by_cases c0:0≤K
   ·skip
    by_cases c1:q.flow=A[k].flow
    ·skip;refine dI hmx [[],[0],[0,1],[0,1,2],[0,1,2],(ra 0 5),(ra 0 6),(ra 0 7),(ra 0 8),[0,1,2],[0,1,2,9],[0,1,2,9,10],(ra 0 12),(ra 0 13),(ra 0 14),(ra 0 15),(ra 0 15),(ra 0 17),(ra 0 18),(ra 0 19),(ra 0 20),(ra 0 15),(ra 0 15++[21]),(ra 0 15++[21,22]),(ra 0 24),(ra 0 25)] [] (by kernel_rfl) [_,_,_,_,_,(aI b (o+K.toNat*5)),_,_,vi q.flow,_,_,vi A[k].flow,_,_,_,_,_,(aI b (o+K.toNat*5)),_,_,vi q.at_,_,_,vi (A[k].at_+1),_,_] H (aD (Z0 rfl (Rm rfl)) (Z1 0 68 rfl (Rc rfl)) (Z1 1 69 rfl (Rm rfl)) (Z1 2 70 rfl (YM (aA c0) rfl)) (aD (Z1 2 70 rfl (YM (aA c0) rfl)) ?_ (Z2 5 73 2 70 rfl (YF xq (aA c0) rfl)) (Z2 6 74 2 70 rfl (YF AU (aA c0) rfl)) (aD ?_ (Z1 2 70 rfl (YF uT (aA c0) rfl)) (Z2 9 77 2 70 rfl (YF AU (aA c0) rfl)) (Z2 10 78 2 70 rfl (YO aH 0 (aA c0) rfl)) (aD (Z3 8 76 11 79 2 70 rfl (YC (aA c0) rfl)) (Z2 2 70 12 80 rfl (Pt (aA c0) rfl)) (Z1 13 81 rfl (Rm rfl)) (Z1 14 82 rfl (YM (aA c1) rfl)) (aD (Z1 14 82 rfl (YM (aA c1) rfl)) ?_ (Z2 17 85 14 82 rfl (YF xq (aA c1) rfl)) (Z2 18 86 14 82 rfl (YF sJ (aA c1) rfl)) (aD ?_ (Z1 14 82 rfl (YF uT (aA c1) rfl)) (Z2 21 89 14 82 rfl (YF sJ (aA c1) rfl)) (Z2 22 90 14 82 rfl (YO aH 0 (aA c1) rfl)) (aZ (Z3 20 88 23 91 14 82 rfl (YC (aA c1) rfl)) (aZ (Z2 14 82 24 92 rfl (Pt (aA c1) rfl)) cu)))))))) ?_
     ·refine nD 3 71 4 72 2 70 rfl rfl fun _ a w G1 hG HT H fin=>?_;obtain ⟨j,e1,hj,e2,yM⟩:=hrow' c0;refine vF ny jX K.toNat H (wg H rfl rfl (aA c0)) rfl rfl (by omega) (by omega) rfl ?_;clear H;intro a H;exact fin H iJ rfl
     ·refine bZ 7 75 2 70 rfl rfl fun _ a w G1 hG HT H fin=>?_;obtain ⟨j,e1,hj,e2,yM⟩:=hrow' c0;exact kH H (YR aH (aA c0) rfl (aO hG (by have:=yM 3 _ rfl;rw [e1];exact this)) fun _ H=>fin H iJ rfl)
     ·refine nD 15 83 16 84 14 82 rfl rfl fun _ a w G1 hG HT H fin=>?_;obtain ⟨j,e1,hj,e2,yM⟩:=hrow' c0;refine vF ny jX K.toNat H (wg H rfl rfl (aA c1)) rfl rfl (by omega) (by omega) rfl ?_;clear H;intro a H;exact fin H iJ rfl
     ·refine bZ 19 87 14 82 rfl rfl fun _ a w G1 hG HT H fin=>?_;obtain ⟨j,e1,hj,e2,yM⟩:=hrow' c0;exact kH H (YR aH (aA c1) rfl (aO hG (by have:=yM 4 _ rfl;rw [e1];exact this)) fun _ H=>fin H iJ rfl)
     clear H;intro a w G kW H hv;have H:=H.aP (hv 25 93 rfl rfl) rfl;clear hv;refine aG ⟨rfl,?_⟩;refine bQ _ _ ?_;clear bQ;refine kS H rfl ?_ ?_
     ·intro Ef
      try have p93:=dT Ef
      refine kP H (SC (Rm rfl (Rm rfl ?_)));clear H;intro a H;obtain ⟨j,e1,hj,e2,yM⟩:=hrow' c0;refine vF ny jX j H wn rfl rfl e1 hj rfl ?_;clear H;intro a H;refine kH H (Rf xq rfl ?_);clear H;intro a H;refine bJ BQ (cs:=[vi q.flow,vi q.at_]) H wn rfl rfl (fun i v hi=>H.hp.aJ (aO kW (by match i,hi with|0,hi=>exact yM 3 v hi|1,hi=>exact yM 4 v hi))) rfl ?_;clear H;intro a H;refine kH H (Rf Ck rfl ?_);clear H;intro a H;refine bM BQ 0 (vs:=[_,_]) _ H wn rfl rfl rfl rfl rfl rfl rfl rfl ?_;clear H;intro w H;dsimp only [List.set,setRow] at H;refine aG ?_;refine ⟨(q.flow,q.at_,_),by exact (H).sub ⟨rfl,rfl,rfl,rfl,rfl,aB⟩,?_⟩;(try dsimp only);obtain ⟨j,e1,hj,e2,-⟩:=hrow' c0;exact ⟨(VU ⟨e2,c1,by have:=oG Ef;omega⟩).symm,fun b o h=>kW b o (iq b o h)⟩
     intro Ef
     try have p93:=dF Ef
     refine fZ ?_;refine ⟨(A[k].flow,A[k].at_+1,_),by exact (H).sub ⟨rfl,rfl,rfl,rfl,rfl,aB⟩,?_⟩;(try dsimp only);refine ⟨(FM ?_).symm,fun b o h=>kW b o (iq b o h)⟩
     by_cases h0:0≤K
     ·obtain ⟨j,e1,hj,e2,-⟩:=hrow' h0;rw [e2];dsimp only;rintro ⟨f1,f2⟩
      first|exact absurd f1 c1|(have:=of_decide_eq_false Ef;omega)|exact absurd h0 c0
     rw [QV (by rw [← hK];exact h0)];trivial
    skip;refine dI hmx [[],[0],[0,1],[0,1,2],[0,1,2],(ra 0 5),(ra 0 6),(ra 0 7),(ra 0 8),[0,1,2],[0,1,2,9],[0,1,2,9,10],(ra 0 12),(ra 0 13),(ra 0 14),(ra 0 15),(ra 0 15),(ra 0 17),(ra 0 18),(ra 0 19),(ra 0 20),(ra 0 15),(ra 0 15++[21]),(ra 0 15++[21,22]),(ra 0 24),(ra 0 25)] [] (by kernel_rfl) [_,_,_,_,_,(aI b (o+K.toNat*5)),_,_,vi q.flow,_,_,vi A[k].flow,_,_,_,undef,undef,undef,undef,undef,undef,undef,undef,undef,undef,_] H (aD (Z0 rfl (Rm rfl)) (Z1 0 68 rfl (Rc rfl)) (Z1 1 69 rfl (Rm rfl)) (Z1 2 70 rfl (YM (aA c0) rfl)) (aD (Z1 2 70 rfl (YM (aA c0) rfl)) ?_ (Z2 5 73 2 70 rfl (YF xq (aA c0) rfl)) (Z2 6 74 2 70 rfl (YF AU (aA c0) rfl)) (aD ?_ (Z1 2 70 rfl (YF uT (aA c0) rfl)) (Z2 9 77 2 70 rfl (YF AU (aA c0) rfl)) (Z2 10 78 2 70 rfl (YO aH 0 (aA c0) rfl)) (aD (Z3 8 76 11 79 2 70 rfl (YC (aA c0) rfl)) (Z2 2 70 12 80 rfl (Pt (aA c0) rfl)) (Z1 13 81 rfl (Rm rfl)) (aK (j:=14) (by kernel_rfl) (fun _ _ _ _ _ h=>h) rfl rfl rfl rfl rfl (fun _ _ h=>aL h (aF (aN c1))) rfl (fun _=>rfl)) (aD (aK (j:=14) (by kernel_rfl) (fun _ _ _ _ _ h=>h) rfl rfl rfl rfl rfl (fun _ _ h=>aL h (aF (aN c1))) rfl (fun _=>rfl)) (aK (j:=14) (by kernel_rfl) (fun _ _ _ _ _ h=>h) rfl rfl rfl rfl rfl (fun _ _ h=>aL h (aF (aN c1))) rfl (fun _=>rfl)) (aK (j:=14) (by kernel_rfl) (fun _ _ _ _ _ h=>h) rfl rfl rfl rfl rfl (fun _ _ h=>aL h (aF (aN c1))) rfl (fun _=>rfl)) (aK (j:=14) (by kernel_rfl) (fun _ _ _ _ _ h=>h) rfl rfl rfl rfl rfl (fun _ _ h=>aL h (aF (aN c1))) rfl (fun _=>rfl)) (aD (aK (j:=14) (by kernel_rfl) (fun _ _ _ _ _ h=>h) rfl rfl rfl rfl rfl (fun _ _ h=>aL h (aF (aN c1))) rfl (fun _=>rfl)) (aK (j:=14) (by kernel_rfl) (fun _ _ _ _ _ h=>h) rfl rfl rfl rfl rfl (fun _ _ h=>aL h (aF (aN c1))) rfl (fun _=>rfl)) (aK (j:=14) (by kernel_rfl) (fun _ _ _ _ _ h=>h) rfl rfl rfl rfl rfl (fun _ _ h=>aL h (aF (aN c1))) rfl (fun _=>rfl)) (aK (j:=14) (by kernel_rfl) (fun _ _ _ _ _ h=>h) rfl rfl rfl rfl rfl (fun _ _ h=>aL h (aF (aN c1))) rfl (fun _=>rfl)) (aZ (aK (j:=14) (by kernel_rfl) (fun _ _ _ _ _ h=>h) rfl rfl rfl rfl rfl (fun _ _ h=>aL h (aF (aN c1))) rfl (fun _=>rfl)) (aZ (Z2 14 82 24 92 rfl (Pf (aN c1) rfl)) cu)))))))) ?_
    ·refine nD 3 71 4 72 2 70 rfl rfl fun _ a w G1 hG HT H fin=>?_;obtain ⟨j,e1,hj,e2,yM⟩:=hrow' c0;refine vF ny jX K.toNat H (wg H rfl rfl (aA c0)) rfl rfl (by omega) (by omega) rfl ?_;clear H;intro a H;exact fin H iJ rfl
    ·refine bZ 7 75 2 70 rfl rfl fun _ a w G1 hG HT H fin=>?_;obtain ⟨j,e1,hj,e2,yM⟩:=hrow' c0;exact kH H (YR aH (aA c0) rfl (aO hG (by have:=yM 3 _ rfl;rw [e1];exact this)) fun _ H=>fin H iJ rfl)
    clear H;intro a w G kW H hv;have H:=H.aP (hv 25 93 rfl rfl) rfl;clear hv;refine aG ⟨rfl,?_⟩;refine bQ _ _ ?_;clear bQ;refine mX H rfl rfl ?_;refine fZ ?_;refine ⟨(A[k].flow,A[k].at_+1,_),by exact (H).sub ⟨rfl,rfl,rfl,rfl,rfl,aB⟩,?_⟩;(try dsimp only);refine ⟨(FM ?_).symm,fun b o h=>kW b o (iq b o h)⟩
    by_cases h0:0≤K
    ·obtain ⟨j,e1,hj,e2,-⟩:=hrow' h0;rw [e2];dsimp only;rintro ⟨f1,f2⟩
     first|exact absurd f1 c1|(have:=of_decide_eq_false Ef;omega)|exact absurd h0 c0
    rw [QV (by rw [← hK];exact h0)];trivial
   skip;refine dI hmx [[],[0],[0,1],[0,1,2],[0,1,2],(ra 0 5),(ra 0 6),(ra 0 7),(ra 0 8),[0,1,2],[0,1,2,9],[0,1,2,9,10],(ra 0 12),(ra 0 13),(ra 0 14),(ra 0 15),(ra 0 15),(ra 0 17),(ra 0 18),(ra 0 19),(ra 0 20),(ra 0 15),(ra 0 15++[21]),(ra 0 15++[21,22]),(ra 0 24),(ra 0 25)] [] (by kernel_rfl) [_,_,_,undef,undef,undef,undef,undef,undef,undef,undef,undef,undef,_,_,undef,undef,undef,undef,undef,undef,undef,undef,undef,undef,_] H (aD (Z0 rfl (Rm rfl)) (Z1 0 68 rfl (Rc rfl)) (Z1 1 69 rfl (Rm rfl)) (aK (j:=2) (by kernel_rfl) (fun _ _ _ _ _ h=>h) rfl rfl rfl rfl rfl (fun _ _ h=>aL h (aF (aN c0))) rfl (fun _=>rfl)) (aD (aK (j:=2) (by kernel_rfl) (fun _ _ _ _ _ h=>h) rfl rfl rfl rfl rfl (fun _ _ h=>aL h (aF (aN c0))) rfl (fun _=>rfl)) (aK (j:=2) (by kernel_rfl) (fun _ _ _ _ _ h=>h) rfl rfl rfl rfl rfl (fun _ _ h=>aL h (aF (aN c0))) rfl (fun _=>rfl)) (aK (j:=2) (by kernel_rfl) (fun _ _ _ _ _ h=>h) rfl rfl rfl rfl rfl (fun _ _ h=>aL h (aF (aN c0))) rfl (fun _=>rfl)) (aK (j:=2) (by kernel_rfl) (fun _ _ _ _ _ h=>h) rfl rfl rfl rfl rfl (fun _ _ h=>aL h (aF (aN c0))) rfl (fun _=>rfl)) (aD (aK (j:=2) (by kernel_rfl) (fun _ _ _ _ _ h=>h) rfl rfl rfl rfl rfl (fun _ _ h=>aL h (aF (aN c0))) rfl (fun _=>rfl)) (aK (j:=2) (by kernel_rfl) (fun _ _ _ _ _ h=>h) rfl rfl rfl rfl rfl (fun _ _ h=>aL h (aF (aN c0))) rfl (fun _=>rfl)) (aK (j:=2) (by kernel_rfl) (fun _ _ _ _ _ h=>h) rfl rfl rfl rfl rfl (fun _ _ h=>aL h (aF (aN c0))) rfl (fun _=>rfl)) (aK (j:=2) (by kernel_rfl) (fun _ _ _ _ _ h=>h) rfl rfl rfl rfl rfl (fun _ _ h=>aL h (aF (aN c0))) rfl (fun _=>rfl)) (aD (aK (j:=2) (by kernel_rfl) (fun _ _ _ _ _ h=>h) rfl rfl rfl rfl rfl (fun _ _ h=>aL h (aF (aN c0))) rfl (fun _=>rfl)) (Z2 2 70 12 80 rfl (Pf (aN c0) rfl)) (Z1 13 81 rfl (Rm rfl)) (aK (j:=14) (by kernel_rfl) (fun _ _ _ _ _ h=>h) rfl rfl rfl rfl rfl (fun _ _ h=>aL h (aF rfl)) rfl (fun _=>rfl)) (aD (aK (j:=14) (by kernel_rfl) (fun _ _ _ _ _ h=>h) rfl rfl rfl rfl rfl (fun _ _ h=>aL h (aF rfl)) rfl (fun _=>rfl)) (aK (j:=14) (by kernel_rfl) (fun _ _ _ _ _ h=>h) rfl rfl rfl rfl rfl (fun _ _ h=>aL h (aF rfl)) rfl (fun _=>rfl)) (aK (j:=14) (by kernel_rfl) (fun _ _ _ _ _ h=>h) rfl rfl rfl rfl rfl (fun _ _ h=>aL h (aF rfl)) rfl (fun _=>rfl)) (aK (j:=14) (by kernel_rfl) (fun _ _ _ _ _ h=>h) rfl rfl rfl rfl rfl (fun _ _ h=>aL h (aF rfl)) rfl (fun _=>rfl)) (aD (aK (j:=14) (by kernel_rfl) (fun _ _ _ _ _ h=>h) rfl rfl rfl rfl rfl (fun _ _ h=>aL h (aF rfl)) rfl (fun _=>rfl)) (aK (j:=14) (by kernel_rfl) (fun _ _ _ _ _ h=>h) rfl rfl rfl rfl rfl (fun _ _ h=>aL h (aF rfl)) rfl (fun _=>rfl)) (aK (j:=14) (by kernel_rfl) (fun _ _ _ _ _ h=>h) rfl rfl rfl rfl rfl (fun _ _ h=>aL h (aF rfl)) rfl (fun _=>rfl)) (aK (j:=14) (by kernel_rfl) (fun _ _ _ _ _ h=>h) rfl rfl rfl rfl rfl (fun _ _ h=>aL h (aF rfl)) rfl (fun _=>rfl)) (aZ (aK (j:=14) (by kernel_rfl) (fun _ _ _ _ _ h=>h) rfl rfl rfl rfl rfl (fun _ _ h=>aL h (aF rfl)) rfl (fun _=>rfl)) (aZ (Z2 14 82 24 92 rfl (Pf rfl rfl)) cu)))))))) ?_
   clear H;intro a w G kW H hv;have H:=H.aP (hv 25 93 rfl rfl) rfl;clear hv;refine aG ⟨rfl,?_⟩;refine bQ _ _ ?_;clear bQ;refine mX H rfl rfl ?_;refine fZ ?_;refine ⟨(A[k].flow,A[k].at_+1,_),by exact (H).sub ⟨rfl,rfl,rfl,rfl,rfl,aB⟩,?_⟩;(try dsimp only);refine ⟨(FM ?_).symm,fun b o h=>kW b o (iq b o h)⟩
   by_cases h0:0≤K
   ·obtain ⟨j,e1,hj,e2,-⟩:=hrow' h0;rw [e2];dsimp only;rintro ⟨f1,f2⟩
    first|exact absurd f1 c1|(have:=of_decide_eq_false Ef;omega)|exact absurd h0 c0
   rw [QV (by rw [← hK];exact h0)];trivial
  clear H;intro gh a w hI H;obtain ⟨tf,ta,g12⟩:=gh;dsimp only at hI H;obtain ⟨hend,ahE⟩:=hI;dsimp only [lca,bG] at H;refine kP H (SC (Rm rfl ?_));clear H;intro a H;refine bJ jD (cs:=[_,_,_,_,_,_]) H wn rfl rfl (H.hp.dL 0 rfl rfl) rfl ?_;clear H;intro a H;refine gX uF jD [_,_,_,_,_,_] [_,_,_,_,_,_] H wn rfl rfl rfl rfl rfl (by intro i q h;match i,h with|0,h=>exact h|n+1,h=>simp at h) rfl rfl ?_;clear H;intro anm a w anu H;refine oz (Li:=[_,_]) (Lo:=Lo) (news:=[vi A[k].id,.string A[k].name,vi A[k].flow,vi (A[k].at_+1),vi tf,vi ta]) uF jD rfl rfl H wn rfl rfl hrw rfl (H.hp.dL 0 rfl rfl) rfl (by omega) (by omega) rfl ?_;clear H;intro amQ abe a w XI H;rw [show [vi A[k].id,Value.string A[k].name,vi A[k].flow,vi (A[k].at_+1),vi tf,vi ta]=(zk A code A[k]).cells by simp only [zk,jO.cells,← hend]] at XI;refine kH H (aU K7 rfl (SC (Rm rfl (Rd rfl (Ra rfl ?_)))));clear H K7;intro a H;refine aG ?_;refine dh ((k+1,amQ,abe,_)) (by exact (H.dP (Pl:=[_,_]) (dD:=[]) [] (by decide) rfl).sub ⟨rfl,rfl,rfl,rfl,aB⟩) ?_ ?_
  ·(try dsimp only);exact ⟨by omega,by rw [Z8 hk2 hst,iM,Z7];exact XI,fun b o h=>ahE b o (hgm b o h)⟩
  first|omega|(dsimp only;omega)
 intro h12 a H
 try have qE:=dF h12
 obtain rfl:k=A.length:=by omega
 have hall:rX A code A.length=nP A code:=by unfold rX nP;rw [wS]
 rw [hall] at hrw;refine dW ?_;refine K3 _ _ ?_;clear K3;refine kP H (SR fun _ dJ=>Rm rfl (ak dJ rfl ?_));clear H dJ;intro a H;refine lr H results15 rfl ?_;obtain ⟨Gr,hmr,hrep,H⟩:=St.um (Li:=[]) H hrw (rows:=(nP A code).map jO.dat) (by simp) (Si _ _);exact H.rt (by rw [hall];exact hrep)
theorem O5:Kg prog 55 [(0,0),(1,1),(2,2),(4,2)]:=⟨by kernel_rfl,by kernel_rfl,by kernel_rfl,by kernel_rfl,by kernel_rfl⟩
theorem M6 {G:GH} {A:List jO} {v:Option Addr} {n c k:Nat} (h:ay G (.sl 6 (A.map jO.dat)) (.slice v n c)) (hk:k < A.length):∃ b o,v=some ⟨b,o,none⟩∧∀ j u,A[k].cells[j]?=some u→aJ G b (o+k*6+j)=some u:=by
 obtain ⟨b,o,cs,rfl,hcl,hrow,hr⟩:=h.at_ k A[k].dat (by simp [hk]);obtain rfl:=aad hr;exact ⟨b,o,rfl,hrow⟩
end
section
open Go.RowKit
theorem aeO:∀ args w,(callFunc 37 args).run prog w=.ok (.enter 37 args) w:=enters func37 rfl (by kernel_rfl)
theorem Wt:cB prog 55 1 1:=⟨by kernel_rfl⟩
theorem Vy:∀ args w,(callFunc 14 args).run prog w=.ok (.enter 14 args) w:=enters func14 rfl (by kernel_rfl)
theorem aeQ:∀ args w,(callFunc 46 args).run prog w=.ok (.enter 46 args) w:=enters func46 rfl (by kernel_rfl)
theorem aeR:∀ args w,(callFunc 47 args).run prog w=.ok (.enter 47 args) w:=enters func47 rfl (by kernel_rfl)
theorem UO (G:GH) (w0:World) (hG:Hold G w0) (D:nA) (l:List au) (hv:ay G (.sl 11 (l.map au.dat)) (fD D.f)) (hok:dQ l) (hz:bg l≤1073741824) :
  Calls prog 14 #[D.val] w0 (bq w0 G fun u G'=>ay G' (.sl 6 ((nP (dX 0 0 l) 1).map jO.dat)) u):=by
 refine eN [(0,_)] func14 rfl ntmps14 rfl rfl hG ?_;intro a H;refine dH (fun _ K1=>?_);refine fC (cs:=[_,_,_,_,_,_,_,_,_,_,_]) H wn rfl rfl rfl ?_;clear H;intro b1 a w hb1 H;refine kH H (ak K1 rfl (SQ fun _ K2=>?_));clear H K1;intro a H;obtain ⟨Ga,hma,hb',H⟩:=H.eu;have hga:=fun j v hj=>zN hb' 0 D.cells rfl j v hj;refine oH ?_;refine bJ rY (cs:=D.cells) H wn rfl rfl (fun j v hj=>H.hp.aJ (hga j v hj)) rfl ?_;clear H;intro a H;refine s_call aeO H wn rfl (aml _ _ H.ro D l (hv.mono hma) hok hz 1 (by omega)) rfl ?_;clear H;rintro v4 G4 a w hr F5 H;obtain ⟨A4,n4,c4,rfl⟩:=hr.form;exact kH H (aU K2 rfl (LR results14 rfl fun H=>H.rt hr))
theorem agf {G:GH} {b:Nat} {s:ByteArray} (hb:aJ G b 0=some (.string s)) (x:jO):vN (.func (.func 47) #[] #[(aI b 0)]) G x.dat (decide (x.name=s)):=by
 intro G1 w0 cs hm hG hr;obtain rfl:=aad hr;refine lN (caps:=[(aI b 0)]) aeR ?_;replace hb:=aO hm hb;refine eN [(0,_),(1,_)] func47 rfl ntmps47 rfl rfl hG ?_;intro a H;refine dH (fun _ K1=>?_);refine fC (cs:=[_,_,_,_,_,_]) H wn rfl rfl rfl ?_;clear H;intro b2 a w hb2 H;refine kH H (ak K1 rfl (SR fun _ K2=>aT Wt fV 0 rfl rfl (Rg fV rfl hb ?_)));clear H K1;intro a H;refine xI H wn rfl rfl rfl ?_;clear H;intro a H;exact kH H (ak K2 rfl (LR results47 rfl fun H=>H.rt (aF (by rw [og,decide_eq_true_iff,beq_iff_eq];exact ⟨Oc,fun h=>by rw [h]⟩))))
theorem aiL (G:GH) (w0:World) (hG:Hold G w0) (l:List jO) (p:jO→Bool) (v fv:aj) (hv:ay G (.sl 6 (l.map jO.dat)) v) (hf:∀ x∈l,vN fv G x.dat (p x)) :
  Calls prog 46 #[v,fv] w0 (bq w0 G fun u G'=>u=vi (oq (l.findIdx? p))):=by
 obtain ⟨A,c,rfl,hc1,hc2,-⟩:=hv.slice;have hml:maxLen=9223372036854775807:=rfl;rw [bV] at *;refine eN [(0,_),(1,_)] func46 rfl ntmps46 rfl rfl hG ?_;intro a H;refine kP H (SR fun _ K1=>ak K1 rfl (SQ fun _ K2=>SR fun _ K3=>Rm rfl (Rl uF rfl (Rm rfl (Kz K3 (SB ?_))))));clear H K1 K3;intro a H;skip;refine eU (ι:=Nat × GH) (Tc:=[(0,_),(1,_),(7,_)]) (Lc:=[]) (fun gh=>[(8,vi gh.1)]) (fun gh=>[]) (fun gh=>gh.2) (fun gh=>gh.1≤l.length∧(l.take gh.1).findIdx? p=none∧(∀ b o,G b=some o→gh.2 b=some o)) (fun gh=>l.length - gh.1) ((0,G)) (by exact (H).sub ⟨rfl,rfl,rfl,rfl,aB⟩) ?_ ?_
 ·exact ⟨by omega,rfl,fun _ _ h=>h⟩
 clear H;intro gh a w hI H;obtain ⟨k,g⟩:=gh;dsimp only at hI H;obtain ⟨hk,hno,hgm⟩:=hI;dsimp only [lca,bG] at H;refine kP H (SR fun _ K4=>Rc rfl (Kz K4 (SQ fun _ K5=>Cd rfl ?_ ?_))) <;> clear H K4
 ·intro h9 a H
  try have p9:=dT h9
  have hk2:k < l.length:=by omega
  obtain ⟨b,o,rfl,hrow⟩:=M6 hv hk2;refine kP H (Kc K5 (SQ fun _ K6=>SB (SR fun _ K7=>Rm rfl (ak K7 rfl (SR fun _ K8=>Rm rfl (Rm rfl (Rm rfl (Ri uF jD rfl rfl ?_))))))));clear H K5 K7;intro a H;refine bJ jD (cs:=l[k].cells) H wn rfl rfl (fun j v hj=>H.hp.aJ (aO hgm (hrow j v hj))) rfl ?_;clear H;intro a H;refine qF H wn rfl rfl (hf _ (iF hk2) _ _ _ hgm H.ro (aae _ l[k])) rfl ?_;clear H;rintro v16 ru a w rfl qR H;refine K8 _ _ ?_;clear K8;refine kS H rfl ?_ ?_
  ·intro h16
   try have p16:=dT h16
   refine kP H (SR fun _ K9=>Rm rfl (ak K9 rfl ?_));clear H K9;intro a H;refine lr H results46 rfl ?_
   first
    | exact H.rt (by rw [vD hk2 hno h16];rfl)
    | exact H.rt (by rw [show l.take k=l from jF (by omega)] at hno;rw [hno];rfl)
  intro h16
  try have p16:=dF h16
  refine kP H (Kc K6 (SC (Rd rfl (Rm rfl ?_))));clear H K6;intro a H;refine aG ?_;refine dh ((k+1,ru)) (by exact (H).sub ⟨rfl,rfl,rfl,rfl,aB⟩) ?_ ?_
  ·(try dsimp only);exact ⟨by omega,Bw hk2 hno h16,fun b o h=>qR b o (hgm b o h)⟩
  first|omega|(dsimp only;omega)
 intro h9 a H
 try have p9:=dF h9
 refine dW ?_;refine K2 _ _ ?_;clear K2;refine kP H (SR fun _ aQ=>ak aQ rfl ?_);clear H aQ;intro a H;refine lr H results46 rfl ?_
 first
  | exact H.rt (by rw [vD hk2 hno h16];rfl)
  | exact H.rt (by rw [show l.take k=l from jF (by omega)] at hno;rw [hno];rfl)
def aaZ:jO:=⟨0,⟨#[]⟩,0,0,0,0⟩
def uh (l:List au) (s:ByteArray):Option jO:=(nP (dX 0 0 l) 1).find? fun x=>decide (x.name=s)
theorem aiT {l:List jO} {p:jO→Bool}:(¬ 0≤oq (l.findIdx? p)→l.find? p=none)∧(0≤oq (l.findIdx? p)→∃ (k:Nat) (hk:k < l.length),oq (l.findIdx? p)=k∧l.find? p=some l[k]):=by
 cases h:l.findIdx? p with
 | none =>
  refine ⟨fun _=>?_,fun h=>absurd h (by decide)⟩;rw [List.find?_eq_none];intro x hx;have:=List.findIdx?_eq_none_iff.1 h x hx
  simp [this]
 | some k =>
  obtain ⟨hk,h1,h2⟩:=List.findIdx?_eq_some_iff_getElem.1 h;refine ⟨fun hn=>absurd (Int.natCast_nonneg k) hn,fun _=>⟨k,hk,rfl,?_⟩⟩;rw [List.find?_eq_some_iff_getElem];exact ⟨h1,k,hk,rfl,fun j hj=>by simpa using h2 j hj⟩
theorem KG (G:GH) (w0:World) (hG:Hold G w0) (D:nA) (l:List au) (s:ByteArray) (hv:ay G (.sl 11 (l.map au.dat)) (fD D.f)) (hok:dQ l) (hz:bg l≤1073741824) :
  Calls prog 26 #[D.val,.string s] w0 (bq w0 G fun u G'=>u=.tuple #[.agg ((uh l s).getD aaZ).cells.toArray,.bool (uh l s).isSome]):=by
 refine eN [(0,_),(1,_)] func26 rfl ntmps26 rfl rfl hG ?_;intro a H;refine dH (fun _ K1=>?_);refine fC (cs:=[_,_,_,_,_,_,_,_,_,_,_]) H wn rfl rfl rfl ?_;clear H;intro b2 a w hb2 H;refine fC (cs:=[_]) H wn rfl rfl rfl ?_;clear H;intro b3 a w hb3 H;refine eB jD H wn rfl ?_;clear H;intro b4 a w hb4 H;refine kH H (ak K1 rfl (SQ fun _ K2=>?_));clear H K1;intro a H;have H:=H.dP (Pl:=[_,_,_]) (dD:=[_,_,_]) [2,1,0] (by decide) rfl;obtain ⟨Ga,hma,hb',H⟩:=H.eu;obtain ⟨Gb,hmb,Bh,H⟩:=H.eu;have hga:=fun j v hj=>aO hmb (zN hb' 0 D.cells rfl j v hj);replace hv:=(hv.mono hma).mono hmb
 have hs3:aJ Gb b3 0=some (.string s):=by unfold aJ;rw [Bh];rfl
 refine oH ?_;refine bJ rY (cs:=D.cells) H wn rfl rfl (fun j v hj=>H.hp.aJ (hga j v hj)) rfl ?_;clear H;intro a H;refine s_call Vy H wn rfl (UO _ _ H.ro D l hv hok hz) rfl ?_;clear H;rintro v9 G9 a w hr yK H;obtain ⟨R,hR⟩:∃ R,R=nP (dX 0 0 l) 1:=⟨_,rfl⟩
 have hfn:uh l s=R.find? fun x=>decide (x.name=s):=by rw [hR];rfl
 rw [← hR] at hr;obtain ⟨A9,n9,c9,rfl⟩:=hr.form;have Jf:=hr.len;rw [bV] at Jf;subst Jf;refine kH H (aU K2 rfl (SQ fun _ K3=>SR fun _ K4=>Rm rfl ?_));clear H K2;intro a H;refine qW H wn rfl rfl ?_;clear H;intro a H;refine s_call aeQ H wn rfl (aiL _ _ H.ro R (fun x=>decide (x.name=s)) _ _ hr (fun x _=>agf (aO yK hs3) x)) rfl ?_;clear H;rintro v12 BX a w rfl Eo H;obtain ⟨hx1,hx2⟩:=aiT (l:=R) (p:=fun x=>decide (x.name=s));replace hr:=hr.mono Eo;refine kH H (ak K4 rfl (SR fun _ K5=>Rm rfl (Rc rfl (Kz K5 (Cd rfl ?_ ?_))))) <;> clear H K4 K5
 ·intro dY a H
  try have lC:=dT dY
  obtain ⟨k,hk,e1,e2⟩:=hx2 lC;obtain ⟨b,o,rfl,hrow⟩:=M6 hr hk;rw [e1] at H;refine kP H (SR fun _ K6=>Rm rfl (Rm rfl (Ri uF jD rfl rfl ?_)));clear H;intro a H;refine bJ jD (cs:=R[k].cells) H wn rfl rfl (fun j v hj=>H.hp.aJ (hrow j v hj)) rfl ?_;clear H;intro a H;refine bM jD 0 (vs:=[_,_,_,_,_,_]) _ H wn rfl rfl rfl rfl rfl rfl rfl rfl ?_;clear H;intro w H;dsimp only [List.set,setRow] at H;refine kH H (ak K6 rfl ?_);clear H K6;intro a H;refine cK ?_;refine (eG H results26 (.cons (ze jD (cs:=[_,_,_,_,_,_]) H rfl rfl (H.hp.dL 0 rfl rfl)) (.cons (aS H rfl) .nil)) ?_).1;exact H.rt (by rw [hfn,e2];rfl)
 intro dY a H
 try have lC:=dF dY
 have e2:=hx1 lC;refine fZ ?_;refine K3 _ _ ?_;clear K3;refine dH (fun _ K7=>?_);refine jR JX [_,_,_,_,_,_] H wn rfl rfl rfl rfl ?_;clear H;intro a H;refine bM jD 0 (vs:=[_,_,_,_,_,_]) _ H wn rfl rfl rfl rfl rfl rfl rfl rfl ?_;clear H;intro w H;dsimp only [List.set,setRow] at H;refine kH H (ak K7 rfl ?_);clear H K7;intro a H;refine cK ?_;refine (eG H results26 (.cons (ze jD (cs:=[_,_,_,_,_,_]) H rfl rfl (H.hp.dL 0 rfl rfl)) (.cons (aS H rfl) .nil)) ?_).1;exact H.rt (by rw [hfn,e2];rfl)
end
section
open Go.RowKit
end
section
open Go.RowKit
theorem Vs:∀ args w,(callFunc 103 args).run prog w=.ok (.enter 103 args) w:=enters func103 rfl (by kernel_rfl)
def fM:Nat→List au→List (Nat × au)
 | _,[]=>[]
 | o,x :: l=>(o,x) :: fM (o+dG x) l
def Gm (a:Nat × au):AP:=fun args g=>∃ cs,args=[vi a.1,.agg cs.toArray]∧aY g a.2.dat cs
theorem Ye {A:List (Nat × au)} {k:Nat} {args:List aj} {g:GH} (h:vJ (A.map Gm) k args g):∃ (hk:k < A.length) (cs:List aj),args=[vi A[k].1,.agg cs.toArray]∧aY g A[k].2.dat cs:=by
 obtain ⟨p,hp,hargs⟩:=h;rw [qm] at hp;obtain ⟨q,hq,rfl⟩:=lY.1 hp;obtain ⟨hk,rfl⟩:=jm.1 hq;obtain ⟨cs,h1,h2⟩:=hargs;exact ⟨hk,cs,h1,h2⟩
theorem Y8:∀ (l:List au) (o:Nat),(fM o l).length=l.length
 | [],_=>rfl
 | x :: l,o=>by simp [fM,Y8 l]
theorem SK (x:au):dG x < dx x.dat:=by
 have:=oF x;have h2:=FH x.text
 unfold dG;split <;> omega
set_option maxHeartbeats 1000000 in
theorem aiQ {G:GH} {bd:Nat} {l:List au} {v:aj} (hb:aJ G bd 0=some v) (hv:ay G (.sl 11 (l.map au.dat)) v) (hz:bg l≤4294967290) :
  Iter prog G (.func (.func 103) #[] #[(aI bd 0)]) ((fM 0 l).map Gm):=by
 intro J Jx fv G1 L w0 Xe hGi wh hJx hJ hO hcb;refine lN (caps:=[(aI bd 0)]) Vs ?_;obtain ⟨A,c,rfl,hc1,hc2,hg⟩:=hv.slice;rw [bV] at *;have hll:=Ak l;replace hb:=aO hGi hb;refine jZ (N:=28) (T:=[(0,_),(1,_)]) func103 rfl ntmps103 rfl rfl hO ?_;intro a H;refine kP H (SR fun _ K1=>ak K1 rfl (SR fun _ K2=>Rg gT rfl (by assumption) ?_));clear H K1;intro a H;refine kH H (Rl dZ rfl (Rm rfl (Kz K2 (SB ?_))));clear H K2;intro a H;skip;refine eU (ι:=Nat × Nat × Nat × OL × GH) (Tc:=[(0,_),(8,_),(9,_)]) (Lc:=[]) (fun gh=>[(3,vi gh.2.1),(10,vi gh.1)]) (fun gh=>[]++gh.2.2.2.1) (fun gh=>gh.2.2.2.2) (fun gh=>gh.1≤l.length∧(∀ b o,G1 b=some o→gh.2.2.2.2 b=some o)∧Now ((fM 0 l).map Gm) Gm J (fM 0 l).length gh.2.2.1 (fM gh.2.1 (l.drop gh.1)) gh.2.2.2.2 gh.2.2.2.1∧gh.2.1+bg (l.drop gh.1)≤4294967290) (fun gh=>l.length - gh.1) ((0,0,0,L,G1)) (by exact (H).sub ⟨rfl,rfl,rfl,rfl,rfl,aB⟩) ?_ ?_
 ·exact ⟨by omega,fun _ _ h=>h,⟨hJ,fun i a h=>by rw [jh,qm];rw [vP] at h;rw [h];rfl,by simp⟩,by simp;omega⟩
 clear H;intro gh a w hI H;obtain ⟨k,at_,j1,Lt,g⟩:=gh;dsimp only at hI H;obtain ⟨hk,hgm,eP,hat⟩:=hI;dsimp only [lca,bG] at H;refine bK (fun _ K3=>?_);skip;refine kP H (SC (Rc rfl (Kn K3 (SQ fun _ K4=>Cd rfl ?_ ?_)))) <;> clear H K3
 ·intro h11 a H
  try have nN:=dT h11
  have hk2:k < l.length:=by omega
  obtain ⟨b,o,pA,pn,pc,dA,dn,dc,yA,yn,yc,fA,fn,fc,rA,rn,rc,rfl,hrow,hhd,hfl,hrw⟩:=vY hk2 hg;have LY:∀ b o,G b=some o→g b=some o:=fun b o h=>hgm b o (hGi b o h);replace hrow:=fun j u hj=>aO LY (hrow j u hj);have hsz2:=Hu (iF hk2);have hn1:=SK l[k];have hzi:=oF l[k];rw [kZ hk2] at eP hat;rw [bg,fu,eZ] at hat;rw [fM] at eP;refine kP H (Kc K4 (SQ fun _ K5=>SB (SR fun _ K6=>Ri dZ bW rfl rfl ?_)));clear H K4;intro a H;refine bJ bW (cs:=[_,_,_,_,_,_,_,_,_,_,_]) H wn rfl rfl (fun j v hj=>H.hp.aJ (hrow j v hj)) rfl ?_;clear H;intro a H;refine eB bW H wn rfl ?_;clear H;intro b5 a w hb5 H;refine bM bW 0 (vs:=[_,_,_,_,_,_,_,_,_,_,_]) _ H wn rfl rfl rfl rfl rfl rfl rfl rfl ?_;clear H;intro w H;dsimp only [List.set,setRow] at H;refine K6 _ _ ?_;clear K6;refine kP H (SQ fun _ K7=>SR fun _ K8=>Rm rfl (Rm rfl ?_));clear H;intro a H;refine bJ bW (cs:=[_,_,_,_,_,_,_,_,_,_,_]) H wn rfl rfl (H.hp.dL 0 rfl rfl) rfl ?_;clear H;intro a H;refine GN (Li:=[_]) (L:=Lt) H wn rfl rfl (hcb j1 _ _ _ _ ⟨_,eP.head,_,rfl,aY.mkItem (hhd.mono LY) (hfl.mono LY) (hrw.mono LY)⟩ hgm eP.now (Hp.owns (Li:=[_]) H.hp)) rfl ?_;clear H;rintro v17 zw NI a w ⟨b17,rfl,hb1,hb2⟩ pQ H;refine kH H (Rn rfl (Kz K8 (Cd rfl ?_ ?_))) <;> clear H K8
  ·intro h18 a H
   try have rV:=dT h18
   refine cK ?_;refine (leave0 H results103 ?_).1
   first
    | exact H.hp.iy (L':=NI) (by repeat (first|exact iV _|apply List.Sublist.cons)) (.inr (hb2 (by simpa using h18)))
    | exact H.hp.eX (.inl (by have:=eP.len;rw [ig (by omega)] at this;simp only [fM,List.length_nil,tQ] at this;(try rw [bV]);rw [← this];exact eP.now))
  intro h18 a H
  try have rV:=dF h18
  refine fZ ?_;refine K7 _ _ ?_;clear K7;refine dH (fun _ K9=>?_);refine bJ bW (cs:=[_,_,_,_,_,_,_,_,_,_,_]) H wn rfl rfl (H.hp.dL 0 rfl rfl) rfl ?_;clear H;intro a H;refine s_call OT H wn rfl (SL _ _ H.ro _ _ _ _ _ _ _ _ _ _ (by omega)) rfl ?_;clear H;rintro v21 _ a w ⟨rfl,rfl⟩ - H;refine kH H (Rm rfl ?_);clear H;intro a H;(iterate 2 refine jc H wn rfl rfl rfl ?_;clear H;intro a H);refine kH H (Ra rfl (ak K9 rfl (SC (Rm rfl (Rm rfl (Rd rfl (aU K5 rfl (SC (Rd rfl (Rm rfl ?_))))))))));clear H K9 K5;intro a H;refine aG ?_;refine dh ((k+1,at_+dG l[k],j1+1,NI,zw)) (by exact (H.dP (Pl:=[_]) (dD:=[]) [] (by decide) rfl).sub ⟨rfl,rfl,rfl,rfl,rfl,aB⟩) ?_ ?_
  ·(try dsimp only);exact ⟨by omega,fun b o h=>pQ b o (hgm b o h),eP.step (hb1 (by simpa using h18)),by show at_+dG l[k]+eZ ((l.drop (k+1)).map au.dat)≤4294967290;omega⟩
  first|omega|(dsimp only;omega)
 intro h11 a H
 try have nN:=dF h11
 refine dW ?_;refine (leave0 H results103 ?_).2
 first
  | exact H.hp.iy (L':=NI) (by repeat (first|exact iV _|apply List.Sublist.cons)) (.inr (hb2 (by simpa using h18)))
  | exact H.hp.eX (.inl (by have:=eP.len;rw [ig (by omega)] at this;simp only [fM,List.length_nil,tQ] at this;(try rw [bV]);rw [← this];exact eP.now))
theorem aiR (G:GH) (w0:World) (hG:Hold G w0) (l:List au) (v:aj) (hv:ay G (.sl 11 (l.map au.dat)) v) (hz:bg l≤4294967290) :
  Calls prog 68 #[v] w0 (bq w0 G fun u G'=>∃ bd,u=.func (.func 103) #[] #[(aI bd 0)]∧Iter prog G' u ((fM 0 l).map Gm)):=by
 obtain ⟨A,c,rfl,hc1,hc2,hg⟩:=hv.slice;refine eN [(0,_)] func68 rfl ntmps68 rfl rfl hG ?_;intro a H;refine dH (fun _ K1=>?_);refine fC (cs:=[_]) H wn rfl rfl rfl ?_;clear H;intro b1 a w hb1 H;refine kH H (ak K1 rfl (SR fun _ K2=>?_));clear H K1;intro a H;refine qW H wn rfl rfl ?_;clear H;intro a H;refine kH H (ak K2 rfl ?_);clear H K2;intro a H;refine cK ?_;obtain ⟨G2,hm2,hb1,H⟩:=H.eu;refine lv H results68 rfl ?_;exact H.rt ⟨b1,rfl,aiQ (by unfold aJ;rw [hb1];rfl) (hv.mono hm2) hz⟩
end
section
open Go.RowKit
theorem afb:∀ args w,(callFunc 68 args).run prog w=.ok (.enter 68 args) w:=enters func68 rfl (by kernel_rfl)
def uW (t:Int) (a:Nat × au):Bool:=decide ((a.1:Int)+dG a.2≤t)
def lA (t:Int) (A:List (Nat × au)):List au:=(A.filter (uW t)).map (·.2)
def rA (t:Int) (A:List (Nat × au)):List au:=(A.filter fun a=>!uW t a).map (·.2)
theorem ajg {t:Int} {A:List (Nat × au)} {k:Nat} (hk:k < A.length) (h:uW t A[k]=true):lA t (A.take (k+1))=lA t (A.take k)++[A[k].2]∧rA t (A.take (k+1))=rA t (A.take k):=by
 rw [jg hk];simp only [lA,rA,List.filter_append,kL];simp [h]
theorem ajf {t:Int} {A:List (Nat × au)} {k:Nat} (hk:k < A.length) (h:uW t A[k]=false):lA t (A.take (k+1))=lA t (A.take k)∧rA t (A.take (k+1))=rA t (A.take k)++[A[k].2]:=by
 rw [jg hk];simp only [lA,rA,List.filter_append,kL];simp [h]
theorem aje (t:Int) (A:List (Nat × au)):(lA t A).length≤A.length:=by simp only [lA,bV];exact List.length_filter_le _ _
theorem akL (t:Int) (A:List (Nat × au)):(rA t A).length≤A.length:=by simp only [rA,bV];exact List.length_filter_le _ _
def sS (t:Int) (l:List au):List au:=lA t (fM 0 l)
def yZ (t:Int) (l:List au):List au:=rA t (fM 0 l)
theorem Y9:∀ {l:List au} {o:Nat} {a:Nat × au},a∈fM o l→a.2∈l∧a.1+dx a.2.dat≤o+bg l
 | [],_,_,h=>by cases h
 | x :: l,o,a,h=>by
  rw [fM] at h;have hu:=SK x
  rcases kK.1 h with rfl|h
  ·exact ⟨gP,by simp only [bg,fu,eZ];omega⟩
  obtain ⟨h1,h2⟩:=Y9 h;exact ⟨iZ _ h1,by simp only [bg,fu,eZ] at *;omega⟩
theorem KW (G:GH) (w0:World) (hG:Hold G w0) (l:List au) (t:Int) (v:aj) (hv:ay G (.sl 11 (l.map au.dat)) v) (hz:bg l≤1073741824) (hcut:∀ a∈fM 0 l,uW t a=true∨t≤a.1) :
  Calls prog 43 #[v,vi t] w0 (bq w0 G fun u G'=>∃ x y,u=.tuple #[x,y]∧ay G' (.sl 11 ((sS t l).map au.dat)) x∧ay G' (.sl 11 ((yZ t l).map au.dat)) y):=by
 have hml:4294967297≤maxLen:=by decide
 have hll:=Ak l;have hol:=Y8 l 0;obtain ⟨A,hA⟩:∃ A,A=fM 0 l:=⟨_,rfl⟩;refine eN [(0,_),(1,_)] func43 rfl ntmps43 rfl rfl hG ?_;intro a H;refine dH (fun _ K1=>?_);refine fC (cs:=[_]) H wn rfl rfl rfl ?_;clear H;intro b3 a w hb3 H;refine eB gT H wn rfl ?_;clear H;intro b4 a w hb4 H;refine eB gT H wn rfl ?_;clear H;intro b5 a w hb5 H;refine K1 _ _ ?_;clear K1;refine kP H (SQ fun _ K2=>SR fun _ K3=>Rm rfl ?_);clear H;intro a H;refine s_call afb H wn rfl (aiR _ _ H.ro l v hv (by omega)) rfl ?_;clear H;rintro v14 Hy a w ⟨bd,rfl,hit⟩ Qs H;rw [← hA] at hit hcut hol;refine K3 _ _ ?_;clear K3;refine xX ?_;skip;refine U0 (ι:=aj × aj × List aj × List aj × OL × OL) (κ:=Empty) (Lc:=[(_,_)]) (fun (k:Nat) (gh:aj × aj × List aj × List aj × OL × OL)=>[(b4,.cells #[gh.1] 22 (0,0)),(b5,.cells #[gh.2.1] 22 (0,0))]) (fun (k:Nat) (gh:aj × aj × List aj × List aj × OL × OL)=>gh.2.2.2.2.1++gh.2.2.2.2.2) (fun (k:Nat) (gh:aj × aj × List aj × List aj × OL × OL) (g:GH)=>dz 63 11 gh.1 (lA t (A.take k)).length gh.2.2.1 gh.2.2.2.2.1∧eY g 11 ((lA t (A.take k)).map au.dat) gh.2.2.1∧dz 63 11 gh.2.1 (rA t (A.take k)).length gh.2.2.2.1 gh.2.2.2.2.2∧eY g 11 ((rA t (A.take k)).map au.dat) gh.2.2.2.1) (fun x=>x.elim) (fun x=>x.elim) (fun x=>x.elim) (fun x=>x.elim) ((.slice none 0 0,.slice none 0 0,[],[],[],[])) (by exact (H.Y4 (A:=[_,_,_])).dP (Pl:=[_,_,_]) (dD:=[_,_,_]) [2,1,0] (by decide) rfl) rfl Vs (hit) (fun _ _ h=>h) rfl (fun k args g h=>by obtain ⟨_,_,rfl,_⟩:=Ye h;rfl) (fun k i G G' hm h=>⟨h.1,h.2.1.mono hm,h.2.2.1,h.2.2.2.mono hm⟩) (fun x=>x.elim) (⟨dz.nil,eY.nil,dz.nil,eY.nil⟩) ?_ ?_ ?_
 ·clear H;intro l2 CZ zH bk k args gh G2 w2 F2 B2 a hk2 hm2 hI Qm Mf XM H;obtain ⟨vl,vr,xl,xr,Ll,Lr⟩:=gh;dsimp only at hI H;obtain ⟨hk,cs,rfl,hcs⟩:=Ye hk2;obtain ⟨-,hza⟩:=Y9 (l:=l) (o:=0) (a:=A[k]) (by rw [← hA];exact iF hk);have hzi:=oF A[k].2;have hun:=SK A[k].2;have hlk:=aje t (A.take k);have Jo:=akL t (A.take k);rw [List.length_take] at hlk Jo;obtain ⟨pA,pn,pc,dA,dn,dc,yA,yn,yc,fA,fn,fc,Zq,rn,rc,rfl,hh,hf,hr⟩:=hcs.item;dsimp only [xW,List.cons_append,List.nil_append] at H;obtain ⟨hrl,hcl,hrr,hcr⟩:=hI;refine kP H (SR fun _ K4=>ak K4 rfl (SC ?_));clear H K4;intro a H;refine eB bW H wn rfl ?_;clear H;intro b7 a w Em H;refine bM bW 0 (vs:=[_,_,_,_,_,_,_,_,_,_,_]) _ H wn rfl rfl rfl rfl rfl rfl rfl rfl ?_;clear H;intro w H;dsimp only [List.set,setRow] at H;refine aG ?_;refine Qm _ _ _ _ _ _ (by exact H.dP (Pl:=[_,_,_,_,_]) (dD:=[_,_,_,_,_]) [1,0,2,3,4] (by decide) rfl) ?_;clear H;intro w H;refine xX ?_;refine dH (fun _ K5=>?_);refine bJ bW (cs:=[_,_,_,_,_,_,_,_,_,_,_]) H wn rfl rfl (H.hp.dL 1 rfl rfl) rfl ?_;clear H;intro a H;refine s_call OT H wn rfl (SL _ _ H.ro A[k].2 _ _ _ _ _ _ _ _ _ (by omega)) rfl ?_;clear H;rintro v19 _ a w ⟨rfl,rfl⟩ - H;refine kH H (Rm rfl ?_);clear H;intro a H;(iterate 2 refine jc H wn rfl rfl rfl ?_;clear H;intro a H);refine kH H (Ra rfl (ak K5 rfl (SB (SR fun _ K6=>Rm rfl (Rm rfl (Rd rfl (Ro aH 2 rfl (Rc rfl (ak K6 rfl (Cd rfl ?_ ?_)))))))))) <;> clear H K5 K6
  ·intro h50 a H
   try have p50:=dT h50
   have hfit:uW t A[k]=true:=h50;obtain ⟨e1,e2⟩:=ajg hk hfit;obtain ⟨vA,vc,rfl,-,-⟩:=hrl.shape;have H:=H.perm (Zl [_,_,_,_,_] bk Ll Lr);refine UU (i0:=3) (i1:=1) hmx (by kernel_rfl) dZ gT bW rfl rfl rfl rfl rfl (by kernel_rfl) rfl (by decide) H rfl rfl rfl rfl rfl rfl hrl (by omega) (by omega) ?_;clear H;intro vl Ll wO a w xB XG H;have H:St _ _ _ _ _ _ ([_,_,_,_,_]++(bk++(Ll++Lr))) _ _ _:=H.perm (Zl [_,_,_,_,_] bk Ll Lr).symm;dsimp only [lca,bG] at H;obtain ⟨xl,hxl⟩:∃ x,x=xl++[vi A[k].2.kind,vi A[k].2.code,vi A[k].2.id,.string A[k].2.text,.slice pA pn pc,vi A[k].2.head.marks.ins,vi A[k].2.head.marks.move,.slice dA dn dc,.slice yA yn yc,.slice fA fn fc,.slice Zq rn rc]:=⟨_,rfl⟩;rw [← hxl] at XG
   have hI:dz 63 11 vl (lA t (A.take (k+1))).length xl Ll∧eY wO 11 ((lA t (A.take (k+1))).map au.dat) xl∧dz 63 11 vr (rA t (A.take (k+1))).length xr Lr∧eY wO 11 ((rA t (A.take (k+1))).map au.dat) xr:=by
    rw [e1,e2,iM,kL];exact ⟨XG,by rw [hxl];exact (hcl.mono xB).snoc (hcs.mono xB) rfl,hrr,hcr.mono xB⟩
   refine Mf ((vl,vr,xl,xr,Ll,Lr)) _ _ _ _ _ (by exact H.dP (Pl:=[_,_,_,_,_]) (dD:=[_,_,_,_]) [0,2,3,4] (by decide) rfl) ?_;exact hI
  intro h50 a H
  try have p50:=dF h50
  have hfit:uW t A[k]=false:=h50;obtain ⟨e1,e2⟩:=ajf hk hfit;refine kP H (SR fun _ K7=>Rm rfl (Ro aH 2 rfl (Rc rfl (ak K7 rfl (Cd rfl ?_ ?_))))) <;> clear H K7
  ·intro Ec a H
   try have p62:=dT Ec
   obtain ⟨vA,vc,rfl,-,-⟩:=hrr.shape;have H:=H.cast (Zk [_,_,_,_,_] bk Ll Lr);refine UU (i0:=4) (i1:=1) hmx (by kernel_rfl) dZ gT bW rfl rfl rfl rfl rfl (by kernel_rfl) rfl (by decide) H rfl rfl rfl rfl rfl rfl hrr (by omega) (by omega) ?_;clear H;intro vr Lr wO a w xB XH H;have H:St _ _ _ _ _ _ ([_,_,_,_,_]++(bk++(Ll++Lr))) _ _ _:=H.cast (Zk [_,_,_,_,_] bk Ll Lr).symm;dsimp only [lca,bG] at H;obtain ⟨xr,Mj⟩:∃ x,x=xr++[vi A[k].2.kind,vi A[k].2.code,vi A[k].2.id,.string A[k].2.text,.slice pA pn pc,vi A[k].2.head.marks.ins,vi A[k].2.head.marks.move,.slice dA dn dc,.slice yA yn yc,.slice fA fn fc,.slice Zq rn rc]:=⟨_,rfl⟩;rw [← Mj] at XH
   have hI:dz 63 11 vl (lA t (A.take (k+1))).length xl Ll∧eY wO 11 ((lA t (A.take (k+1))).map au.dat) xl∧dz 63 11 vr (rA t (A.take (k+1))).length xr Lr∧eY wO 11 ((rA t (A.take (k+1))).map au.dat) xr:=by
    rw [e1,e2,iM,kL];exact ⟨hrl,hcl.mono xB,XH,by rw [Mj];exact (hcr.mono xB).snoc (hcs.mono xB) rfl⟩
   refine Mf ((vl,vr,xl,xr,Ll,Lr)) _ _ _ _ _ (by exact H.dP (Pl:=[_,_,_,_,_]) (dD:=[_,_,_,_]) [0,2,3,4] (by decide) rfl) ?_;exact hI
  intro Ec a H
  try have p62:=dF Ec
  exact absurd (hcut _ (iF hk)) (by rw [hfit];simp only [DL,false_or];omega)
 ·clear H;intro Tj gh TA a w hm2 hI H;obtain ⟨vl,vr,xl,xr,Ll,Lr⟩:=gh;dsimp only at hI H;dsimp only [lca,bG] at H;obtain ⟨hrl,hcl,hrr,hcr⟩:=hI;rw [show A.take (A.map Gm).length=A by rw [bV,wS]] at hrl hcl hrr hcr;obtain ⟨lA0,lc0,rfl,-,-⟩:=hrl.shape;obtain ⟨rA0,rc0,rfl,-,-⟩:=hrr.shape;refine K2 _ _ ?_;clear K2;refine bK (fun _ K8=>?_);refine dI hmx [[],[],[0],[0,1,2]] [] (by kernel_rfl) [.slice lA0 (lA t A).length lc0,.slice rA0 (rA t A).length rc0] H (aD (Z0 rfl (Ro gT 2 rfl)) (Z0 rfl (Ro gT 3 rfl)) ?_ ?_ cu) ?_
  ·intro aV a w G1 _ aX hc hG HT hv;have H:=HT;clear aX;have H:=H.aP (hv 0 72 (hc 0 (by decide)) rfl) rfl;have Hb:=H.full;have H:=Hb;clear hc;refine bM gT 2 (vs:=[_]) _ H wn rfl rfl rfl rfl rfl rfl rfl rfl ?_;clear H;intro w H;dsimp only [List.set,setRow] at H;refine aG ⟨rfl,?_⟩;exact Vn rfl HT hG hv H
  ·intro aV a w G1 _ aX hc hG HT hv;have H:=HT;clear aX;have H:=H.aP (hv 1 73 (hc 1 (by decide)) rfl) rfl;have Hb:=H.full;have H:=Hb;clear hc;refine bM gT 3 (vs:=[_]) _ H wn rfl rfl rfl rfl rfl rfl rfl rfl ?_;clear H;intro w H;dsimp only [List.set,setRow] at H;refine aG ⟨rfl,?_⟩;exact Vn rfl HT hG hv H
  clear H;intro a w G LJ H hv;clear hv;refine aG ⟨rfl,?_⟩;refine K8 _ _ ?_;clear K8;refine cK ?_;obtain ⟨Fg,Cy,hgr,H⟩:=St.um (Li:=[_,_,_,_]++Ll) (St.un (A:=[_,_,_,_]) H) hrr (rows:=(rA t A).map au.dat) (by simp) (hcr.mono LJ);obtain ⟨Nw,yJ,hgl,H⟩:=St.um (Li:=[_,_,_,_]) H hrl (rows:=(lA t A).map au.dat) (by simp) ((hcl.mono LJ).mono Cy);replace hgr:=hgr.mono yJ;refine (JF H 0 rfl ?_).1;clear H;intro a w H;dsimp only [List.eraseIdx_cons_succ,List.eraseIdx_cons_zero] at H;refine (eG H results43 (.cons (uD gT H rfl (H.hp.nM 1 rfl rfl)) (.cons (uD gT H rfl (H.hp.nM 2 rfl rfl)) .nil)) ?_).1;exact H.rt ⟨_,_,rfl,by rw [sS,← hA];exact hgl,by rw [yZ,← hA];exact hgr⟩
 intro Dk x;exact x.elim
end
section
open Go.RowKit
theorem dz.ptr {e sz n c:Nat} {A:Option Addr} {xs:List aj} {Lo:OL} (h:dz e sz (.slice A n c) n xs Lo) (hn:0 < n):∃ b,A=some ⟨b,0,none⟩:=by
 rcases h.2 with ⟨_,h0,_⟩|⟨b,cap,cur,he,_⟩
 ·omega
 ·injection he with e1;exact ⟨b,e1⟩
theorem dz.at {w0 w:World} {F:Nat→Prop} {G0 G:GH} {L Lo:OL} {e sz n c b o:Nat} {xs:List aj} (h:dz e sz (.slice (some ⟨b,o,none⟩) n c) n xs Lo) (H:Hp w0 F G0 G L w) (hsub:∀ x∈Lo,x∈L) {i:Nat} {u:aj} (hi:xs[i]?=some u):w.cell? ⟨b,i,none⟩=some u:=by
 rcases h.2 with ⟨h1,_⟩|⟨b2,cap,cur,he,hl,h1,h2,h3,h4⟩
 ·cases h1
 ·injection he with e1
  injection e1 with e1
  injection e1 with e1
  subst e1
  refine H.YD (c:=cur) (e:=e) (fz:=(0,0)) (hsub _ (by rw [hl];exact List.mem_singleton_self _)) ?_
  have hx:i < xs.length:=(jm.1 hi).1
  rw [h.1] at hx
  rw [← h4,uK,av hx,Array.getElem?_toList] at hi
  exact hi
theorem flat_get {sz:Nat}:∀ {css:List (List aj)} {k:Nat} (hk:k < css.length) (h:∀ cs∈css,cs.length=sz) (j:Nat),j < sz→css.flatten[k*sz+j]?=css[k][j]?
 | c :: css,0,_,h,j,hj=>by
  rw [List.flatten_cons,Nat.zero_mul,jh,List.getElem_cons_zero,uL (by rw [h c gP];exact hj)]
 | c :: css,k+1,hk,h,j,hj=>by
  have ih:=flat_get (css:=css) (k:=k) (by simpa using hk) (fun cs hc=>h cs (iZ _ hc)) j hj
  rw [List.flatten_cons,List.getElem_cons_succ,tT (by rw [h c gP,Nat.succ_mul];omega),h c gP,show (k+1)*sz+j - sz=k*sz+j by rw [Nat.succ_mul];omega]
  exact ih
theorem eY.at {G:GH} {sz:Nat} {rows:List (List Dat)} {xs:List aj} (h:eY G sz rows xs) {k:Nat} {r:List Dat} (hk:rows[k]?=some r):∃ cs,cs.length=sz∧(∀ j u,cs[j]?=some u→xs[k*sz+j]?=some u)∧aY G r cs:=by
 obtain ⟨css,rfl,h2,h3⟩:=h
 have hkl:k < css.length:=by rw [h2];exact (jm.1 hk).1
 obtain ⟨hr,hl⟩:=h3 k r css[k] hk (iA hkl)
 refine ⟨css[k],hl,fun j u hj=>?_,hr⟩
 rw [flat_get hkl (fun cs hc=>?_) j (by rw [← hl];exact (jm.1 hj).1)]
 ·exact hj
 ·obtain ⟨i,hi,rfl⟩:=List.getElem_of_mem hc
  exact (h3 i rows[i] css[i] (iA (by omega)) (iA hi)).2
end
section
open Go.RowKit
theorem Vt:∀ args w,(callFunc 104 args).run prog w=.ok (.enter 104 args) w:=enters func104 rfl (by kernel_rfl)
theorem Iz:∀ args w,(callFunc 44 args).run prog w=.ok (.enter 44 args) w:=enters func44 rfl (by kernel_rfl)
theorem VO:∀ args w,(callFunc 70 args).run prog w=.ok (.enter 70 args) w:=enters func70 rfl (by kernel_rfl)
theorem OX:∀ args w,(callFunc 73 args).run prog w=.ok (.enter 73 args) w:=enters func73 rfl (by kernel_rfl)
theorem adA (G:GH) (w0:World) (hG:Hold G w0) (A:Option Addr) (n c:Nat) (fv:aj) (hv:ay G (.sl 6 []) (.slice A n c)) :
  Calls prog 70 #[.slice A n c,fv] w0 (bq w0 G fun u G'=>ay G' (.sl 6 []) u):=by
 refine eN [(0,_),(1,_)] func70 rfl ntmps70 rfl rfl hG ?_;intro a H;refine kP H (SR fun _ K1=>ak K1 rfl (SR fun _ K2=>Rm rfl (Rm rfl ?_)));clear H K1;intro a H;refine s_call Vt H wn rfl (Yb _ _ H.ro [] (fun _=>true) _ _ hv (fun x h=>by cases h)) rfl ?_;clear H;rintro v10 wO a w rfl xB H;refine kH H (ak K2 rfl (SQ fun _ K3=>SR fun _ K4=>Rm rfl (Rc rfl (Kz K4 (Cd rfl ?_ ?_))))) <;> clear H K2 K4
 ·intro h12 a H
  exact kP H (SR fun _ K5=>Rm rfl (ak K5 rfl (LR results70 rfl fun H=>H.rt (hv.mono xB))))
 intro h12 a H
 exact absurd h12 (by decide)
theorem akj (G:GH) (w0:World) (hG:Hold G w0) (A:Option Addr) (n c:Nat) (hv:ay G (.sl 11 []) (.slice A n c)) :
  Calls prog 44 #[.slice A n c] w0 (bq w0 G fun u G'=>ay G' (.sl 11 []) u):=by
 have hn:n=0:=hv.len;refine eN [(0,_)] func44 rfl ntmps44 rfl rfl hG ?_;intro a H;refine kP H (SR fun _ K1=>ak K1 rfl (SR fun _ K2=>ak K2 rfl (SQ fun _ K3=>SR fun _ K4=>Rm rfl (Rl dZ rfl (Rm rfl (Kz K4 (SB ?_)))))));clear H K1 K2 K4;intro a H;skip;refine eU (ι:=Unit) (Tc:=[(7,_),(8,_)]) (Lc:=[]) (fun gh=>[(3,.slice none 0 0),(9,vi 0)]) (fun gh=>[]) (fun gh=>G) (fun gh=>True) (fun gh=>0) (()) (by exact (H).sub ⟨rfl,rfl,rfl,rfl,aB⟩) ?_ ?_
 ·trivial
 clear H;intro gh a w hI H;obtain ⟨u,hgh⟩:∃ x,x=gh:=⟨_,rfl⟩;subst hgh;skip;dsimp only [lca,bG] at H;refine kP H (SR fun _ K5=>Rc rfl (Kz K5 (SQ fun _ K6=>Cd rfl ?_ ?_))) <;> clear H K5
 ·intro h10 a H
  try have lV:=dT h10
  exact absurd lV (by rw [hn];decide)
 intro h10 a H
 refine dW ?_;refine K3 _ _ ?_;clear K3;exact kP H (SR fun _ K7=>Rm rfl (ak K7 rfl (LR results44 rfl fun H=>H.rt (ay.jH rfl (by decide)))))
def Uk (x:au):Prop:=x.flow=[]∧x.rows=[]∧¬ x.kind=7∧(x.kind=1→¬ x.text.toList=[])
def Ie (l:List au):Prop:=∀ (k:Nat) (h:k+1 < l.length),¬ (l[k].kind=1∧l[k+1].kind=1∧l[k].head=l[k+1].head)
theorem Ie.one {l:List au} (h:l.length≤1):Ie l:=fun k hk=>by omega
set_option maxHeartbeats 2000000 in
theorem akk (G:GH) (w0:World) (hG:Hold G w0) (l:List au) (v:aj) (hv:ay G (.sl 11 (l.map au.dat)) v) (hj:Ie l) (hp:∀ x∈l,Uk x) (hz:bg l≤1073741824) :
  Calls prog 44 #[v] w0 (bq w0 G fun u G'=>ay G' (.sl 11 (l.map au.dat)) u):=by
 obtain ⟨A,c,rfl,hc1,hc2,hg⟩:=hv.slice
 have hml:4294967297≤maxLen:=by decide
 have hll:l.length≤bg l:=Nat.le_trans (Gn l) (ER l);rw [bV] at *;refine eN [(0,_)] func44 rfl ntmps44 rfl rfl hG ?_;intro a H;refine kP H (SR fun _ K1=>ak K1 rfl (SR fun _ K2=>ak K2 rfl (SQ fun _ K3=>SR fun _ K4=>Rm rfl (Rl dZ rfl (Rm rfl (Kz K4 (SB ?_)))))));clear H K1 K2 K4;intro a H;skip;refine eU (ι:=Nat × aj × List aj × OL × GH) (Tc:=[(7,_),(8,_)]) (Lc:=[]) (fun gh=>[(3,gh.2.1),(9,vi gh.1)]) (fun gh=>[]++gh.2.2.2.1) (fun gh=>gh.2.2.2.2) (fun gh=>gh.1≤l.length∧dz 63 11 gh.2.1 gh.1 gh.2.2.1 gh.2.2.2.1∧eY gh.2.2.2.2 11 ((l.map au.dat).take gh.1) gh.2.2.1∧(∀ b o,G b=some o→gh.2.2.2.2 b=some o)) (fun gh=>l.length - gh.1) ((0,.slice none 0 0,[],[],G)) (by exact (H).sub ⟨rfl,rfl,rfl,rfl,aB⟩) ?_ ?_
 ·exact ⟨by omega,dz.nil,by simpa using eY.nil,fun _ _ h=>h⟩
 clear H;intro gh a w hI H;obtain ⟨k,v,xs,Lo,g⟩:=gh;dsimp only at hI H;obtain ⟨hk,hrw,jr,hgm⟩:=hI;dsimp only [lca,bG] at H;refine kP H (SR fun _ K5=>Rc rfl (Kz K5 (SQ fun _ K6=>Cd rfl ?_ ?_))) <;> clear H K5
 ·intro h10 a H
  try have lV:=dT h10
  have hk2:k < l.length:=by omega
  obtain ⟨vA,vc,rfl,-,-⟩:=hrw.shape;obtain ⟨b,o,pA,pn,pc,dA,dn,dc,yA,yn,yc,fA,fn,fc,rA,rn,rc,rfl,hrow,hhd,hfl,hrs⟩:=vY hk2 hg;replace hrow:=fun j u hj=>aO hgm (hrow j u hj);obtain ⟨e1,e2,e3,e4⟩:=hp _ (iF hk2);have hzi:=Ns hk2;rw [e1] at hfl;rw [e2] at hrs;refine kP H (Kc K6 (SQ fun _ K7=>SB (SR fun _ K8=>Ri dZ bW rfl rfl ?_)));clear H K6;intro a H;refine bJ bW (cs:=[_,_,_,_,_,_,_,_,_,_,_]) H wn rfl rfl (fun j v hj=>H.hp.aJ (hrow j v hj)) rfl ?_;clear H;intro a H;refine eB bW H wn rfl ?_;clear H;intro b5 a w hb5 H;refine bM bW 0 (vs:=[_,_,_,_,_,_,_,_,_,_,_]) _ H wn rfl rfl rfl rfl rfl rfl rfl rfl ?_;clear H;intro w H;dsimp only [List.set,setRow] at H;refine K8 _ _ ?_;clear K8;refine kP H (SR fun _ K9=>Rf uU rfl ?_);clear H;intro a H;refine bJ mE (cs:=[_,_,_,_,_]) H wn rfl rfl (H.hp.dL 0 rfl rfl) rfl ?_;clear H;intro a H;refine s_call DW H wn rfl (DU _ _ H.ro _ _ _ _ _ _ _ _ _ _ (hhd.mono hgm) (by omega)) rfl ?_;clear H;rintro v15 Dt a w ⟨rU,d15,l15,rfl,wm⟩ oK H;obtain ⟨a1,a2,a3,rfl⟩:=wm.props.form;obtain ⟨a4,a5,a6,rfl⟩:=wm.dw.form;obtain ⟨a7,a8,a9,rfl⟩:=wm.layers.form;refine kH H (Rf uU rfl ?_);clear H;intro a H;refine bM mE 0 (vs:=[_,_,_,_,_]) _ H wn rfl rfl rfl rfl rfl rfl rfl rfl ?_;clear H;intro w H;dsimp only [List.set,setRow] at H;refine K9 _ _ ?_;clear K9;refine kP H (SR fun _ aQ=>aT vX gT 0 rfl rfl ?_);clear H;intro a H;refine s_call Iz H wn rfl (akj _ _ H.ro _ _ _ (hfl.mono fun b o h=>oK b o (hgm b o h))) rfl ?_;clear H;rintro v19 G19 a w F8 om H;obtain ⟨BU,n19,c19,rfl⟩:=F8.form;refine kH H (Rf vX rfl ?_);clear H;intro a H;refine bM gT 0 (vs:=[_]) _ H wn rfl rfl rfl rfl rfl rfl rfl rfl ?_;clear H;intro w H;dsimp only [List.set,setRow] at H;refine aQ _ _ ?_;clear aQ;refine kP H (SR fun _ bH=>aT nG nU 0 rfl rfl ?_);clear H;intro a H;refine s_call OW H wn rfl (Vo _ _ H.ro [] _ _ (hrs.mono fun b o h=>om b o (oK b o (hgm b o h))) (by decide) (fun x h=>by cases h)) rfl ?_;clear H;rintro v23 Hz a w F9 mq H;obtain ⟨A23,n23,c23,rfl⟩:=F9.form;refine s_call VO H wn rfl (adA _ _ H.ro _ _ _ _ F9) rfl ?_;clear H;rintro v24 vL a w Es nK H;obtain ⟨Fa,n24,c24,rfl⟩:=Es.form;refine kH H (Rf nG rfl ?_);clear H;intro a H;refine bM nU 0 (vs:=[_]) _ H wn rfl rfl rfl rfl rfl rfl rfl rfl ?_;clear H;intro w H;dsimp only [List.set,setRow] at H;refine bH _ _ ?_;clear bH;refine kP H (SR fun _ bL=>Rm rfl (Rl dZ rfl (ak bL rfl (SB (SR fun _ bR=>aT gV aH 0 rfl rfl (Rc rfl (Rm rfl (Sp 36 rfl ?_ ?_)))))))) <;> clear H bL
  ·intro mJ a H
   try have p36:=dT mJ
   exact absurd p36 e3
  intro mJ a H
  try have p36:=dF mJ
  refine kH H (aR mJ rfl (aR mJ rfl (Pf mJ rfl (Rm rfl ?_))));clear H;intro a H;refine zY gV H (wg H rfl rfl rfl) rfl rfl ?_;clear H;intro a H;refine pX aH H (wg H rfl rfl rfl) rfl (H.hp.nM 0 rfl rfl) rfl ?_;clear H;intro a H;refine GQ H (wg H rfl rfl rfl) rfl rfl rfl rfl ?_;clear H;intro a H;refine uE H (wg H rfl rfl rfl) rfl rfl ?_;clear H;intro a H;refine M0 H 46 rfl ?_ ?_
  ·intro h46
   try have p46:=dT h46
   refine kH H (YF pG h46 rfl (YO fV 0 h46 rfl ?_));clear H;intro a H;refine xI H (wg H rfl rfl h46) rfl rfl rfl ?_;clear H;intro a H;refine GU H (wg H rfl rfl rfl) rfl h46 rfl rfl ?_;clear H;intro a H;refine kH H (Pf rfl rfl (ak bR rfl (Cd rfl ?_ ?_))) <;> clear H bR
   ·intro h32 a H
    exact absurd h32 (by simpa using e4 p46)
   intro h32 a H
   try have p32:=dF h32
   refine bK (fun _ bQ=>?_);obtain ⟨tZ,pJ⟩:∃ x,x=[vi l[k].kind,vi l[k].code,vi l[k].id,.string l[k].text,.slice a1 a2 a3,vi l[k].head.marks.ins,vi l[k].head.marks.move,.slice a4 a5 a6,.slice a7 a8 a9,.slice BU n19 c19,.slice Fa n24 c24]:=⟨_,rfl⟩
   have xD:aY vL l[k].dat tZ:=by
    rw [pJ];exact aY.mkItem (wm.mono fun b o h=>nK b o (mq b o (om b o h))) (by rw [e1];exact F8.mono fun b o h=>nK b o (mq b o h)) (by rw [e2];exact Es)
   have hA1:(l.map au.dat).take (k+1)=(l.map au.dat).take k++[l[k].dat]:=by rw [jg (by simpa using hk2)];simp
   have Cv:=jr.mono fun b o h=>nK b o (mq b o (om b o (oK b o h)))
   obtain ⟨bo,pk,pp,pd,pl,mM⟩:∃ (bo:Nat) (pk:iE × Int) (pp pd pl:aj),0 < (k:Int)→∃ (h:k - 1 < l.length),vA=some ⟨bo,0,none⟩∧pk=(l[k - 1].head,l[k - 1].kind)∧xs[(k - 1)*11]?=some (vi pk.2)∧iR vL pk.1 pp pd pl∧∀ j u,[pp,vi pk.1.marks.ins,vi pk.1.marks.move,pd,pl][j]?=some u→xs[(k - 1)*11+4+j]?=some u:=by
    by_cases h0:0 < k
    ·obtain ⟨bo,I5⟩:=hrw.ptr h0;obtain ⟨cs,hcl,hcx,hcr⟩:=Cv.at (k:=k - 1) (r:=l[k - 1].dat) (by rw [uK,av (by omega)];simp [show k - 1 < l.length by omega]);obtain ⟨qA,qn,qc,sA,sn,sc,tA,tn,tc,V3,WJ,V4,Zp,Zy,Zr,rfl,hh,-,-⟩:=hcr.item;refine ⟨bo,(l[k - 1].head,l[k - 1].kind),.slice qA qn qc,.slice sA sn sc,.slice tA tn tc,fun _=>⟨by omega,I5,rfl,hcx 0 _ rfl,hh,fun j u hj=>?_⟩⟩;rw [Nat.add_assoc]
     exact hcx (4+j) u (by
      match j,hj with
      | 0,hj=>exact hj
      | 1,hj=>exact hj
      | 2,hj=>exact hj
      | 3,hj=>exact hj
      | 4,hj=>exact hj)
    exact ⟨0,(⟨[],⟨0,0,[],[]⟩⟩,0),.slice none 0 0,.slice none 0 0,.slice none 0 0,fun h=>by omega⟩
   have Jg:l[k].kind=1→0 < (k:Int)→pk.2=1→¬ pk.1=l[k].head:=by
    intro c1 c2 c3 e;obtain ⟨hk1,-,hpk,-⟩:=mM c2;have hjk:=hj (k - 1) (by omega);rw [hpk] at e c3
    simp only [show k - 1+1=k by omega] at hjk
    exact hjk ⟨c3,c1,e⟩
   have c1:l[k].kind=1:=p46
   by_cases c2:0 < (k:Int)
   ·skip
    by_cases c3:pk.2=1
    ·skip;refine dI hmx [[],[0],[0,1],[0,1,2],(ra 0 4),(ra 0 5),(ra 0 6),(ra 0 7),(ra 0 8),(ra 0 8),(ra 0 8++[9]),(ra 0 11),(ra 0 12),(ra 0 13),(ra 0 14),(ra 0 15),(ra 0 16),(ra 0 17),(ra 0 17),(ra 0 17++[18]),(ra 0 20),(ra 0 21),(ra 0 22),(ra 0 17),(ra 0 17++[23]),(ra 0 25),(ra 0 26),(ra 0 27)] [] (by kernel_rfl) [_,vi l[k].kind,_,_,_,_,_,_,.slice (some ⟨bo,0,none⟩) k vc,_,vi ((k - 1:Nat):Int),_,_,vi pk.2,_,_,_,.slice (some ⟨bo,0,none⟩) k vc,_,vi ((k - 1:Nat):Int),_,_,vg pk.1 pp pd pl,_,vg l[k].head (.slice a1 a2 a3) (.slice a4 a5 a6) (.slice a7 a8 a9),.bool false,_,_] H (aD (Z0 rfl (Rf gV rfl)) (Z1 0 53 rfl (Ro aH 0 rfl)) (Z1 1 54 rfl (Rc rfl)) (Z1 2 55 rfl (Rm rfl)) (aD (Z1 3 56 rfl (YM (aA c1) rfl)) (Z2 4 57 3 56 rfl (YC (aA c1) rfl)) (Z2 3 56 5 58 rfl (Pt (aA c1) rfl)) (Z1 6 59 rfl (Rm rfl)) (aD ?_ (Z1 7 60 rfl (YM (aA c2) rfl)) ?_ (Z3 8 61 10 63 7 60 rfl (YI dZ bW (aA c2) rfl rfl)) (aD (Z2 11 64 7 60 rfl (YF gV (aA c2) rfl)) ?_ (Z2 13 66 7 60 rfl (YC (aA c2) rfl)) (Z2 7 60 14 67 rfl (Pt (aA c2) rfl)) (aD (Z1 15 68 rfl (Rm rfl)) ?_ (Z1 16 69 rfl (YM (aA c3) rfl)) ?_ (aD (Z3 17 70 19 72 16 69 rfl (YI dZ bW (aA c3) rfl rfl)) (Z2 20 73 16 69 rfl (YF uU (aA c3) rfl)) ?_ (Z1 16 69 rfl (YF uU (aA c3) rfl)) (aD ?_ ?_ (Z2 16 69 25 78 rfl (Pt (aA c3) rfl)) (Z1 26 79 rfl (Ra rfl)) cu))))))) ?_
     ·refine dB 7 60 rfl rfl fun _ a w G1 hG HT H fin=>?_;refine kH H (YM (aA c2) rfl ?_);clear H;intro a H;exact fin H iJ (by show _=_;first|rfl|exact aC (fun A=>Value.slice A k vc) (Exists.elim (mM c2) fun _ h=>h.1))
     ·refine bZ 9 62 7 60 rfl rfl fun _ a w G1 hG HT H fin=>?_;refine kX _ H (wg H rfl rfl (aA c2)) rfl rfl rfl (by omega) (by omega) rfl ?_;clear H;intro a H;exact fin H iJ (by show _=_;first|rfl|exact aC vi (by omega))
     ·refine bZ 12 65 7 60 rfl rfl fun _ a w G1 hG HT H fin=>?_;obtain ⟨_,rfl,_,hkd,_⟩:=mM c2;refine pX aH H (wg H rfl rfl (aA c2)) rfl (hrw.at H.hp (fun x hx=>iZ _ hx) (by rw [jh];exact hkd)) rfl ?_;clear H;intro a H;exact fin H iJ rfl
     ·refine dB 16 69 rfl rfl fun _ a w G1 hG HT H fin=>?_;refine kH H (YM (aA c3) rfl ?_);clear H;intro a H;exact fin H iJ (by show _=_;first|rfl|exact aC (fun A=>Value.slice A k vc) (Exists.elim (mM c2) fun _ h=>h.1))
     ·refine bZ 18 71 16 69 rfl rfl fun _ a w G1 hG HT H fin=>?_;refine kX _ H (wg H rfl rfl (aA c3)) rfl rfl rfl (by omega) (by omega) rfl ?_;clear H;intro a H;exact fin H iJ (by show _=_;first|rfl|exact aC vi (by omega))
     ·refine bZ 21 74 16 69 rfl rfl fun _ a w G1 hG HT H fin=>?_;obtain ⟨_,rfl,_,_,_,hhx⟩:=mM c2;refine bJ mE (cs:=[pp,vi pk.1.marks.ins,vi pk.1.marks.move,pd,pl]) H (wg H rfl rfl (aA c3)) rfl rfl (fun j u hj=>hrw.at H.hp (fun x hx=>iZ _ hx) (by rw [jh];exact hhx j u hj)) rfl ?_;clear H;intro a H;exact fin H iJ rfl
     ·refine bZ 23 76 16 69 rfl rfl fun _ a w G1 hG HT H fin=>?_;refine bJ mE (cs:=[_,_,_,_,_]) H (wg H rfl rfl (aA c3)) rfl rfl (H.hp.dL 0 rfl rfl) rfl ?_;clear H;intro a H;exact fin H iJ rfl
     ·refine nD 22 75 24 77 16 69 rfl rfl fun _ a w G1 hG HT H fin=>?_;refine s_call OX H (wg H rfl rfl (aA c3)) rfl (O6 _ _ H.ro pk.1 l[k].head _ _ _ _ _ _ (by obtain ⟨_,_,_,_,hh,_⟩:=mM c2;exact hh.mono hG) (wm.mono fun b o h=>hG b o (nK b o (mq b o (om b o h))))) rfl ?_;clear H;rintro v78 Tz a w rfl IX H;exact fin H IX (by show _=_;first|rfl|exact aF (iU (Jg c1 c2 c3)))
     clear H;intro a w G iN H hv;have H:=H.aP (hv 27 52 rfl rfl) rfl;clear hv;refine aG ⟨rfl,?_⟩;refine bQ _ _ ?_;clear bQ;refine mX H rfl rfl ?_;refine kP H (SC (Rm rfl ?_));clear H;intro a H;refine bJ bW (cs:=[_,_,_,_,_,_,_,_,_,_,_]) H wn rfl rfl (H.hp.dL 0 rfl rfl) rfl ?_;clear H;intro a H;refine gX dZ bW [_,_,_,_,_,_,_,_,_,_,_] [_,_,_,_,_,_,_,_,_,_,_] H wn rfl rfl rfl rfl rfl (by intro i q h;match i,h with|0,h=>exact h|n+1,h=>simp at h) rfl rfl ?_;clear H;intro KP a w LW H;refine oz (Li:=[_,_]) (Lo:=Lo) (news:=tZ) dZ bW rfl rfl H wn rfl rfl hrw (by rw [pJ];rfl) (by rw [pJ];exact H.hp.dL 0 rfl rfl) xD.one (by omega) (by omega) rfl ?_;clear H;intro v31 Ap a w Br H;refine kH H (aU K7 rfl (SC (Rd rfl (Rm rfl ?_))));clear H K7;intro a H;refine aG ?_;refine dh ((k+1,v31,xs++tZ,Ap,G)) (by exact (H.dP (Pl:=[_,_]) (dD:=[]) [] (by decide) rfl).sub ⟨rfl,rfl,rfl,rfl,aB⟩) ?_ ?_
     ·(try dsimp only);exact ⟨by omega,Br,by rw [hA1];exact (jr.mono (fun b o h=>iN b o (nK b o (mq b o (om b o (oK b o h)))))).snoc (xD.mono iN) (by rw [pJ];rfl),fun b o h=>iN b o (nK b o (mq b o (om b o (oK b o (hgm b o h)))))⟩
     first|omega|(dsimp only;omega)
    skip;refine dI hmx [[],[0],[0,1],[0,1,2],(ra 0 4),(ra 0 5),(ra 0 6),(ra 0 7),(ra 0 8),(ra 0 8),(ra 0 8++[9]),(ra 0 11),(ra 0 12),(ra 0 13),(ra 0 14),(ra 0 15),(ra 0 16),(ra 0 17),(ra 0 17),(ra 0 17++[18]),(ra 0 20),(ra 0 21),(ra 0 22),(ra 0 17),(ra 0 17++[23]),(ra 0 25),(ra 0 26),(ra 0 27)] [] (by kernel_rfl) [_,vi l[k].kind,_,_,_,_,_,_,.slice (some ⟨bo,0,none⟩) k vc,_,vi ((k - 1:Nat):Int),_,_,vi pk.2,_,_,_,undef,undef,undef,undef,undef,undef,undef,undef,undef,_,_] H (aD (Z0 rfl (Rf gV rfl)) (Z1 0 53 rfl (Ro aH 0 rfl)) (Z1 1 54 rfl (Rc rfl)) (Z1 2 55 rfl (Rm rfl)) (aD (Z1 3 56 rfl (YM (aA c1) rfl)) (Z2 4 57 3 56 rfl (YC (aA c1) rfl)) (Z2 3 56 5 58 rfl (Pt (aA c1) rfl)) (Z1 6 59 rfl (Rm rfl)) (aD ?_ (Z1 7 60 rfl (YM (aA c2) rfl)) ?_ (Z3 8 61 10 63 7 60 rfl (YI dZ bW (aA c2) rfl rfl)) (aD (Z2 11 64 7 60 rfl (YF gV (aA c2) rfl)) ?_ (Z2 13 66 7 60 rfl (YC (aA c2) rfl)) (Z2 7 60 14 67 rfl (Pt (aA c2) rfl)) (aD (Z1 15 68 rfl (Rm rfl)) (aK (j:=16) (by kernel_rfl) (fun _ _ _ _ _ h=>h) rfl rfl rfl rfl rfl (fun _ _ h=>aL h (aF (aN c3))) rfl (fun _=>rfl)) (aK (j:=16) (by kernel_rfl) (fun _ _ _ _ _ h=>h) rfl rfl rfl rfl rfl (fun _ _ h=>aL h (aF (aN c3))) rfl (fun _=>rfl)) (aK (j:=16) (by kernel_rfl) (fun _ _ _ _ _ h=>h) rfl rfl rfl rfl rfl (fun _ _ h=>aL h (aF (aN c3))) rfl (fun _=>rfl)) (aD (aK (j:=16) (by kernel_rfl) (fun _ _ _ _ _ h=>h) rfl rfl rfl rfl rfl (fun _ _ h=>aL h (aF (aN c3))) rfl (fun _=>rfl)) (aK (j:=16) (by kernel_rfl) (fun _ _ _ _ _ h=>h) rfl rfl rfl rfl rfl (fun _ _ h=>aL h (aF (aN c3))) rfl (fun _=>rfl)) (aK (j:=16) (by kernel_rfl) (fun _ _ _ _ _ h=>h) rfl rfl rfl rfl rfl (fun _ _ h=>aL h (aF (aN c3))) rfl (fun _=>rfl)) (aK (j:=16) (by kernel_rfl) (fun _ _ _ _ _ h=>h) rfl rfl rfl rfl rfl (fun _ _ h=>aL h (aF (aN c3))) rfl (fun _=>rfl)) (aD (aK (j:=16) (by kernel_rfl) (fun _ _ _ _ _ h=>h) rfl rfl rfl rfl rfl (fun _ _ h=>aL h (aF (aN c3))) rfl (fun _=>rfl)) (aK (j:=16) (by kernel_rfl) (fun _ _ _ _ _ h=>h) rfl rfl rfl rfl rfl (fun _ _ h=>aL h (aF (aN c3))) rfl (fun _=>rfl)) (Z2 16 69 25 78 rfl (Pf (aN c3) rfl)) (Z1 26 79 rfl (Ra rfl)) cu))))))) ?_
    ·refine dB 7 60 rfl rfl fun _ a w G1 hG HT H fin=>?_;refine kH H (YM (aA c2) rfl ?_);clear H;intro a H;exact fin H iJ (by show _=_;first|rfl|exact aC (fun A=>Value.slice A k vc) (Exists.elim (mM c2) fun _ h=>h.1))
    ·refine bZ 9 62 7 60 rfl rfl fun _ a w G1 hG HT H fin=>?_;refine kX _ H (wg H rfl rfl (aA c2)) rfl rfl rfl (by omega) (by omega) rfl ?_;clear H;intro a H;exact fin H iJ (by show _=_;first|rfl|exact aC vi (by omega))
    ·refine bZ 12 65 7 60 rfl rfl fun _ a w G1 hG HT H fin=>?_;obtain ⟨_,rfl,_,hkd,_⟩:=mM c2;refine pX aH H (wg H rfl rfl (aA c2)) rfl (hrw.at H.hp (fun x hx=>iZ _ hx) (by rw [jh];exact hkd)) rfl ?_;clear H;intro a H;exact fin H iJ rfl
    clear H;intro a w G iN H hv;have H:=H.aP (hv 27 52 rfl rfl) rfl;clear hv;refine aG ⟨rfl,?_⟩;refine bQ _ _ ?_;clear bQ;refine mX H rfl rfl ?_;refine kP H (SC (Rm rfl ?_));clear H;intro a H;refine bJ bW (cs:=[_,_,_,_,_,_,_,_,_,_,_]) H wn rfl rfl (H.hp.dL 0 rfl rfl) rfl ?_;clear H;intro a H;refine gX dZ bW [_,_,_,_,_,_,_,_,_,_,_] [_,_,_,_,_,_,_,_,_,_,_] H wn rfl rfl rfl rfl rfl (by intro i q h;match i,h with|0,h=>exact h|n+1,h=>simp at h) rfl rfl ?_;clear H;intro KP a w LW H;refine oz (Li:=[_,_]) (Lo:=Lo) (news:=tZ) dZ bW rfl rfl H wn rfl rfl hrw (by rw [pJ];rfl) (by rw [pJ];exact H.hp.dL 0 rfl rfl) xD.one (by omega) (by omega) rfl ?_;clear H;intro v31 Ap a w Br H;refine kH H (aU K7 rfl (SC (Rd rfl (Rm rfl ?_))));clear H K7;intro a H;refine aG ?_;refine dh ((k+1,v31,xs++tZ,Ap,G)) (by exact (H.dP (Pl:=[_,_]) (dD:=[]) [] (by decide) rfl).sub ⟨rfl,rfl,rfl,rfl,aB⟩) ?_ ?_
    ·(try dsimp only);exact ⟨by omega,Br,by rw [hA1];exact (jr.mono (fun b o h=>iN b o (nK b o (mq b o (om b o (oK b o h)))))).snoc (xD.mono iN) (by rw [pJ];rfl),fun b o h=>iN b o (nK b o (mq b o (om b o (oK b o (hgm b o h)))))⟩
    first|omega|(dsimp only;omega)
   skip;refine dI hmx [[],[0],[0,1],[0,1,2],(ra 0 4),(ra 0 5),(ra 0 6),(ra 0 7),(ra 0 8),(ra 0 8),(ra 0 8++[9]),(ra 0 11),(ra 0 12),(ra 0 13),(ra 0 14),(ra 0 15),(ra 0 16),(ra 0 17),(ra 0 17),(ra 0 17++[18]),(ra 0 20),(ra 0 21),(ra 0 22),(ra 0 17),(ra 0 17++[23]),(ra 0 25),(ra 0 26),(ra 0 27)] [] (by kernel_rfl) [_,vi l[k].kind,_,_,_,_,_,_,undef,undef,undef,undef,undef,undef,undef,_,_,undef,undef,undef,undef,undef,undef,undef,undef,undef,_,_] H (aD (Z0 rfl (Rf gV rfl)) (Z1 0 53 rfl (Ro aH 0 rfl)) (Z1 1 54 rfl (Rc rfl)) (Z1 2 55 rfl (Rm rfl)) (aD (Z1 3 56 rfl (YM (aA c1) rfl)) (Z2 4 57 3 56 rfl (YC (aA c1) rfl)) (Z2 3 56 5 58 rfl (Pt (aA c1) rfl)) (Z1 6 59 rfl (Rm rfl)) (aD (aK (j:=7) (by kernel_rfl) (fun _ _ _ _ _ h=>h) rfl rfl rfl rfl rfl (fun _ _ h=>aL h (aF (aN c2))) rfl (fun _=>rfl)) (aK (j:=7) (by kernel_rfl) (fun _ _ _ _ _ h=>h) rfl rfl rfl rfl rfl (fun _ _ h=>aL h (aF (aN c2))) rfl (fun _=>rfl)) (aK (j:=7) (by kernel_rfl) (fun _ _ _ _ _ h=>h) rfl rfl rfl rfl rfl (fun _ _ h=>aL h (aF (aN c2))) rfl (fun _=>rfl)) (aK (j:=7) (by kernel_rfl) (fun _ _ _ _ _ h=>h) rfl rfl rfl rfl rfl (fun _ _ h=>aL h (aF (aN c2))) rfl (fun _=>rfl)) (aD (aK (j:=7) (by kernel_rfl) (fun _ _ _ _ _ h=>h) rfl rfl rfl rfl rfl (fun _ _ h=>aL h (aF (aN c2))) rfl (fun _=>rfl)) (aK (j:=7) (by kernel_rfl) (fun _ _ _ _ _ h=>h) rfl rfl rfl rfl rfl (fun _ _ h=>aL h (aF (aN c2))) rfl (fun _=>rfl)) (aK (j:=7) (by kernel_rfl) (fun _ _ _ _ _ h=>h) rfl rfl rfl rfl rfl (fun _ _ h=>aL h (aF (aN c2))) rfl (fun _=>rfl)) (Z2 7 60 14 67 rfl (Pf (aN c2) rfl)) (aD (Z1 15 68 rfl (Rm rfl)) (aK (j:=16) (by kernel_rfl) (fun _ _ _ _ _ h=>h) rfl rfl rfl rfl rfl (fun _ _ h=>aL h (aF rfl)) rfl (fun _=>rfl)) (aK (j:=16) (by kernel_rfl) (fun _ _ _ _ _ h=>h) rfl rfl rfl rfl rfl (fun _ _ h=>aL h (aF rfl)) rfl (fun _=>rfl)) (aK (j:=16) (by kernel_rfl) (fun _ _ _ _ _ h=>h) rfl rfl rfl rfl rfl (fun _ _ h=>aL h (aF rfl)) rfl (fun _=>rfl)) (aD (aK (j:=16) (by kernel_rfl) (fun _ _ _ _ _ h=>h) rfl rfl rfl rfl rfl (fun _ _ h=>aL h (aF rfl)) rfl (fun _=>rfl)) (aK (j:=16) (by kernel_rfl) (fun _ _ _ _ _ h=>h) rfl rfl rfl rfl rfl (fun _ _ h=>aL h (aF rfl)) rfl (fun _=>rfl)) (aK (j:=16) (by kernel_rfl) (fun _ _ _ _ _ h=>h) rfl rfl rfl rfl rfl (fun _ _ h=>aL h (aF rfl)) rfl (fun _=>rfl)) (aK (j:=16) (by kernel_rfl) (fun _ _ _ _ _ h=>h) rfl rfl rfl rfl rfl (fun _ _ h=>aL h (aF rfl)) rfl (fun _=>rfl)) (aD (aK (j:=16) (by kernel_rfl) (fun _ _ _ _ _ h=>h) rfl rfl rfl rfl rfl (fun _ _ h=>aL h (aF rfl)) rfl (fun _=>rfl)) (aK (j:=16) (by kernel_rfl) (fun _ _ _ _ _ h=>h) rfl rfl rfl rfl rfl (fun _ _ h=>aL h (aF rfl)) rfl (fun _=>rfl)) (Z2 16 69 25 78 rfl (Pf rfl rfl)) (Z1 26 79 rfl (Ra rfl)) cu))))))) ?_
   clear H;intro a w G iN H hv;have H:=H.aP (hv 27 52 rfl rfl) rfl;clear hv;refine aG ⟨rfl,?_⟩;refine bQ _ _ ?_;clear bQ;refine mX H rfl rfl ?_;refine kP H (SC (Rm rfl ?_));clear H;intro a H;refine bJ bW (cs:=[_,_,_,_,_,_,_,_,_,_,_]) H wn rfl rfl (H.hp.dL 0 rfl rfl) rfl ?_;clear H;intro a H;refine gX dZ bW [_,_,_,_,_,_,_,_,_,_,_] [_,_,_,_,_,_,_,_,_,_,_] H wn rfl rfl rfl rfl rfl (by intro i q h;match i,h with|0,h=>exact h|n+1,h=>simp at h) rfl rfl ?_;clear H;intro KP a w LW H;refine oz (Li:=[_,_]) (Lo:=Lo) (news:=tZ) dZ bW rfl rfl H wn rfl rfl hrw (by rw [pJ];rfl) (by rw [pJ];exact H.hp.dL 0 rfl rfl) xD.one (by omega) (by omega) rfl ?_;clear H;intro v31 Ap a w Br H;refine kH H (aU K7 rfl (SC (Rd rfl (Rm rfl ?_))));clear H K7;intro a H;refine aG ?_;refine dh ((k+1,v31,xs++tZ,Ap,G)) (by exact (H.dP (Pl:=[_,_]) (dD:=[]) [] (by decide) rfl).sub ⟨rfl,rfl,rfl,rfl,aB⟩) ?_ ?_
   ·(try dsimp only);exact ⟨by omega,Br,by rw [hA1];exact (jr.mono (fun b o h=>iN b o (nK b o (mq b o (om b o (oK b o h)))))).snoc (xD.mono iN) (by rw [pJ];rfl),fun b o h=>iN b o (nK b o (mq b o (om b o (oK b o (hgm b o h)))))⟩
   first|omega|(dsimp only;omega)
  intro h46
  try have p46:=dF h46
  refine kH H (bC h46 rfl ?_);clear H;intro a H;refine JW H (wg H rfl rfl rfl) rfl h46 rfl rfl ?_;clear H;intro a H;refine kH H (Pf rfl rfl (ak bR rfl (Cf rfl rfl (SQ fun _ dJ=>?_))));clear H bR;intro a H;obtain ⟨tZ,pJ⟩:∃ x,x=[vi l[k].kind,vi l[k].code,vi l[k].id,.string l[k].text,.slice a1 a2 a3,vi l[k].head.marks.ins,vi l[k].head.marks.move,.slice a4 a5 a6,.slice a7 a8 a9,.slice BU n19 c19,.slice Fa n24 c24]:=⟨_,rfl⟩
  have xD:aY vL l[k].dat tZ:=by
   rw [pJ];exact aY.mkItem (wm.mono fun b o h=>nK b o (mq b o (om b o h))) (by rw [e1];exact F8.mono fun b o h=>nK b o (mq b o h)) (by rw [e2];exact Es)
  have hA1:(l.map au.dat).take (k+1)=(l.map au.dat).take k++[l[k].dat]:=by rw [jg (by simpa using hk2)];simp
  have Cv:=jr.mono fun b o h=>nK b o (mq b o (om b o (oK b o h)))
  obtain ⟨bo,pk,pp,pd,pl,mM⟩:∃ (bo:Nat) (pk:iE × Int) (pp pd pl:aj),0 < (k:Int)→∃ (h:k - 1 < l.length),vA=some ⟨bo,0,none⟩∧pk=(l[k - 1].head,l[k - 1].kind)∧xs[(k - 1)*11]?=some (vi pk.2)∧iR vL pk.1 pp pd pl∧∀ j u,[pp,vi pk.1.marks.ins,vi pk.1.marks.move,pd,pl][j]?=some u→xs[(k - 1)*11+4+j]?=some u:=by
   by_cases h0:0 < k
   ·obtain ⟨bo,I5⟩:=hrw.ptr h0;obtain ⟨cs,hcl,hcx,hcr⟩:=Cv.at (k:=k - 1) (r:=l[k - 1].dat) (by rw [uK,av (by omega)];simp [show k - 1 < l.length by omega]);obtain ⟨qA,qn,qc,sA,sn,sc,tA,tn,tc,V3,WJ,V4,Zp,Zy,Zr,rfl,hh,-,-⟩:=hcr.item;refine ⟨bo,(l[k - 1].head,l[k - 1].kind),.slice qA qn qc,.slice sA sn sc,.slice tA tn tc,fun _=>⟨by omega,I5,rfl,hcx 0 _ rfl,hh,fun j u hj=>?_⟩⟩;rw [Nat.add_assoc]
    exact hcx (4+j) u (by
     match j,hj with
     | 0,hj=>exact hj
     | 1,hj=>exact hj
     | 2,hj=>exact hj
     | 3,hj=>exact hj
     | 4,hj=>exact hj)
   exact ⟨0,(⟨[],⟨0,0,[],[]⟩⟩,0),.slice none 0 0,.slice none 0 0,.slice none 0 0,fun h=>by omega⟩
  have Jg:l[k].kind=1→0 < (k:Int)→pk.2=1→¬ pk.1=l[k].head:=by
   intro c1 c2 c3 e;obtain ⟨hk1,-,hpk,-⟩:=mM c2;have hjk:=hj (k - 1) (by omega);rw [hpk] at e c3
   simp only [show k - 1+1=k by omega] at hjk
   exact hjk ⟨c3,c1,e⟩
  have c1:¬ (l[k].kind=1):=p46;refine dI hmx [[],[0],[0,1],[0,1,2],(ra 0 4),(ra 0 5),(ra 0 6),(ra 0 7),(ra 0 8),(ra 0 8),(ra 0 8++[9]),(ra 0 11),(ra 0 12),(ra 0 13),(ra 0 14),(ra 0 15),(ra 0 16),(ra 0 17),(ra 0 17),(ra 0 17++[18]),(ra 0 20),(ra 0 21),(ra 0 22),(ra 0 17),(ra 0 17++[23]),(ra 0 25),(ra 0 26),(ra 0 27)] [] (by kernel_rfl) [_,vi l[k].kind,_,_,undef,undef,_,_,undef,undef,undef,undef,undef,undef,undef,_,_,undef,undef,undef,undef,undef,undef,undef,undef,undef,_,_] H (aD (Z0 rfl (Rf gV rfl)) (Z1 0 53 rfl (Ro aH 0 rfl)) (Z1 1 54 rfl (Rc rfl)) (Z1 2 55 rfl (Rm rfl)) (aD (aK (j:=3) (by kernel_rfl) (fun _ _ _ _ _ h=>h) rfl rfl rfl rfl rfl (fun _ _ h=>aL h (aF (aN c1))) rfl (fun _=>rfl)) (aK (j:=3) (by kernel_rfl) (fun _ _ _ _ _ h=>h) rfl rfl rfl rfl rfl (fun _ _ h=>aL h (aF (aN c1))) rfl (fun _=>rfl)) (Z2 3 56 5 58 rfl (Pf (aN c1) rfl)) (Z1 6 59 rfl (Rm rfl)) (aD (aK (j:=7) (by kernel_rfl) (fun _ _ _ _ _ h=>h) rfl rfl rfl rfl rfl (fun _ _ h=>aL h (aF rfl)) rfl (fun _=>rfl)) (aK (j:=7) (by kernel_rfl) (fun _ _ _ _ _ h=>h) rfl rfl rfl rfl rfl (fun _ _ h=>aL h (aF rfl)) rfl (fun _=>rfl)) (aK (j:=7) (by kernel_rfl) (fun _ _ _ _ _ h=>h) rfl rfl rfl rfl rfl (fun _ _ h=>aL h (aF rfl)) rfl (fun _=>rfl)) (aK (j:=7) (by kernel_rfl) (fun _ _ _ _ _ h=>h) rfl rfl rfl rfl rfl (fun _ _ h=>aL h (aF rfl)) rfl (fun _=>rfl)) (aD (aK (j:=7) (by kernel_rfl) (fun _ _ _ _ _ h=>h) rfl rfl rfl rfl rfl (fun _ _ h=>aL h (aF rfl)) rfl (fun _=>rfl)) (aK (j:=7) (by kernel_rfl) (fun _ _ _ _ _ h=>h) rfl rfl rfl rfl rfl (fun _ _ h=>aL h (aF rfl)) rfl (fun _=>rfl)) (aK (j:=7) (by kernel_rfl) (fun _ _ _ _ _ h=>h) rfl rfl rfl rfl rfl (fun _ _ h=>aL h (aF rfl)) rfl (fun _=>rfl)) (Z2 7 60 14 67 rfl (Pf rfl rfl)) (aD (Z1 15 68 rfl (Rm rfl)) (aK (j:=16) (by kernel_rfl) (fun _ _ _ _ _ h=>h) rfl rfl rfl rfl rfl (fun _ _ h=>aL h (aF rfl)) rfl (fun _=>rfl)) (aK (j:=16) (by kernel_rfl) (fun _ _ _ _ _ h=>h) rfl rfl rfl rfl rfl (fun _ _ h=>aL h (aF rfl)) rfl (fun _=>rfl)) (aK (j:=16) (by kernel_rfl) (fun _ _ _ _ _ h=>h) rfl rfl rfl rfl rfl (fun _ _ h=>aL h (aF rfl)) rfl (fun _=>rfl)) (aD (aK (j:=16) (by kernel_rfl) (fun _ _ _ _ _ h=>h) rfl rfl rfl rfl rfl (fun _ _ h=>aL h (aF rfl)) rfl (fun _=>rfl)) (aK (j:=16) (by kernel_rfl) (fun _ _ _ _ _ h=>h) rfl rfl rfl rfl rfl (fun _ _ h=>aL h (aF rfl)) rfl (fun _=>rfl)) (aK (j:=16) (by kernel_rfl) (fun _ _ _ _ _ h=>h) rfl rfl rfl rfl rfl (fun _ _ h=>aL h (aF rfl)) rfl (fun _=>rfl)) (aK (j:=16) (by kernel_rfl) (fun _ _ _ _ _ h=>h) rfl rfl rfl rfl rfl (fun _ _ h=>aL h (aF rfl)) rfl (fun _=>rfl)) (aD (aK (j:=16) (by kernel_rfl) (fun _ _ _ _ _ h=>h) rfl rfl rfl rfl rfl (fun _ _ h=>aL h (aF rfl)) rfl (fun _=>rfl)) (aK (j:=16) (by kernel_rfl) (fun _ _ _ _ _ h=>h) rfl rfl rfl rfl rfl (fun _ _ h=>aL h (aF rfl)) rfl (fun _=>rfl)) (Z2 16 69 25 78 rfl (Pf rfl rfl)) (Z1 26 79 rfl (Ra rfl)) cu))))))) ?_
  clear H;intro a w G iN H hv;have H:=H.aP (hv 27 52 rfl rfl) rfl;clear hv;refine aG ⟨rfl,?_⟩;refine dJ _ _ ?_;clear dJ;refine mX H rfl rfl ?_;refine kP H (SC (Rm rfl ?_));clear H;intro a H;refine bJ bW (cs:=[_,_,_,_,_,_,_,_,_,_,_]) H wn rfl rfl (H.hp.dL 0 rfl rfl) rfl ?_;clear H;intro a H;refine gX dZ bW [_,_,_,_,_,_,_,_,_,_,_] [_,_,_,_,_,_,_,_,_,_,_] H wn rfl rfl rfl rfl rfl (by intro i q h;match i,h with|0,h=>exact h|n+1,h=>simp at h) rfl rfl ?_;clear H;intro KP a w LW H;refine oz (Li:=[_,_]) (Lo:=Lo) (news:=tZ) dZ bW rfl rfl H wn rfl rfl hrw (by rw [pJ];rfl) (by rw [pJ];exact H.hp.dL 0 rfl rfl) xD.one (by omega) (by omega) rfl ?_;clear H;intro v31 Ap a w Br H;refine kH H (aU K7 rfl (SC (Rd rfl (Rm rfl ?_))));clear H K7;intro a H;refine aG ?_;refine dh ((k+1,v31,xs++tZ,Ap,G)) (by exact (H.dP (Pl:=[_,_]) (dD:=[]) [] (by decide) rfl).sub ⟨rfl,rfl,rfl,rfl,aB⟩) ?_ ?_
  ·(try dsimp only);exact ⟨by omega,Br,by rw [hA1];exact (jr.mono (fun b o h=>iN b o (nK b o (mq b o (om b o (oK b o h)))))).snoc (xD.mono iN) (by rw [pJ];rfl),fun b o h=>iN b o (nK b o (mq b o (om b o (oK b o (hgm b o h)))))⟩
  first|omega|(dsimp only;omega)
 intro h10 a H
 try have lV:=dF h10
 refine dW ?_;refine K3 _ _ ?_;clear K3;refine bK (fun _ dO=>?_);obtain ⟨G',hm,hrep,H⟩:=H.um (Li:=[]) hrw (rows:=l.map au.dat) (by simp;omega) (by rw [jF (by simp;omega)] at jr;exact jr);exact kP H (SC (Rm rfl (aU dO rfl (LR results44 rfl fun H=>H.rt hrep))))
end
section
open Go.RowKit
end
section
open Go.RowKit
end
section
open Go.RowKit
end
section
open Go.RowKit
theorem Ta (l m:List au):bg (l++m)=bg l+bg m:=by simp [bg,Sw]
end
section
open Go.RowKit
end
section
open Go.RowKit
end
section
open Go.RowKit
theorem VL:∀ args w,(callFunc 42 args).run prog w=.ok (.enter 42 args) w:=enters func42 rfl (by kernel_rfl)
theorem La:∀ args w,(callFunc 43 args).run prog w=.ok (.enter 43 args) w:=enters func43 rfl (by kernel_rfl)
def za (l:List au) (fr to:Int):Int:=if uy l=0 then (if fr < 0∨to < fr∨wC l < to then 2 else 0) else uy l
theorem U6 (G:GH) (w0:World) (hG:Hold G w0) (l:List au) (fr to:Int) (v:aj) (hv:ay G (.sl 11 (l.map au.dat)) v) (hz:bg l≤4294967296) :
  Calls prog 42 #[v,vi fr,vi to] w0 (bq w0 G fun u G'=>u=vi (za l fr to)):=by
 refine eN [(0,_),(1,_),(2,_)] func42 rfl ntmps42 rfl rfl hG ?_;intro a H;refine kP H (SR fun _ K1=>ak K1 rfl (SR fun _ K2=>Rm rfl ?_));clear H K1;intro a H;refine s_call VF H wn rfl (Yp _ _ H.ro l v hv hz) rfl ?_;clear H;rintro v11 _ a w ⟨rfl,rfl⟩ - H;refine kH H (Rm rfl ?_);clear H;intro a H;(iterate 2 refine jc H wn rfl rfl rfl ?_;clear H;intro a H);refine kH H (Ra rfl (ak K2 rfl (SQ fun _ K3=>SB (SR fun _ K4=>Rm rfl (Rc rfl (ak K4 rfl (Cd rfl ?_ ?_))))))) <;> clear H K2 K4
 ·intro dY a H
  try have lC:=dT dY
  exact kP H (SR fun _ K5=>Rm rfl (ak K5 rfl (LR results42 rfl fun H=>H.rt (by rw [za,ah lC]))))
 intro dY a H
 try have lC:=dF dY
 refine kP H (SR fun _ K6=>Rm rfl (Rc rfl (Rm rfl (Sp 21 rfl ?_ ?_)))) <;> clear H
 ·intro h21 a H
  try have oN:=dT h21
  refine kH H (bC h21 rfl (Pt h21 rfl (Rm rfl (bC rfl rfl (Pt rfl rfl (ak K6 rfl (Ct rfl rfl (SR fun _ K7=>ak K7 rfl ?_))))))));clear H K6 K7;intro a H;refine lr H results42 rfl ?_
  have h0:uy l=0:=by omega
  refine H.rt ?_;rw [za,av h0]
  first
   | (rw [av (by omega)];done)
   | (rw [ah (by omega)];done)
 intro h21 a H
 try have oN:=dF h21
 refine kH H (YM h21 rfl (YM h21 rfl (YC h21 rfl (Pf h21 rfl (Rm rfl (Sp 26 rfl ?_ ?_)))))) <;> clear H
 ·intro gM a H
  try have p26:=dT gM
  refine kH H (bC gM rfl (Pt gM rfl (ak K6 rfl (Ct rfl rfl (SR fun _ K8=>ak K8 rfl ?_)))));clear H K6 K8;intro a H;refine lr H results42 rfl ?_
  have h0:uy l=0:=by omega
  refine H.rt ?_;rw [za,av h0]
  first
   | (rw [av (by omega)];done)
   | (rw [ah (by omega)];done)
 intro gM a H
 try have p26:=dF gM
 refine kH H (YM gM rfl (YM gM rfl (YC gM rfl (Pf gM rfl (ak K6 rfl (Cd rfl ?_ ?_)))))) <;> clear H K6
 ·intro h18 a H
  try have rV:=dT h18
  refine kP H (SR fun _ K9=>ak K9 rfl ?_);clear H K9;intro a H;refine lr H results42 rfl ?_
  have h0:uy l=0:=by omega
  refine H.rt ?_;rw [za,av h0]
  first
   | (rw [av (by omega)];done)
   | (rw [ah (by omega)];done)
 intro h18 a H
 try have rV:=dF h18
 refine kP H (Kc K3 (SR fun _ aQ=>ak aQ rfl ?_));clear H K3 aQ;intro a H;refine lr H results42 rfl ?_
 have h0:uy l=0:=by omega
 refine H.rt ?_;rw [za,av h0]
 first
  | (rw [av (by omega)];done)
  | (rw [ah (by omega)];done)
def Ul (m:List au):Prop:=Ie m∧∀ x∈m,Uk x
theorem E8:∀ {m l:List au},m.Sublist l→bg m≤bg l
 | _,_,.slnil=>bT _
 | _,_,.cons a h=>by have:=E8 h;simp only [bg,fu,eZ] at *;omega
 | _,_,.cons_cons a h=>by have:=E8 h;simp only [bg,fu,eZ] at *;omega
theorem JM:∀ (l:List au) (o:Nat),(fM o l).map (·.2)=l
 | [],_=>rfl
 | x :: l,o=>by simp [fM,JM l]
theorem Yn (t:Int) (l:List au):(sS t l).Sublist l:=by
 have h:(lA t (fM 0 l)).Sublist ((fM 0 l).map (·.2)):=List.Sublist.map _ List.filter_sublist
 rwa [JM] at h
theorem Zx (t:Int) (l:List au):(yZ t l).Sublist l:=by
 have h:(rA t (fM 0 l)).Sublist ((fM 0 l).map (·.2)):=List.Sublist.map _ List.filter_sublist
 rwa [JM] at h
def Dp (t:Int) (l:List au):Prop:=∀ a∈fM 0 l,uW t a=true∨t≤a.1
theorem ame (G:GH) (w0:World) (hG:Hold G w0) (l:List au) (fr to:Int) (v:aj) (hv:ay G (.sl 11 (l.map au.dat)) v) (hz:bg l≤1073741824) (hr:za l fr to=0)
  (h1:Dp to l) (h2:Dp fr (sS to l)) (hp:Ul (yZ fr (sS to l))) :
  Calls prog 19 #[v,vi fr,vi to] w0 (bq w0 G fun u G'=>∃ x,u=.tuple #[x,vi 0]∧ay G' (.sl 11 ((yZ fr (sS to l)).map au.dat)) x):=by
 have z1:=E8 (Yn to l);have z2:=E8 (Zx fr (sS to l));refine eN [(0,_),(1,_),(2,_)] func19 rfl ntmps19 rfl rfl hG ?_;intro a H;refine kP H (SR fun _ K1=>Ra rfl (ak K1 rfl (SQ fun _ K2=>SR fun _ K3=>Rm rfl (Rm rfl (Rm rfl ?_)))));clear H K1;intro a H;refine s_call VL H wn rfl (U6 _ _ H.ro l fr to v hv (by omega)) rfl ?_;clear H;rintro v16 ru a w rfl qR H;rw [hr] at H;refine kH H (ak K3 rfl (SR fun _ K4=>Rm rfl (Rc rfl (Kz K4 (Cd rfl ?_ ?_))))) <;> clear H K3 K4
 ·intro h18 a H
  exact absurd h18 (by decide)
 intro h18 a H
 try have rV:=dF h18
 refine kP H (Kc K2 (SR fun _ K5=>Rm rfl (Rm rfl ?_)));clear H K2;intro a H;refine s_call La H wn rfl (KW _ _ H.ro l to v (hv.mono qR) hz h1) rfl ?_;clear H;rintro v23 Hz a w ⟨x,y,rfl,hx,hy⟩ mq H;refine kH H (Rm rfl ?_);clear H;intro a H;(iterate 2 refine jc H wn rfl rfl rfl ?_;clear H;intro a H);refine kH H (Ra rfl (ak K5 rfl (SR fun _ K6=>Rm rfl (Rm rfl ?_))));clear H K5;intro a H;refine s_call La H wn rfl (KW _ _ H.ro (sS to l) fr x hx (by omega) h2) rfl ?_;clear H;rintro v29 Kl a w ⟨x2,y2,rfl,hx2,hy2⟩ Mc H;refine kH H (Rm rfl ?_);clear H;intro a H;(iterate 2 refine jc H wn rfl rfl rfl ?_;clear H;intro a H);refine kH H (Ra rfl (ak K6 rfl (SR fun _ K7=>Rm rfl ?_)));clear H K6;intro a H;refine s_call Iz H wn rfl (akk _ _ H.ro _ y2 hy2 hp.1 hp.2 (by omega)) rfl ?_;clear H;rintro v33 Tq a w Jk ahI H;obtain ⟨A33,n33,c33,rfl⟩:=Jk.form;refine kH H (Ra rfl (ak K7 rfl ?_));clear H K7;intro a H;refine cK ?_;refine (eG H results19 (.cons (aS H rfl) (.cons (aS H rfl) .nil)) ?_).1;exact H.rt ⟨_,rfl,Jk⟩
end
section
open Go.RowKit
abbrev hd0:iE:=⟨[],⟨0,0,[],[]⟩⟩
theorem LX {G:GH}:iR G hd0 (.slice none 0 0) (.slice none 0 0) (.slice none 0 0):=⟨ay.jH rfl (by decide),ay.jH rfl (by decide),ay.jH rfl (by decide)⟩
end
section
open Go.RowKit
theorem amr:qJ prog 63 [(0,1),(1,1),(2,1),(3,1),(4,5),(9,1),(10,1)] [.int .i64 0,.int .i64 0,.int .i64 0,.string ⟨#[]⟩,.slice none 0 0,.int .i64 0,.int .i64 0,.slice none 0 0,.slice none 0 0,.slice none 0 0,.slice none 0 0]:=⟨by kernel_rfl,by kernel_rfl⟩
theorem amq:qJ prog 38 [(0,1),(1,5),(6,1),(7,4)] [.slice none 0 0,.slice none 0 0,.int .i64 0,.int .i64 0,.slice none 0 0,.slice none 0 0,.slice none 0 0,.slice none 0 0,.slice none 0 0,.slice none 0 0,.slice none 0 0]:=⟨by kernel_rfl,by kernel_rfl⟩
theorem VN:∀ args w,(callFunc 48 args).run prog w=.ok (.enter 48 args) w:=enters func48 rfl (by kernel_rfl)
theorem KZ:∀ args w,(callFunc 26 args).run prog w=.ok (.enter 26 args) w:=enters func26 rfl (by kernel_rfl)
theorem VE:∀ args w,(callFunc 17 args).run prog w=.ok (.enter 17 args) w:=enters func17 rfl (by kernel_rfl)
theorem VG:∀ args w,(callFunc 19 args).run prog w=.ok (.enter 19 args) w:=enters func19 rfl (by kernel_rfl)
theorem aat:Ty prog 121 2 32 [.pointer none,.slice none 0 0] true:=⟨by kernel_rfl,by kernel_rfl⟩
theorem VI:∀ args w,(callFunc 31 args).run prog w=.ok (.enter 31 args) w:=enters func31 rfl (by kernel_rfl)
theorem VH:∀ args w,(callFunc 27 args).run prog w=.ok (.enter 27 args) w:=enters func27 rfl (by kernel_rfl)
theorem SE:oC ⟨#[120,121,122]⟩=true∧oh ⟨#[120,121,122]⟩ 0=3:=by
 have d0:lQ ⟨#[120,121,122]⟩ 0=(120,1,true):=by decide
 have d1:lQ ⟨#[120,121,122]⟩ 1=(121,1,true):=by decide
 have d2:lQ ⟨#[120,121,122]⟩ 2=(122,1,true):=by decide
 have e3:nH ⟨#[120,121,122]⟩ 3=-1:=by rw [nH,dif_neg (by decide)]
 have e2:nH ⟨#[120,121,122]⟩ 2=-1:=by rw [nH,dif_pos (by decide),dif_pos (by rw [d2]),d2];exact e3
 have e1:nH ⟨#[120,121,122]⟩ 1=-1:=by rw [nH,dif_pos (by decide),dif_pos (by rw [d1]),d1];exact e2
 have e0:nH ⟨#[120,121,122]⟩ 0=-1:=by rw [nH,dif_pos (by decide),dif_pos (by rw [d0]),d0];exact e1
 have c3:oh ⟨#[120,121,122]⟩ 3=0:=by rw [oh,ah (by decide)]
 have c2:oh ⟨#[120,121,122]⟩ 2=1:=by rw [oh,av (by decide),c3];decide
 have c1:oh ⟨#[120,121,122]⟩ 1=2:=by rw [oh,av (by decide),c2];decide
 have c0:oh ⟨#[120,121,122]⟩ 0=3:=by rw [oh,av (by decide),c1];decide
 exact ⟨by unfold oC;rw [e0];decide,c0⟩
theorem amF:oC ⟨#[97]⟩=true:=by
 have d0:lQ ⟨#[97]⟩ 0=(97,1,true):=by decide
 have e1:nH ⟨#[97]⟩ 1=-1:=by rw [nH,dif_neg (by decide)]
 have e0:nH ⟨#[97]⟩ 0=-1:=by rw [nH,dif_pos (by decide),dif_pos (by rw [d0]),d0];exact e1
 unfold oC;rw [e0];decide
theorem aar:oC ⟨#[]⟩=true:=by
 have e0:nH ⟨#[]⟩ 0=-1:=by rw [nH,dif_neg (by decide)]
 unfold oC;rw [e0];decide
def mU:au:=.mk 8 1 1 ⟨#[97]⟩ hd0 [] []
def lX:au:=.mk 1 0 0 ⟨#[120,121,122]⟩ hd0 [] []
def oD:au:=.mk 8 2 1 ⟨#[]⟩ hd0 [] []
def oU:au:=.mk 2 0 0 ⟨#[]⟩ hd0 [] []
def kT:List au:=[mU,lX,oD,oU]
theorem Df:dG lX=3∧rZ lX=0:=by simp [dG,rZ,lX,au.kind,au.text,mH,Hq,SE.1,SE.2]
theorem Af:dG mU=1∧rZ mU=0:=by simp [dG,rZ,mU,au.kind]
theorem Hl:dG oD=1∧rZ oD=0:=by simp [dG,rZ,oD,au.kind]
theorem SG:dG oU=1∧rZ oU=0:=by simp [dG,rZ,oU,au.kind]
theorem ajM:n1 lX=3:=by simp [n1,Df.1,Df.2]
theorem ajL:n1 mU=1:=by simp [n1,Af.1,Af.2]
theorem ajK:n1 oD=1:=by simp [n1,Hl.1,Hl.2]
theorem a16:dX 0 0 kT=[⟨1,1,⟨#[97]⟩,0,0⟩,⟨2,1,⟨#[]⟩,0,4⟩]:=by
 simp only [kT,dX,NU,ajM,ajL,ajK]
 simp [mU,lX,oD,oU,au.kind,au.code,au.id,au.text]
theorem Z6:nP (dX 0 0 kT) 1=[⟨1,⟨#[97]⟩,0,1,0,4⟩]:=by
 rw [a16]
 simp [nP,pU,mI,zk,yw]
theorem agt:uh kT ⟨#[97]⟩=some ⟨1,⟨#[97]⟩,0,1,0,4⟩:=by
 unfold uh;rw [Z6];simp
theorem Yo:uy kT=0∧wC kT=6:=by
 simp [uy,wC,vT,bY,kT,Df.1,Df.2,Af.1,Af.2,Hl.1,Hl.2,SG.1,SG.2]
theorem o16:fM 0 kT=[(0,mU),(1,lX),(4,oD),(5,oU)]:=by simp [fM,kT,Af.1,Df.1,Hl.1]
theorem lf16:sS 4 kT=[mU,lX]:=by simp [sS,lA,o16,uW,Af.1,Df.1,Hl.1,SG.1]
theorem Y7:fM 0 [mU,lX]=[(0,mU),(1,lX)]:=by simp [fM,Af.1]
theorem Zw:yZ 1 (sS 4 kT)=[lX]:=by rw [lf16];simp [yZ,rA,Y7,uW,Af.1,Df.1]
theorem adw:Dp 4 kT:=by
 intro a ha;rw [o16] at ha
 simp only [kK,List.not_mem_nil,or_false] at ha
 rcases ha with rfl|rfl|rfl|rfl <;> simp [uW,Af.1,Df.1]
theorem adx:Dp 1 (sS 4 kT):=by
 rw [lf16];intro a ha;rw [Y7] at ha
 simp only [kK,List.not_mem_nil,or_false] at ha
 rcases ha with rfl|rfl <;> simp [uW,Af.1]
theorem akG:Ul (yZ 1 (sS 4 kT)):=by
 rw [Zw];exact ⟨Ie.one (bT _),fun x hx=>by rw [qK.1 hx];exact ⟨rfl,rfl,by decide,fun _=>by rw [ByteArray.toList_eq];decide⟩⟩
theorem alc:za kT 1 4=0:=by simp [za,Yo.1,Yo.2]
theorem agp:qy kT 0=some kT:=by simp [qy,AX]
theorem z16:bg kT≤1000:=by
 have h1:=oF mU;have h2:=oF lX;have h3:=oF oD;have h4:=oF oU
 have h0:qG hd0=5:=by simp [J8,eZ]
 have s1:mU.text.size=1:=rfl;have s2:lX.text.size=3:=rfl;have s3:oD.text.size=0:=rfl;have s4:oU.text.size=0:=rfl;rw [show mU.head=hd0 from rfl,h0,show bg mU.flow=0 from rfl,show iD mU.rows=0 from rfl] at h1;rw [show lX.head=hd0 from rfl,h0,show bg lX.flow=0 from rfl,show iD lX.rows=0 from rfl] at h2;rw [show oD.head=hd0 from rfl,h0,show bg oD.flow=0 from rfl,show iD oD.rows=0 from rfl] at h3;rw [show oU.head=hd0 from rfl,h0,show bg oU.flow=0 from rfl,show iD oU.rows=0 from rfl] at h4
 simp only [bg,kT,fu,qL,eZ]
 omega
theorem Nr (C:gy) {e:Int} (h1:1≤e) (h2:e≤10):iO C e hd0=0:=by
 have h3:gQ e []=0:=by rw [gQ,ah (by omega)];rfl
 simp [iO,dM,hd0,h3,yY,jV,kM,cO]
theorem ok16:dQ kT:=by
 have f1:kD mU=0:=by
  have hn:qp ⟨#[97]⟩=true:=by decide
  simp [kD,mU,au.kind,au.code,au.id,au.text,au.flow,au.rows,codeOk,xw,zI,zV,Ai,Ab,sH,amF,hn]
 have f2:kD lX=0:=by
  simp [kD,lX,au.kind,au.code,au.id,au.text,au.flow,au.rows,codeOk,xw,zI,zV,Ai,Ab,sH,SE.1]
 have f3:kD oD=0:=by
  simp [kD,oD,au.kind,au.code,au.id,au.text,au.flow,au.rows,codeOk,xw,zI,zV,Ai,Ab,sH,aar]
 have f4:kD oU=0:=by
  simp [kD,oU,au.kind,au.code,au.id,au.text,au.flow,au.rows,codeOk,xw,zI,zV,Ai,Ab,sH,aar]
 have C:gy:=⟨[],[],[]⟩;have q1:∀ s:CS,kQ true false 0 mU.kind mU.id s=(0,s):=fun s=>rfl;have q2:∀ s:CS,kQ true false 0 lX.kind lX.id s=(0,s):=fun s=>rfl;have q3:∀ s:CS,kQ true false 0 oD.kind oD.id s=(0,s):=fun s=>rfl;have q4:∀ s:CS,kQ true false 0 oU.kind oU.id s=(0,s):=fun s=>rfl;have h1:iO C mU.kind mU.head=0:=Nr C (by decide) (by decide);have h2:iO C lX.kind lX.head=0:=Nr C (by decide) (by decide);have h3:iO C oD.kind oD.head=0:=Nr C (by decide) (by decide);have h4:iO C oU.kind oU.head=0:=Nr C (by decide) (by decide);refine ⟨C,true,false,0,⟨0,[]⟩,(jk C true false 0 kT ⟨0,[]⟩).2,?_⟩
 simp [kT,jk,Mr,fU,f1,f2,f3,f4,q1,q2,q3,q4,h1,h2,h3,h4,show ¬ mU.kind=6 by decide,show ¬ mU.kind=7 by decide,show ¬ lX.kind=6 by decide,show ¬ lX.kind=7 by decide,show ¬ oD.kind=6 by decide,show ¬ oD.kind=7 by decide,show ¬ oU.kind=6 by decide,show ¬ oU.kind=7 by decide]
theorem VX (G:GH) (w0:World) (hG:Hold G w0) :
  Calls prog 31 #[] w0 (bq w0 G fun u G'=>∃ D:nA,u=D.val∧ay G' (.sl 11 (kT.map au.dat)) (fD D.f)):=by
 refine eN [] func31 rfl ntmps31 rfl rfl hG ?_;intro a H;refine dH (fun _ K1=>?_);refine eB rY H wn rfl ?_;clear H;intro b0 a w hb0 H;refine K1 _ _ ?_;clear K1;refine dH (fun _ K2=>?_);(iterate 4 refine jR amr [_,_,_,_,_,_,_,_,_,_,_] H wn rfl rfl rfl rfl ?_;clear H;intro a H);refine gX dZ bW [_,_,_,_,_,_,_,_,_,_,_,_,_,_,_,_,_,_,_,_,_,_,_,_,_,_,_,_,_,_,_,_,_,_,_,_,_,_,_,_,_,_,_,_] [_,_,_,_,_,_,_,_,_,_,_,_,_,_,_,_,_,_,_,_,_,_,_,_,_,_,_,_,_,_,_,_,_,_,_,_,_,_,_,_,_,_,_,_] H wn rfl rfl rfl rfl rfl (by intro i q h;match i,h with|0,h=>exact h|1,h=>exact h|2,h=>exact h|3,h=>exact h|n+4,h=>simp at h) rfl rfl ?_;clear H;intro b5 a w hb5 H;refine jR amq [_,_,_,_,_,_,_,_,_,_,_] H wn rfl rfl rfl rfl ?_;clear H;intro a H;refine bM rY 1 (vs:=[_,_,_,_,_,_,_,_,_,_,_]) _ H wn rfl rfl rfl rfl rfl rfl rfl rfl ?_;clear H;intro w H;dsimp only [List.set,setRow] at H;refine K2 _ _ ?_;clear K2;refine cK ?_;refine (leave1 H results31 (.cons (ze rY (cs:=[_,_,_,_,_,_,_,_,_,_,_]) H rfl rfl (H.hp.dL 1 rfl rfl)) .nil) ?_).1;have H:=H.dP (Pl:=[_,_]) (dD:=[_]) [0] (by decide) rfl;obtain ⟨G3,Qt,I4,H⟩:=H.eu;have r1:aY G3 mU.dat _:=aY.mkItem (x:=mU) LX (ay.jH (A:=none) (n:=0) (c:=0) rfl (by decide)) (ay.jH (A:=none) (n:=0) (c:=0) rfl (by decide));have r2:aY G3 lX.dat _:=aY.mkItem (x:=lX) LX (ay.jH (A:=none) (n:=0) (c:=0) rfl (by decide)) (ay.jH (A:=none) (n:=0) (c:=0) rfl (by decide));have r3:aY G3 oD.dat _:=aY.mkItem (x:=oD) LX (ay.jH (A:=none) (n:=0) (c:=0) rfl (by decide)) (ay.jH (A:=none) (n:=0) (c:=0) rfl (by decide));have r4:aY G3 oU.dat _:=aY.mkItem (x:=oU) LX (ay.jH (A:=none) (n:=0) (c:=0) rfl (by decide)) (ay.jH (A:=none) (n:=0) (c:=0) rfl (by decide));have jr:eY G3 11 (kT.map au.dat) _:=(((eY.nil.snoc r1 rfl).snoc r2 rfl).snoc r3 rfl).snoc r4 rfl;exact H.rt ⟨⟨(some ⟨b5,0,none⟩,4,4),(none,0,0),(none,0,0),(none,0,0),(none,0,0),(none,0,0),(none,0,0),(none,0,0),(none,0,0),0,0⟩,rfl,ay.eT (n:=4) (cap:=4) I4 rfl (bT _) (show 4≤maxLen by decide) rfl jr⟩
set_option maxHeartbeats 1000000 in
theorem amD (G:GH) (w0:World) (hG:Hold G w0) (D:nA) (hv:ay G (.sl 11 (kT.map au.dat)) (fD D.f)) :
  Calls prog 27 #[D.val,.string ⟨#[97]⟩] w0 (bq w0 G fun u G'=>u=.tuple #[.string ⟨#[120,121,122]⟩,.bool true]):=by
 have hz:=z16;refine eN [(0,_),(1,_)] func27 rfl ntmps27 rfl rfl hG ?_;intro a H;refine dH (fun _ K1=>?_);refine fC (cs:=[_,_,_,_,_,_,_,_,_,_,_]) H wn rfl rfl rfl ?_;clear H;intro b2 a w hb2 H;refine kH H (Ra rfl (ak K1 rfl (SQ fun _ K2=>?_)));clear H K1;intro a H;obtain ⟨Ga,hma,hb',H⟩:=H.eu;have hga:=fun j v hj=>zN hb' 0 D.cells rfl j v hj;replace hv:=hv.mono hma;refine oH ?_;refine bJ rY (cs:=D.cells) H wn rfl rfl (fun j v hj=>H.hp.aJ (hga j v hj)) rfl ?_;clear H;intro a H;refine kH H (Rm rfl ?_);clear H;intro a H;refine s_call KZ H wn rfl (KG _ _ H.ro D kT ⟨#[97]⟩ hv ok16 (by omega)) rfl ?_;clear H;rintro v18 Kj a w rfl hm18 H;rw [agt] at H;dsimp only [Option.getD_some,Option.isSome_some] at H;replace hv:=hv.mono hm18;replace hga:=fun j v hj=>aO hm18 (hga j v hj);refine kH H (Rm rfl ?_);clear H;intro a H;(iterate 2 refine jc H wn rfl rfl rfl ?_;clear H;intro a H);refine eB jD H wn rfl ?_;clear H;intro b6 a w hb6 H;refine bM jD 0 (vs:=[_,_,_,_,_,_]) _ H wn rfl rfl rfl rfl rfl rfl rfl rfl ?_;clear H;intro w H;dsimp only [List.set,setRow] at H;refine kH H (aU K2 rfl (SQ fun _ K3=>SR fun _ K4=>Rm rfl (Rn rfl (Kz K4 (Cd rfl ?_ ?_))))) <;> clear H K2 K4
 ·intro h22 a H
  exact absurd h22 (by decide)
 intro h22 a H
 try have iC:=dF h22
 refine fZ ?_;refine K3 _ _ ?_;clear K3;refine dH (fun _ K5=>?_);refine bJ rY (cs:=D.cells) H wn rfl rfl (fun j v hj=>H.hp.aJ (hga j v hj)) rfl ?_;clear H;intro a H;refine kH H (Rf uT rfl (aT AU aH 0 rfl rfl ?_));clear H;intro a H;refine s_call VE H wn rfl (WH _ _ H.ro D kT 0 hv (by omega)) rfl ?_;clear H;rintro v28 Tp a w ⟨x28,rfl,hx28⟩ ahH H;rw [agp,Option.getD_some] at hx28;obtain ⟨A28,n28,c28,rfl⟩:=hx28.form;refine kH H (Rm rfl ?_);clear H;intro a H;(iterate 2 refine jc H wn rfl rfl rfl ?_;clear H;intro a H);refine kH H (Ra rfl (ak K5 rfl (SR fun _ K6=>Rm rfl (Rf uT rfl (aT sJ aH 0 rfl rfl (Rf Ck rfl (aT sJ aH 0 rfl rfl ?_)))))));clear H K5;intro a H;refine s_call VG H wn rfl (ame _ _ H.ro kT 1 4 _ hx28 (by omega) alc adw adx akG) rfl ?_;clear H;rintro v39 Ko a w ⟨x39,rfl,hx39⟩ Xn H;rw [Zw] at hx39;obtain ⟨A39,n39,c39,rfl⟩:=hx39.form;obtain rfl:n39=1:=hx39.len;refine kH H (Rm rfl ?_);clear H;intro a H;(iterate 2 refine jc H wn rfl rfl rfl ?_;clear H;intro a H);refine kH H (Ra rfl (ak K6 rfl (SR fun _ K7=>?_)));clear H K6;intro a H;refine eB aat H wn rfl ?_;clear H;intro b12 a w Bg H;refine K7 _ _ ?_;clear K7;refine kP H (SQ fun _ K8=>SR fun _ K9=>Rm rfl (Rl dZ rfl (Rm rfl (Kz K9 (SB ?_)))));clear H K9;intro a H;skip;refine eU (ι:=Nat × aj × aj × Nat × OL) (Tc:=[(12,_),(42,_),(43,_)]) (Lc:=[(_,_)]) (fun gh=>[(44,vi gh.1)]) (fun gh=>[bB b12 gh.2.1 gh.2.2.1]++gh.2.2.2.2) (fun gh=>Ko) (fun gh=>gh.1≤1∧(gh.1=0→gh.2.1=.pointer none∧gh.2.2.1=.slice none 0 0∧gh.2.2.2.2=[])∧(gh.1=1→gh.2.1=(aI b12 0)∧dz 5 1 gh.2.2.1 3 (Lib.byteCells [120,121,122]) gh.2.2.2.2)) (fun gh=>1 - gh.1) ((0,.pointer none,.slice none 0 0,0,[])) (by exact (H.dP (Pl:=[_,_]) (dD:=[_,_]) [1,0] (by decide) rfl).sub ⟨rfl,rfl,rfl,rfl,aB⟩) ?_ ?_
 ·exact ⟨by omega,fun _=>⟨rfl,rfl,rfl⟩,fun h=>absurd h (by decide)⟩
 clear H;intro gh a w hI H;obtain ⟨k,p,v,n,Lo⟩:=gh;dsimp only at hI H;obtain ⟨hk,hk0,hk1⟩:=hI;dsimp only [lca,bG] at H;refine kP H (SR fun _ aQ=>Rc rfl (Kz aQ (SQ fun _ bH=>Cd rfl ?_ ?_))) <;> clear H aQ
 ·intro h45 a H
  try have p45:=dT h45
  obtain rfl:k=0:=by omega
  obtain ⟨rfl,rfl,rfl⟩:=hk0 rfl;obtain ⟨b,o,pA,pn,pc,dA,dn,dc,yA,yn,yc,fA,fn,fc,rA,rn,rc,rfl,hrow,hhd,hfl,hrw⟩:=vY (l:=[lX]) (k:=0) (by decide) hx39.at_;refine kP H (Kc bH (SQ fun _ bL=>SB (SR fun _ bR=>Ri dZ bW rfl rfl ?_)));clear H bH;intro a H;refine bJ bW (cs:=[_,_,_,_,_,_,_,_,_,_,_]) H wn rfl rfl (fun j v hj=>H.hp.aJ (hrow j v hj)) rfl ?_;clear H;intro a H;refine eB bW H wn rfl ?_;clear H;intro b14 a w LU H;refine bM bW 0 (vs:=[_,_,_,_,_,_,_,_,_,_,_]) _ H wn rfl rfl rfl rfl rfl rfl rfl rfl ?_;clear H;intro w H;dsimp only [List.set,setRow] at H;refine bR _ _ ?_;clear bR;refine kP H (SR fun _ bQ=>aT gV aH 0 rfl rfl (Rc rfl (Kz bQ (Cd rfl ?_ ?_)))) <;> clear H bQ
  ·intro h50 a H
   try have p50:=dT h50
   refine kP H (SC (aT pG fV 0 rfl rfl ?_));clear H;intro a H;refine gY VN (Li:=[_,_]) (L:=bB b12 (.pointer none) (.slice none 0 0) :: []) H wn rfl (aaP _ _ _ b12 (.pointer none) (.slice none 0 0) 0 [] ⟨#[120,121,122]⟩ (.inl rfl) (Hp.owns (Li:=[_,_]) H.hp) dz.nil (by decide)) rfl ?_;clear H;rintro v_ _ L53 a w ⟨v53,NH,rfl,QF,rfl⟩ ahM H;refine kH H (Kn bL (SC (Rd rfl (Rm rfl ?_))));clear H bL;intro a H;refine aG ?_;refine dh ((1,(aI b12 0),v53,0,NH)) (by exact (H.dP (Pl:=[_,_,_]) (dD:=[_,_]) [1,2] (by decide) rfl).sub ⟨rfl,rfl,rfl,rfl,aB⟩) ?_ ?_
   ·(try dsimp only);exact ⟨by omega,fun h=>absurd h (by omega),fun _=>⟨rfl,QF⟩⟩
   first|omega|(dsimp only;omega)
  intro h50 a H
  exact absurd h50 (by decide)
 intro h45 a H
 try have p45:=dF h45
 obtain rfl:k=1:=by omega
 obtain ⟨rfl,hrw3⟩:=hk1 rfl;refine dW ?_;refine K8 _ _ ?_;clear K8;refine dH (fun _ dJ=>?_);refine gY OU (Li:=[_]) (L:=bB b12 _ v :: Lo) H wn rfl (aan _ _ _ b12 _ v [120,121,122] (Hp.owns (Li:=[_]) H.hp) hrw3 (by decide)) rfl ?_;clear H;rintro v55 HY L55 a w rfl uo H;refine kH H (Ra rfl (ak dJ rfl ?_));clear H dJ;intro a H;refine cK ?_;refine (eG H results27 (.cons (aS H rfl) (.cons (aS H rfl) .nil)) ?_).1;exact H.rt rfl
theorem QY (G:GH) (w0:World) (hG:Hold G w0):Calls prog 9 #[] w0 (bq w0 G fun u G'=>u=.bool true):=by
 have hz:=z16;refine eN [] func9 rfl ntmps9 rfl rfl hG ?_;intro a H;refine kP H (SR fun _ K1=>ak K1 rfl (SR fun _ K2=>?_));clear H K1;intro a H;refine s_call VI H wn rfl (VX _ _ H.ro) rfl ?_;clear H;rintro v4 G4 a w ⟨D4,rfl,hv4⟩ F5 H;refine s_call Vy H wn rfl (UO _ _ H.ro D4 kT hv4 ok16 (by omega)) rfl ?_;clear H;rintro v5 G5 a w hr Qv H;rw [Z6] at hr;obtain ⟨A5,n5,c5,rfl⟩:=hr.form;obtain rfl:n5=1:=hr.len;obtain ⟨b,o,rfl,hrow⟩:=M6 (A:=[⟨1,⟨#[97]⟩,0,1,0,4⟩]) (k:=0) hr (by decide);refine kH H (ak K2 rfl (SR fun _ K3=>?_));clear H K2;intro a H;refine s_call VI H wn rfl (VX _ _ H.ro) rfl ?_;clear H;rintro v7 G7 a w ⟨D7,rfl,hv7⟩ Bo H;refine s_call VH H wn rfl (amD _ _ H.ro D7 hv7) rfl ?_;clear H;rintro v8 G8 a w rfl zR H;refine kH H (Rm rfl ?_);clear H;intro a H;(iterate 2 refine jc H wn rfl rfl rfl ?_;clear H;intro a H);refine kH H (Ra rfl (ak K3 rfl (SR fun _ K4=>Rm rfl (Rl uF rfl (Rc rfl (Rm rfl (Sp 14 rfl ?_ ?_))))))) <;> clear H K3
 ·intro dY a H
  try have lC:=dT dY
  refine kH H (YM dY rfl ?_);clear H;intro a H;refine vF uF jD 0 H (wg H rfl rfl dY) rfl rfl rfl (by decide) rfl ?_;clear H;intro a H;refine bJ jD (cs:=[vi 1,.string ⟨#[97]⟩,vi 0,vi 1,vi 0,vi 4]) H (wg H rfl rfl dY) rfl rfl (fun j v hj=>H.hp.aJ (aO zR (aO Bo (hrow j v hj)))) rfl ?_;clear H;intro a H;(iterate 2 refine jR Sk [_,_] H (wg H rfl rfl dY) rfl rfl rfl rfl ?_;clear H;intro a H);refine jR JX [_,_,_,_,_,_] H (wg H rfl rfl dY) rfl rfl rfl rfl ?_;clear H;intro a H;refine R6 O5 H (wg H rfl rfl dY) rfl rfl rfl rfl ?_;clear H;intro a H;refine kH H (Pt dY rfl (Rm rfl (Sp 23 rfl ?_ ?_))) <;> clear H
  ·intro h23 a H
   try have sU:=dT h23
   refine kH H (YM h23 rfl ?_);clear H;intro a H;refine xI H (wg H rfl rfl h23) rfl rfl rfl ?_;clear H;intro a H;refine kH H (Pt h23 rfl (Rm rfl (Sp 27 rfl ?_ ?_))) <;> clear H
   ·intro h27 a H
    exact kH H (YM h27 rfl (Pt h27 rfl (ak K4 rfl (LR results9 rfl fun H=>H.rt rfl))))
   intro h27 a H
   try have p27:=dF h27
   exact absurd h27 (by first|decide|simp [jG,jQ])
  intro h23 a H
  try have sU:=dF h23
  exact absurd h23 (by first|decide|simp [jG,jQ])
 intro dY a H
 exact absurd dY (by decide)
end
section
open Go.RowKit
theorem FJ:∀ args w,(callFunc 58 args).run prog w=.ok (.enter 58 args) w:=enters func58 rfl (by kernel_rfl)
theorem OG:∀ args w,(callFunc 128 args).run prog w=.ok (.enter 128 args) w:=enters func128 rfl (by kernel_rfl)
theorem IB:∀ args w,(callFunc 60 args).run prog w=.ok (.enter 60 args) w:=enters func60 rfl (by kernel_rfl)
theorem F3 (G:GH) (L:OL) (w0:World) (st:List bU) (li:List gq) (rv:List fI) (b ms ml mr mb mu:Nat) (n:Int) (hck:uH G st li rv ms ml mr mu) (hO:gZ G (fP b ms ml mr mb mu n :: L) w0)
  (e:Int) (h:iE) (p d l:aj) (hh:iR G h p d l) (hz:qG h≤4294967296) :
  Calls prog 58 #[(aI b 0),vi e,vg h p d l] w0 (gI w0 G (fP b ms ml mr mb mu n :: L) fun v G' L'=>G=G'∧L'=fP b ms ml mr mb mu n :: L∧v=vi (iO (aW st li rv) e h)):=by
 have hm:=GH.KI G (o:=(fP b ms ml mr mb mu n).2) (hO.sep _ gP);exact (ahD (G.add b (fP b ms ml mr mb mu n).2) w0 hO.add st li rv b ms ml mr mb mu n (hck.mono hm) (GH.KJ _ _ _) e h p d l (hh.mono hm) hz).mono fun _ _=>akY (b:=b) (o:=(fP b ms ml mr mb mu n).2) (R':=fun v=>v=vi (iO (aW st li rv) e h)) hO fun _ _ h=>h
abbrev Ka (b ms ml mr mb mu:Nat) (L:OL) (r:CR):aj→OL→Prop:=fun u L'=>∃ s:CS,u=vi r.1∧L'=fP b ms ml mr mb mu s.n :: (mb,fJ (fT s.bO)) :: L∧(r.1=0→s=r.2)
def Fh (m:Nat):Prop:=∀ (G:GH) (L:OL) (w0:World) (st:List bU) (li:List gq) (rv:List fI) (b ms ml mr mb mu:Nat) (s:CS) (l:List au) (v:aj) (body note:Bool) (t:Int),
 uH G st li rv ms ml mr mu→gZ G (fP b ms ml mr mb mu s.n :: (mb,fJ (fT s.bO)) :: L) w0→ay G (.sl 11 (l.map au.dat)) v→bg l < m→0≤t→t≤4→0≤s.n→s.n+(bg l:Nat)≤1099511627776 →
 Calls prog 60 #[(aI b 0),v,.agg #[.bool body,.bool note,vi t]] w0 (gI w0 G (fP b ms ml mr mb mu s.n :: (mb,fJ (fT s.bO)) :: L) fun u G' L'=>G=G'∧Ka b ms ml mr mb mu L (jk (aW st li rv) body note t l s) u L')
theorem rows_ok {m:Nat} (ih:Fh m) (hm:m≤4294967296) (Gt:GH) (L:OL) (w0:World) (st:List bU) (li:List gq) (rv:List fI) (b ms ml mr mb mu:Nat) (s:CS) (l:List bD) (v:aj) (note:Bool) (t:Int)
  (hck:uH Gt st li rv ms ml mr mu) (hO:gZ Gt (fP b ms ml mr mb mu s.n :: (mb,fJ (fT s.bO)) :: L) w0) (hv:ay Gt (.sl 6 (l.map bD.dat)) v) (hz:iD l < m) (ht0:0≤t) (Eu:t≤4) (hs0:0≤s.n) (hs1:s.n+(iD l:Nat)≤1099511627776) :
  Calls prog 129 #[(aI b 0),v,.agg #[.bool false,.bool note,vi t]] w0 (gI w0 Gt (fP b ms ml mr mb mu s.n :: (mb,fJ (fT s.bO)) :: L) fun u G' L'=>Ka b ms ml mr mb mu L (lW l.length (fun s=>iK (aW st li rv) note t l s) s) u L'):=by
 obtain ⟨A,c,rfl,hc1,hc2,hg⟩:=hv.slice;rw [bV] at *;have hll:=E9 l;refine jZ (N:=77) (T:=[(0,_),(1,_),(2,_)]) func129 rfl ntmps129 rfl rfl hO ?_;intro a H;refine dH (fun _ K1=>?_);refine fC (cs:=[_,_,_]) H wn rfl rfl rfl ?_;clear H;intro b5 a w hb5 H;refine kH H (ak K1 rfl (SQ fun _ K2=>SR fun _ K3=>Rm rfl (Rl lD rfl (Rc rfl (Kz K3 (Cd rfl ?_ ?_)))))) <;> clear H K1 K3
 ·intro eF a H
  try have mR:=dT eF
  refine bK (fun _ K4=>?_);have hE:lW l.length (fun s=>iK (aW st li rv) note t l s) s=(11,s):=av (by omega);exact kP H (SC (aU K4 rfl (LR results129 rfl fun H=>H.hp.iy (L':=fP b ms ml mr mb mu s.n :: (mb,fJ (fT s.bO)) :: L) (by repeat (first|exact iV _|apply List.Sublist.cons)) ⟨s,by rw [hE],rfl,fun h=>by rw [hE]⟩)))
 intro eF a H
 try have mR:=dF eF
 refine kP H (Kc K2 (SQ fun _ K5=>SR fun _ K6=>Rm rfl (Rl lD rfl (Rc rfl (Kz K6 (Cd rfl ?_ ?_)))))) <;> clear H K2 K6
 ·intro h20 a H
  try have BF:=dT h20
  refine bK (fun _ K7=>?_)
  have hE:lW l.length (fun s=>iK (aW st li rv) note t l s) s=(9,s):=by rw [lW,ah (by omega),av (by omega)]
  exact kP H (SC (aU K7 rfl (LR results129 rfl fun H=>H.hp.iy (L':=fP b ms ml mr mb mu s.n :: (mb,fJ (fT s.bO)) :: L) (by repeat (first|exact iV _|apply List.Sublist.cons)) ⟨s,by rw [hE],rfl,fun h=>by rw [hE]⟩)))
 intro h20 a H
 try have BF:=dF h20
 refine kP H (Kc K5 (SQ fun _ K8=>SQ fun _ K9=>?_));clear H K5;intro a H
 have hE:lW l.length (fun s=>iK (aW st li rv) note t l s) s=iK (aW st li rv) note t l s:=by rw [lW,ah (by omega),ah (by omega)]
 refine kP H (SC (Rm rfl (Rl lD rfl (Rm rfl (Kn K9 (SB ?_))))));clear H K9;intro a H;skip;refine eU (ι:=Nat × CS × GH) (Tc:=[(0,_),(5,_),(21,_),(22,_)]) (Lc:=[(_,_)]) (fun gh=>[(23,vi gh.1)]) (fun gh=>[fP b ms ml mr mb mu gh.2.1.n,(mb,fJ (fT gh.2.1.bO))]++L) (fun gh=>gh.2.2) (fun gh=>gh.1≤l.length∧(∀ b o,Gt b=some o→gh.2.2 b=some o)∧iK (aW st li rv) note t l s=iK (aW st li rv) note t (l.drop gh.1) gh.2.1∧0≤gh.2.1.n∧gh.2.1.n+(iD (l.drop gh.1):Nat)≤1099511627776) (fun gh=>l.length - gh.1) ((0,s,Gt)) (by exact (H).sub ⟨rfl,rfl,rfl,rfl,rfl,aB⟩) ?_ ?_
 ·exact ⟨iB _,fun _ _ h=>h,rfl,hs0,hs1⟩
 clear H;intro gh a w hI H;obtain ⟨k,s1,g⟩:=gh;dsimp only at hI H;obtain ⟨hk,hgm,hR,hn0,hn1⟩:=hI;dsimp only [lca,bG] at H;refine kP H (SR fun _ aQ=>Rc rfl (Kz aQ (SQ fun _ bH=>Cd rfl ?_ ?_))) <;> clear H aQ
 ·intro dU a H
  try have kr:=dT dU
  have hk2:k < l.length:=by omega
  have hsz:=J9 hk2;have hcs:=E5 l[k].cells
  have hdz:iD (l.drop k)=1+dx l[k].dat+iD (l.drop (k+1)):=by simp only [iD];rw [kZ hk2,fu,eZ]
  have hrz:=Al l[k];obtain ⟨xb,xo,qA,qn,qc,eA,en,ec,zA,zn,zc,cA,cn,cc,rfl,hrow,yL,hcl⟩:=GJ hk2 hg;replace hrow:=fun j u hj=>aO hgm (hrow j u hj);replace yL:=yL.mono hgm;replace hcl:=hcl.mono hgm;have hcn:=hcl.len;rw [bV] at hcn;subst hcn;have ahs:=hck.mono hgm;rw [kZ hk2,iK,JO] at hR;refine kP H (Kc bH (SQ fun _ bL=>SB (SR fun _ bR=>Ri lD jM rfl rfl ?_)));clear H bH;intro a H;refine bJ jM (cs:=[_,_,_,_,_,_]) H wn rfl rfl (fun j v hj=>H.hp.aJ (hrow j v hj)) rfl ?_;clear H;intro a H;refine eB jM H wn rfl ?_;clear H;intro b8 a w I4 H;refine bM jM 0 (vs:=[_,_,_,_,_,_]) _ H wn rfl rfl rfl rfl rfl rfl rfl rfl ?_;clear H;intro w H;dsimp only [List.set,setRow] at H;refine bR _ _ ?_;clear bR;refine bK (fun _ bQ=>?_);refine bK (fun _ dJ=>?_);refine dI hmx [[],[],[1],[0,1,2],[],[4],[4,5],[4,5,6],(ra 0 8),[],[9],[9,10],[9,10,11],(ra 0 13),(ra 0 14),(ra 0 15),(ra 0 16)] [14,15,16] (by kernel_rfl) [_,_,vg l[k].head (.slice qA qn qc) (.slice eA en ec) (.slice zA zn zc),vi (iO (aW st li rv) 9 l[k].head),_,.slice cA l[k].cells.length cc,_,_,vi (cO (decide ((l[k].cells.length:Int)=0)) 11),_,.slice cA l[k].cells.length cc,_,_,vi (cO (decide (32 < (l[k].cells.length:Int))) 9)] H (aD (Z0 rfl (Rm rfl)) (Z0 rfl (Rf Ph rfl)) ?_ ?_ (aD (Z0 rfl (Rf sK rfl)) (Z1 4 31 rfl (Ro tH 0 rfl)) (Z1 5 32 rfl (Rl oP rfl)) (Z1 6 33 rfl (Rc rfl)) (aD ?_ (Z0 rfl (Rf sK rfl)) (Z1 9 36 rfl (Ro tH 0 rfl)) (Z1 10 37 rfl (Rl oP rfl)) (aD (Z1 11 38 rfl (Rc rfl)) ?_ (bN rfl) (bN rfl) (aZ (bN rfl) cu))))) ?_
  ·refine dB 1 28 rfl rfl fun _ a w G1 hG HT H fin=>?_;refine bJ mE (cs:=[_,_,_,_,_]) H wn rfl rfl (H.hp.dL 0 rfl rfl) rfl ?_;clear H;intro a H;exact fin H iJ rfl
  ·refine bZ 0 27 2 29 rfl rfl fun _ a w G1 hG HT H fin=>?_;refine gY FJ (Li:=[_,_]) (L:=fP b ms ml mr mb mu s1.n :: (mb,fJ (fT s1.bO)) :: L) H wn rfl (F3 _ _ _ st li rv b ms ml mr mb mu _ (ahs.mono hG) (Hp.owns (Li:=[_,_]) H.hp) 9 l[k].head _ _ _ (yL.mono hG) (by omega)) rfl ?_;clear H;rintro v30 _ _ a w ⟨rfl,rfl,rfl⟩ PZ H;dsimp only [lca,bG] at H;exact fin H PZ (rfl)
  ·refine dB 7 34 rfl rfl fun _ a w G1 hG HT H fin=>?_;refine s_call jo H wn rfl (jv _ _ H.ro _ 11) rfl ?_;clear H;rintro v35 Km a w ⟨rfl,-⟩ P5 H;exact fin H P5 (rfl)
  ·refine dB 12 39 rfl rfl fun _ a w G1 hG HT H fin=>?_;refine s_call jo H wn rfl (jv _ _ H.ro _ 9) rfl ?_;clear H;rintro v40 Nz a w ⟨rfl,-⟩ agM H;exact fin H agM (rfl)
  clear H;intro a w G qP H hv;have H:=H.aP (hv 3 30 rfl rfl) rfl;have H:=H.aP (hv 8 35 rfl rfl) rfl;have H:=H.aP (hv 13 40 rfl rfl) rfl;clear hv;refine gX oO gN [_,_,_] [_,_,_] H wn rfl rfl rfl rfl rfl (by intro i q h;match i,h with|0,h=>exact h|1,h=>exact h|2,h=>exact h|n+3,h=>simp at h) rfl rfl ?_;clear H;intro b41 a w anC H;obtain ⟨HV,Ja,ahm,H⟩:=H.eu;have Xf:∀ b o,Gt b=some o→HV b=some o:=fun b o h=>Ja _ _ (qP _ _ (hgm _ _ h));refine s_call qw H wn rfl (qx _ _ H.ro _ _ (Ey [iO (aW st li rv) 9 l[k].head,cO (decide ((l[k].cells.length:Int)=0)) 11,cO (decide (32 < (l[k].cells.length:Int))) 9] ahm (show 3≤maxLen by decide))) rfl ?_;clear H;rintro v42 _ a w ⟨rfl,rfl⟩ - H;refine kH H (Ra rfl ?_);clear H;intro a H;refine aG ⟨rfl,?_⟩;refine dJ _ _ ?_;clear dJ;refine kP H (SR fun _ dO=>Rm rfl (Rc rfl (Kz dO (Cd rfl ?_ ?_)))) <;> clear H dO
  ·intro PD a H
   try have p44:=dT PD
   have e44:C8 (aW st li rv) l[k].head l[k].cells.length≠0:=p44
   have hF1:(lW l.length (fun s=>iK (aW st li rv) note t l s) s).1=C8 (aW st li rv) l[k].head l[k].cells.length:=by rw [hE,hR,KL (r:=(C8 (aW st li rv) l[k].head l[k].cells.length,s1)) e44,KL e44]
   have hF2:(lW l.length (fun s=>iK (aW st li rv) note t l s) s).1=0→s1=(lW l.length (fun s=>iK (aW st li rv) note t l s) s).2:=fun h=>absurd (hF1.symm.trans h) e44;exact kP H (SR fun _ dK=>Rm rfl (ak dK rfl (LR results129 rfl fun H=>H.hp.iy (L':=fP b ms ml mr mb mu s1.n :: (mb,fJ (fT s1.bO)) :: L) (by repeat (first|exact iV _|apply List.Sublist.cons)) ⟨s1,aC vi hF1.symm,rfl,hF2⟩)))
  intro PD a H
  try have p44:=dF PD
  have e44:C8 (aW st li rv) l[k].head l[k].cells.length=0:=mW.1 p44;rw [Il (r:=(C8 (aW st li rv) l[k].head l[k].cells.length,s1)) e44] at hR;dsimp only at hR;have aht:=hck.mono Xf;replace hcl:=hcl.mono (fun b o h=>Ja _ _ (qP b o h));refine kP H (Kc bQ (SR fun _ eO=>aT sK tH 0 rfl rfl (Rl oP rfl (Rm rfl (Kz eO (SB ?_))))));clear H bQ eO;intro a H;skip;refine eU (ι:=Nat × CS × GH) (Tc:=[(0,_),(5,_),(21,_),(22,_),(23,_),(47,_),(48,_)]) (Lc:=[(_,_),(_,_)]) (fun gh=>[(49,vi gh.1)]) (fun gh=>[fP b ms ml mr mb mu gh.2.1.n,(mb,fJ (fT gh.2.1.bO))]++L) (fun gh=>gh.2.2) (fun gh=>gh.1≤l[k].cells.length∧(∀ b o,HV b=some o→gh.2.2 b=some o)∧iK (aW st li rv) note t l s=fU (qM (aW st li rv) note t (l[k].cells.drop gh.1) gh.2.1) (fun s=>iK (aW st li rv) note t (l.drop (k+1)) s)∧0≤gh.2.1.n∧gh.2.1.n+(jI (l[k].cells.drop gh.1):Nat)+(iD (l.drop (k+1)):Nat)≤1099511627776) (fun gh=>l[k].cells.length - gh.1) ((0,s1,HV)) (by exact (H).sub ⟨rfl,rfl,rfl,rfl,rfl,rfl,rfl,rfl,aB⟩) ?_ ?_
  ·exact ⟨iB _,fun _ _ h=>h,hR,hn0,by dsimp only;rw [vP];omega⟩
  clear H;intro gh a w hI H;obtain ⟨c,s2,g2⟩:=gh;dsimp only at hI H;obtain ⟨hc,LZ,hR2,hm0,hm1⟩:=hI;have pO:=fun b o h=>LZ b o (Xf b o h);dsimp only [lca,bG] at H;refine kP H (SR fun _ gH=>Rc rfl (Kz gH (SQ fun _ fE=>Cd rfl ?_ ?_))) <;> clear H gH
  ·intro h50 a H
   try have p50:=dT h50
   have hk4:c < l[k].cells.length:=by omega
   have ait:=J7 hk4
   have ahx:jI (l[k].cells.drop c)=1+dx l[k].cells[c].dat+jI (l[k].cells.drop (c+1)):=by simp only [jI];rw [kZ hk4,fu,eZ]
   have hcz:=Aj l[k].cells[c];obtain ⟨b3',o3,sA,sn,sc,tA,tn,tc,uA,un,uc,gA,gn,gc,rfl,hrow,hch,hcf⟩:=FC hk4 (hcl.mono LZ).at_;have Qn:=aht.mono LZ;rw [kZ hk4,qM,Io] at hR2;obtain ⟨y,hy⟩:∃ y,y=l[k].cells[c]:=⟨_,rfl⟩;rw [← hy] at hR2 hrow hch hcf hcz ait ahx;refine kP H (Kc fE (SQ fun _ gL=>SB (SR fun _ jl=>Ri oP ku rfl rfl ?_)));clear H fE;intro a H;refine bJ ku (cs:=[_,_,_,_,_,_,_]) H wn rfl rfl (fun j v hj=>H.hp.aJ (hrow j v hj)) rfl ?_;clear H;intro a H;refine eB ku H wn rfl ?_;clear H;intro b11 a w LP H;refine bM ku 0 (vs:=[_,_,_,_,_,_,_]) _ H wn rfl rfl rfl rfl rfl rfl rfl rfl ?_;clear H;intro w H;dsimp only [List.set,setRow] at H;refine jl _ _ ?_;clear jl;refine kP H (SQ fun _ kC=>SR fun _ jY=>Rm rfl (aT D8 aH 0 rfl rfl ?_));clear H;intro a H;refine gY OG (Li:=[_,_,_]) (L:=fP b ms ml mr mb mu s2.n :: (mb,fJ (fT s2.bO)) :: L) H wn rfl (Oj _ _ _ st li rv b ms ml mr mb mu _ s2.bO y.id Qn (Hp.owns (Li:=[_,_,_]) H.hp)) rfl ?_;clear H;rintro v56 _ _ a w ⟨rfl,rfl,rfl⟩ - H;dsimp only [lca,bG] at H;refine kH H (ak jY rfl (SR fun _ jJ=>Rm rfl (Rc rfl (Kz jJ (Cd rfl ?_ ?_))))) <;> clear H jY jJ
   ·intro jU a H
    try have p58:=dT jU
    have hF1:(lW l.length (fun s=>iK (aW st li rv) note t l s) s).1=qB s2.bO y.id:=by rw [hE,hR2];simp [fU,ko,p58]
    have hF2:(lW l.length (fun s=>iK (aW st li rv) note t l s) s).1=0→(⟨s2.n,kg s2.bO y.id⟩:CS)=(lW l.length (fun s=>iK (aW st li rv) note t l s) s).2:=fun h=>absurd (hF1.symm.trans h) p58;exact kP H (SR fun _ kJ=>Rm rfl (ak kJ rfl (LR results129 rfl fun H=>H.hp.iy (L':=fP b ms ml mr mb mu s2.n :: (mb,fJ (fT (kg s2.bO y.id))) :: L) (by repeat (first|exact iV _|apply List.Sublist.cons)) ⟨⟨s2.n,kg s2.bO y.id⟩,aC vi hF1.symm,rfl,hF2⟩)))
   intro jU a H
   try have p58:=dF jU
   have e58:qB s2.bO y.id=0:=mW.1 p58;refine kP H (Kc kC (SQ fun _ lF=>SR fun _ jK=>Rm rfl (Rf Pj rfl ?_)));clear H kC;intro a H;refine bJ mE (cs:=[_,_,_,_,_]) H wn rfl rfl (H.hp.dL 0 rfl rfl) rfl ?_;clear H;intro a H;refine gY FJ (Li:=[_,_,_]) (L:=fP b ms ml mr mb mu s2.n :: (mb,fJ (fT (kg s2.bO y.id))) :: L) H wn rfl (F3 _ _ _ st li rv b ms ml mr mb mu _ Qn (Hp.owns (Li:=[_,_,_]) H.hp) 10 y.head _ _ _ hch (by omega)) rfl ?_;clear H;rintro v63 _ _ a w ⟨rfl,rfl,rfl⟩ - H;dsimp only [lca,bG] at H;refine kH H (ak jK rfl (SR fun _ oV=>Rm rfl (Rc rfl (Kz oV (Cd rfl ?_ ?_))))) <;> clear H jK oV
   ·intro rG a H
    try have p65:=dT rG
    have hF1:(lW l.length (fun s=>iK (aW st li rv) note t l s) s).1=iO (aW st li rv) 10 y.head:=by rw [hE,hR2];simp [fU,ko,e58,p65]
    have hF2:(lW l.length (fun s=>iK (aW st li rv) note t l s) s).1=0→(⟨s2.n,kg s2.bO y.id⟩:CS)=(lW l.length (fun s=>iK (aW st li rv) note t l s) s).2:=fun h=>absurd (hF1.symm.trans h) p65;exact kP H (SR fun _ qh=>Rm rfl (ak qh rfl (LR results129 rfl fun H=>H.hp.iy (L':=fP b ms ml mr mb mu s2.n :: (mb,fJ (fT (kg s2.bO y.id))) :: L) (by repeat (first|exact iV _|apply List.Sublist.cons)) ⟨⟨s2.n,kg s2.bO y.id⟩,aC vi hF1.symm,rfl,hF2⟩)))
   intro rG a H
   try have p65:=dF rG
   have e65:iO (aW st li rv) 10 y.head=0:=mW.1 p65;refine kP H (Kc lF (SR fun _ qH=>Rm rfl (aT Cm gT 0 rfl rfl ?_)));clear H lF;intro a H;refine bJ Nc (cs:=[_,_,_]) H wn rfl rfl (H.hp.dL 2 rfl rfl) rfl ?_;clear H;intro a H;refine gY IB (Li:=[_,_,_]) (L:=fP b ms ml mr mb mu s2.n :: (mb,fJ (fT (kg s2.bO y.id))) :: L) H wn rfl (ih _ _ _ st li rv b ms ml mr mb mu ⟨s2.n,kg s2.bO y.id⟩ y.flow _ false note t Qn (Hp.owns (Li:=[_,_,_]) H.hp) hcf (by omega) ht0 Eu hm0 (by dsimp only;omega)) rfl ?_;clear H;rintro v71 _ _ a w ⟨rfl,s3,rfl,rfl,h3⟩ - H;dsimp only [lca,bG] at H;refine kH H (ak qH rfl (SR fun _ rC=>Rm rfl (Rc rfl (Kz rC (Cd rfl ?_ ?_))))) <;> clear H qH rC
   ·intro PL a H
    try have p73:=dT PL
    have hF1:(lW l.length (fun s=>iK (aW st li rv) note t l s) s).1=(jk (aW st li rv) false note t y.flow ⟨s2.n,kg s2.bO y.id⟩).1:=by rw [hE,hR2];simp [fU,ko,e58,e65,p73]
    have hF2:(lW l.length (fun s=>iK (aW st li rv) note t l s) s).1=0→s3=(lW l.length (fun s=>iK (aW st li rv) note t l s) s).2:=fun h=>absurd (hF1.symm.trans h) p73;exact kP H (SR fun _ qI=>Rm rfl (ak qI rfl (LR results129 rfl fun H=>H.hp.iy (L':=fP b ms ml mr mb mu s3.n :: (mb,fJ (fT s3.bO)) :: L) (by repeat (first|exact iV _|apply List.Sublist.cons)) ⟨s3,aC vi hF1.symm,rfl,hF2⟩)))
   intro PL a H
   try have p73:=dF PL
   have OA:(jk (aW st li rv) false note t y.flow ⟨s2.n,kg s2.bO y.id⟩).1=0:=mW.1 p73;obtain ⟨hu1,hu2⟩:=Np (aW st li rv) false note t y.flow ⟨s2.n,kg s2.bO y.id⟩;rw [← h3 OA] at hu1 hu2;dsimp only at hu1 hu2
   have hS:fU (fU (fU (ko s2 y.id) fun s=>fU (iO (aW st li rv) 10 y.head,s) fun s=>jk (aW st li rv) false note t y.flow s) fun s=>qM (aW st li rv) note t (l[k].cells.drop (c+1)) s) (fun s=>iK (aW st li rv) note t (l.drop (k+1)) s)=fU (qM (aW st li rv) note t (l[k].cells.drop (c+1)) s3) (fun s=>iK (aW st li rv) note t (l.drop (k+1)) s):=by
    rw [h3 OA];simp [fU,ko,e58,e65,OA]
   refine kP H (Kc gL (SC (Rd rfl (Rm rfl ?_))));clear H gL;intro a H;refine aG ?_;refine dh ((c+1,s3,g2)) (by exact (H.dP (Pl:=[_,_,_,_,_]) (dD:=[_,_,_,_]) [1,2,3,4] (by decide) rfl).sub ⟨rfl,rfl,rfl,rfl,rfl,rfl,rfl,rfl,aB⟩) ?_ ?_
   ·(try dsimp only);exact ⟨by omega,LZ,hR2.trans hS,by omega,by omega⟩
   first|omega|(dsimp only;omega)
  intro h50 a H
  try have p50:=dF h50
  refine dW ?_;refine bL _ _ ?_;clear bL;refine kP H (SC (Rd rfl (Rm rfl ?_)));clear H;intro a H;refine aG ?_;refine dh ((k+1,s2,g2)) (by exact (H.dP (Pl:=[_,_,_,_]) (dD:=[_,_,_]) [1,2,3] (by decide) rfl).sub ⟨rfl,rfl,rfl,rfl,rfl,aB⟩) ?_ ?_
  ·(try dsimp only);exact ⟨by omega,pO,by rw [hR2,ig (by omega),qM,Il rfl],hm0,by omega⟩
  first|omega|(dsimp only;omega)
 intro dU a H
 try have kr:=dF dU
 refine dW ?_;refine K8 _ _ ?_;clear K8;refine bK (fun _ tL=>?_)
 have hF1:(lW l.length (fun s=>iK (aW st li rv) note t l s) s).1=0:=by rw [hE,hR,ig (by omega),iK]
 have hF2:(lW l.length (fun s=>iK (aW st li rv) note t l s) s).1=0→s1=(lW l.length (fun s=>iK (aW st li rv) note t l s) s).2:=fun h=>by rw [hE,hR,ig (by omega),iK]
 exact kP H (SC (aU tL rfl (LR results129 rfl fun H=>H.hp.iy (L':=fP b ms ml mr mb mu s1.n :: (mb,fJ (fT s1.bO)) :: L) (by repeat (first|exact iV _|apply List.Sublist.cons)) ⟨s1,aC vi hF1.symm,rfl,hF2⟩)))
end
section
open Go.RowKit
theorem aeg:∀ args w,(callFunc 129 args).run prog w=.ok (.enter 129 args) w:=enters func129 rfl (by kernel_rfl)
theorem aef:∀ args w,(callFunc 127 args).run prog w=.ok (.enter 127 args) w:=enters func127 rfl (by kernel_rfl)
theorem DY:cB prog 147 5 5:=⟨by kernel_rfl⟩
theorem afK:cB prog 106 0 0:=⟨by kernel_rfl⟩
theorem akq {G:GH} {b:Nat} {x:Int} (h:G b=some (.cells #[vi x] 56 (0,0))):ay G (.sl 1 ([x].map fun k=>[li k])) (.slice (some ⟨b,0,none⟩) 1 1):=Ey [x] h (show 1≤maxLen by decide)
theorem aiP {m:Nat} (ih:Fh m) (hm:m≤4294967296) (Gt:GH) (L:OL) (w0:World) (st:List bU) (li:List gq) (rv:List fI) (b ms ml mr mb mu:Nat) (s:CS) (x:au) (p d y f r:aj) (body note:Bool) (t:Int)
  (hck:uH Gt st li rv ms ml mr mu) (hO:gZ Gt (fP b ms ml mr mb mu s.n :: (mb,fJ (fT s.bO)) :: L) w0) (hh:iR Gt x.head p d y) (hf:ay Gt (.sl 11 (x.flow.map au.dat)) f) (hr:ay Gt (.sl 6 (x.rows.map bD.dat)) r) (hz:dx x.dat≤m) (ht0:0≤t) (Eu:t≤4) (hs0:0≤s.n) (hs1:s.n+(dx x.dat:Nat)≤1099511627776) :
  Calls prog 95 #[(aI b 0),.agg #[vi x.kind,vi x.code,vi x.id,.string x.text,p,vi x.head.marks.ins,vi x.head.marks.move,d,y,f,r],.agg #[.bool body,.bool note,vi t]] w0 (gI w0 Gt (fP b ms ml mr mb mu s.n :: (mb,fJ (fT s.bO)) :: L) fun u G' L'=>Ka b ms ml mr mb mu L (eH (aW st li rv) body note t x s) u L'):=by
 obtain ⟨pA,pn,pc,rfl⟩:=hh.props.form;obtain ⟨dA,dn,dc,rfl⟩:=hh.dw.form;obtain ⟨lA,ln,lc,rfl⟩:=hh.layers.form;obtain ⟨fA,fc,rfl,-⟩:=hf.slice;obtain ⟨rA,rc,rfl,-⟩:=hr.slice;(iterate 2 rw [bV] at *);have hxz:=oF x;have hcl:=FH x.text
 have Ev:dG x≤x.text.size+1:=by unfold dG;split <;> omega
 have hE:=Mr (aW st li rv) body note t x s;refine jZ (N:=117) (T:=[(0,_),(1,_),(2,_)]) func95 rfl ntmps95 rfl rfl hO ?_;intro a H;refine dH (fun _ K1=>?_);refine fC (cs:=[_,_,_,_,_,_,_,_,_,_,_]) H wn rfl rfl rfl ?_;clear H;intro b4 a w hb4 H;refine fC (cs:=[_,_,_]) H wn rfl rfl rfl ?_;clear H;intro b5 a w hb5 H;refine kH H (ak K1 rfl (SQ fun _ K2=>SR fun _ K3=>?_));clear H K1;intro a H;refine bJ bW (cs:=[_,_,_,_,_,_,_,_,_,_,_]) H wn rfl rfl (H.hp.dL 1 rfl rfl) rfl ?_;clear H;intro a H;refine s_call aef H wn rfl (agw _ _ H.ro x _ _ _ _ _ _ _ (by omega)) rfl ?_;clear H;rintro v15 _ a w ⟨rfl,rfl⟩ - H;refine kH H (ak K3 rfl (SR fun _ K4=>Rm rfl (Rc rfl (Kz K4 (Cd rfl ?_ ?_))))) <;> clear H K3 K4
 ·intro eF a H
  try have mR:=dT eF
  rw [KL (r:=(kD x,s)) mR] at hE;exact kP H (SR fun _ K5=>Rm rfl (ak K5 rfl (LR results95 rfl fun H=>H.hp.iy (L':=fP b ms ml mr mb mu s.n :: (mb,fJ (fT s.bO)) :: L) (by repeat (first|exact iV _|apply List.Sublist.cons)) ⟨s,by rw [hE],rfl,fun h=>by rw [hE]⟩)))
 intro eF a H
 try have mR:=dF eF
 rw [Il (r:=(kD x,s)) (mW.1 mR)] at hE;dsimp only at hE;refine kP H (Kc K2 (SR fun _ K6=>Rm rfl (Rk rfl (aT DY aH 2 rfl rfl (Rd rfl (Rk rfl (Rf DY rfl ?_)))))));clear H K2;intro a H;refine bM aH 2 (vs:=[_]) _ H wn rfl rfl rfl rfl rfl rfl rfl rfl ?_;clear H;intro w H;dsimp only [List.set,setRow] at H;refine K6 _ _ ?_;clear K6;refine pE (ι:=CS × GH) (Tc:=[(0,_),(4,_),(5,_)]) (Lc:=[(_,_),(_,_)]) (fun gh=>[]) (fun gh=>[fP b ms ml mr mb mu gh.1.n,(mb,fJ (fT gh.1.bO))]++L) (fun gh=>gh.2) (fun gh=>kQ body note t x.kind x.id ⟨s.n+(dG x:Nat),s.bO⟩=(0,gh.1)∧(∀ b o,Gt b=some o→gh.2 b=some o)∧gh.1.n=s.n+(dG x:Nat)∧(x.kind=7→t < 4)) (by exact (H).sub ⟨rfl,rfl,rfl,aB⟩) ?_ ?_
 ·skip;refine kP H (SR fun _ K7=>aT gV aH 1 rfl rfl (Kz K7 (SB (SR fun _ K8=>Rc rfl (ak K8 rfl (Cd rfl ?_ ?_)))))) <;> clear H K7 K8
  ·intro fH a H
   try have p28:=dT fH
   have hu:((dG x:Nat):Int)=mH x.text:=by rw [dG,av p28]
   refine kP H (SR fun _ K9=>aT pG fV 1 rfl rfl ?_);clear H;intro a H;refine s_call OV H wn rfl (Ot _ _ H.ro x.text (by omega)) rfl ?_;clear H;rintro v33 _ a w ⟨rfl,rfl⟩ - H;refine kH H (Rm rfl ?_);clear H;intro a H;(iterate 2 refine jc H wn rfl rfl rfl ?_;clear H;intro a H);refine kH H (Ra rfl (ak K9 rfl (SC (Rm rfl (Rk rfl (aT DY aH 2 rfl rfl (Rm rfl (Rs rfl (Rd rfl ?_)))))))));clear H K9;intro a H;rw [show s.n+1+((mH x.text:Int) - 1)=s.n+(dG x:Nat) by omega] at H;refine kH H (Rk rfl (Rf DY rfl ?_));clear H;intro a H;refine bM aH 2 (vs:=[_]) _ H wn rfl rfl rfl rfl rfl rfl rfl rfl ?_;clear H;intro w H;dsimp only [List.set,setRow] at H;refine aG ?_;refine ⟨(⟨s.n+(dG x:Nat),s.bO⟩,Gt),by exact (H).sub ⟨rfl,rfl,rfl,aB⟩,?_⟩;(try dsimp only)
   first
   | exact ⟨by simp_all [kQ,cO,fU,ko],fun _ _ h=>h,rfl,fun h7=>by first|omega|(exfalso;simp_all)⟩
   | exact ⟨by simp_all [kQ,cO,fU,ko],uo,rfl,fun h7=>by first|omega|(exfalso;simp_all)⟩
  intro fH a H
  try have p28:=dF fH
  have hu:((dG x:Nat):Int)=1:=by rw [dG,ah p28];rfl
  rw [show s.n+1=s.n+((dG x:Nat):Int) by omega] at H;refine kP H (SR fun _ aQ=>Rc rfl (ak aQ rfl (Cd rfl ?_ ?_))) <;> clear H aQ
  ·intro h45 a H
   try have p45:=dT h45
   refine kP H (SR fun _ bH=>aT afK zm 0 rfl rfl (Rn rfl (Kz bH (Cd rfl ?_ ?_)))) <;> clear H bH
   ·intro LG a H
    try have p49:=dT LG
    refine bK (fun _ bL=>?_)
    have hF1:(eH (aW st li rv) body note t x s).1=19:=by rw [hE];simp [fU,kQ,p45,cO,LG]
    have hF2:(eH (aW st li rv) body note t x s).1=0→(⟨s.n+(dG x:Nat),s.bO⟩:CS)=(eH (aW st li rv) body note t x s).2:=fun h=>absurd (hF1.symm.trans h) (by decide);exact kP H (SC (aU bL rfl (LR results95 rfl fun H=>H.hp.iy (L':=fP b ms ml mr mb mu (s.n+(dG x:Nat)) :: (mb,fJ (fT (s.bO))) :: L) (by repeat (first|exact iV _|apply List.Sublist.cons)) ⟨⟨s.n+(dG x:Nat),s.bO⟩,aC vi hF1.symm,rfl,hF2⟩)))
   intro LG a H
   try have p49:=dF LG
   refine fZ ?_;refine ⟨(⟨s.n+(dG x:Nat),s.bO⟩,Gt),by exact (H).sub ⟨rfl,rfl,rfl,aB⟩,?_⟩;(try dsimp only)
   first
   | exact ⟨by simp_all [kQ,cO,fU,ko],fun _ _ h=>h,rfl,fun h7=>by first|omega|(exfalso;simp_all)⟩
   | exact ⟨by simp_all [kQ,cO,fU,ko],uo,rfl,fun h7=>by first|omega|(exfalso;simp_all)⟩
  intro h45 a H
  try have p45:=dF h45
  refine kP H (SR fun _ bR=>Rc rfl (ak bR rfl (Cd rfl ?_ ?_))) <;> clear H bR
  ·intro h50 a H
   try have p50:=dT h50
   refine kP H (SQ fun _ bQ=>SR fun _ dJ=>aT O7 zm 0 rfl rfl ?_);clear H;intro a H;refine s_call jo H wn rfl (jv _ _ H.ro _ 19) rfl ?_;clear H;rintro v54 _ a w ⟨rfl,rfl⟩ - H;refine gX oO gN [_] [_] H wn rfl rfl rfl rfl rfl (by intro i q h;match i,h with|0,h=>exact h|n+1,h=>simp at h) rfl rfl ?_;clear H;intro b55 a w anE H;obtain ⟨HY,uo,aho,H⟩:=H.eu;refine s_call qw H wn rfl (qx _ _ H.ro _ _ (akq aho)) rfl ?_;clear H;rintro v56 _ a w ⟨rfl,rfl⟩ - H;refine kH H (ak dJ rfl (SR fun _ dO=>Rm rfl (Rc rfl (Kz dO (Cd rfl ?_ ?_))))) <;> clear H dJ dO
   ·intro jU a H
    try have p58:=dT jU
    have e58:cO note 19≠0:=fun h=>p58 (by rw [h];rfl)
    have aiB:dM [cO note 19]=cO note 19:=by simp [dM,e58]
    rw [aiB] at H
    have hF1:(eH (aW st li rv) body note t x s).1=cO note 19:=by rw [hE];simp [fU,kQ,p50,e58]
    have hF2:(eH (aW st li rv) body note t x s).1=0→(⟨s.n+(dG x:Nat),s.bO⟩:CS)=(eH (aW st li rv) body note t x s).2:=fun h=>absurd (hF1.symm.trans h) (e58);exact kP H (SR fun _ dK=>Rm rfl (ak dK rfl (LR results95 rfl fun H=>H.hp.iy (L':=fP b ms ml mr mb mu (s.n+(dG x:Nat)) :: (mb,fJ (fT (s.bO))) :: L) (by repeat (first|exact iV _|apply List.Sublist.cons)) ⟨⟨s.n+(dG x:Nat),s.bO⟩,aC vi hF1.symm,rfl,hF2⟩)))
   intro jU a H
   try have p58:=dF jU
   have e58:cO note 19=0:=Decidable.byContradiction fun h=>p58 (by simp [dM,h]);refine kP H (Kc bQ (SR fun _ eO=>Rm rfl (aT zL aH 1 rfl rfl ?_)));clear H bQ;intro a H;refine gY OG (Li:=[_,_]) (L:=fP b ms ml mr mb mu _ :: (mb,fJ (fT s.bO)) :: L) H wn rfl (Oj _ _ _ st li rv b ms ml mr mb mu _ s.bO x.id (hck.mono uo) (Hp.owns (Li:=[_,_]) H.hp)) rfl ?_;clear H;rintro v63 _ _ a w ⟨rfl,rfl,rfl⟩ - H;dsimp only [lca,bG] at H;refine kH H (ak eO rfl (SR fun _ gH=>Rm rfl (Rc rfl (Kz gH (Cd rfl ?_ ?_))))) <;> clear H eO gH
   ·intro rG a H
    try have p65:=dT rG
    have hF1:(eH (aW st li rv) body note t x s).1=qB s.bO x.id:=by rw [hE];simp [fU,kQ,p50,e58,ko,p65]
    have hF2:(eH (aW st li rv) body note t x s).1=0→(⟨s.n+(dG x:Nat),kg s.bO x.id⟩:CS)=(eH (aW st li rv) body note t x s).2:=fun h=>absurd (hF1.symm.trans h) (p65);exact kP H (SR fun _ fE=>Rm rfl (ak fE rfl (LR results95 rfl fun H=>H.hp.iy (L':=fP b ms ml mr mb mu (s.n+(dG x:Nat)) :: (mb,fJ (fT (kg s.bO x.id))) :: L) (by repeat (first|exact iV _|apply List.Sublist.cons)) ⟨⟨s.n+(dG x:Nat),kg s.bO x.id⟩,aC vi hF1.symm,rfl,hF2⟩)))
   intro rG a H
   try have p65:=dF rG
   have e65:qB s.bO x.id=0:=mW.1 p65;refine fZ ?_;refine ⟨(⟨s.n+(dG x:Nat),kg s.bO x.id⟩,HY),by exact (H).sub ⟨rfl,rfl,rfl,aB⟩,?_⟩;(try dsimp only)
   first
   | exact ⟨by simp_all [kQ,cO,fU,ko],fun _ _ h=>h,rfl,fun h7=>by first|omega|(exfalso;simp_all)⟩
   | exact ⟨by simp_all [kQ,cO,fU,ko],uo,rfl,fun h7=>by first|omega|(exfalso;simp_all)⟩
  intro h50 a H
  try have p50:=dF h50
  refine kP H (SR fun _ gL=>Rc rfl (ak gL rfl (Cd rfl ?_ ?_))) <;> clear H gL
  ·intro PI a H
   try have p67:=dT PI
   refine kP H (SQ fun _ jl=>SR fun _ kC=>aT IC aH 0 rfl rfl (Rc rfl (Kz kC (Cd rfl ?_ ?_)))) <;> clear H kC
   ·intro PK a H
    try have p71:=dT PK
    refine bK (fun _ jY=>?_)
    have hF1:(eH (aW st li rv) body note t x s).1=17:=by rw [hE];simp [fU,kQ,p67,cO,p71]
    have hF2:(eH (aW st li rv) body note t x s).1=0→(⟨s.n+(dG x:Nat),s.bO⟩:CS)=(eH (aW st li rv) body note t x s).2:=fun h=>absurd (hF1.symm.trans h) (by decide);exact kP H (SC (aU jY rfl (LR results95 rfl fun H=>H.hp.iy (L':=fP b ms ml mr mb mu (s.n+(dG x:Nat)) :: (mb,fJ (fT (s.bO))) :: L) (by repeat (first|exact iV _|apply List.Sublist.cons)) ⟨⟨s.n+(dG x:Nat),s.bO⟩,aC vi hF1.symm,rfl,hF2⟩)))
   intro PK a H
   try have p71:=dF PK
   have e71:¬ 4≤t:=by omega
   refine kP H (Kc jl (SR fun _ jJ=>Rm rfl (aT zL aH 1 rfl rfl ?_)));clear H jl;intro a H;refine gY OG (Li:=[_,_]) (L:=fP b ms ml mr mb mu _ :: (mb,fJ (fT s.bO)) :: L) H wn rfl (Oj _ _ _ st li rv b ms ml mr mb mu _ s.bO x.id hck (Hp.owns (Li:=[_,_]) H.hp)) rfl ?_;clear H;rintro v75 _ _ a w ⟨rfl,rfl,rfl⟩ - H;dsimp only [lca,bG] at H;refine kH H (ak jJ rfl (SR fun _ kJ=>Rm rfl (Rc rfl (Kz kJ (Cd rfl ?_ ?_))))) <;> clear H jJ kJ
   ·intro Ed a H
    try have Gy:=dT Ed
    have hF1:(eH (aW st li rv) body note t x s).1=qB s.bO x.id:=by rw [hE];simp [fU,kQ,p67,cO,e71,ko,Gy]
    have hF2:(eH (aW st li rv) body note t x s).1=0→(⟨s.n+(dG x:Nat),kg s.bO x.id⟩:CS)=(eH (aW st li rv) body note t x s).2:=fun h=>absurd (hF1.symm.trans h) (Gy);exact kP H (SR fun _ lF=>Rm rfl (ak lF rfl (LR results95 rfl fun H=>H.hp.iy (L':=fP b ms ml mr mb mu (s.n+(dG x:Nat)) :: (mb,fJ (fT (kg s.bO x.id))) :: L) (by repeat (first|exact iV _|apply List.Sublist.cons)) ⟨⟨s.n+(dG x:Nat),kg s.bO x.id⟩,aC vi hF1.symm,rfl,hF2⟩)))
   intro Ed a H
   try have Gy:=dF Ed
   have e77:qB s.bO x.id=0:=mW.1 Gy;refine fZ ?_;refine ⟨(⟨s.n+(dG x:Nat),kg s.bO x.id⟩,Gt),by exact (H).sub ⟨rfl,rfl,rfl,aB⟩,?_⟩;(try dsimp only)
   first
   | exact ⟨by simp_all [kQ,cO,fU,ko],fun _ _ h=>h,rfl,fun h7=>by first|omega|(exfalso;simp_all)⟩
   | exact ⟨by simp_all [kQ,cO,fU,ko],uo,rfl,fun h7=>by first|omega|(exfalso;simp_all)⟩
  intro PI a H
  try have p67:=dF PI
  refine kP H (SR fun _ jK=>Rc rfl (ak jK rfl (Cd rfl ?_ ?_))) <;> clear H jK
  ·intro Cr a H
   try have RI:=dT Cr
   refine kP H (SR fun _ oV=>aT zL aH 1 rfl rfl ?_);clear H;intro a H;refine s_call vU H wn rfl (wu _ _ H.ro x.id 1 1073741824) rfl ?_;clear H;rintro v83 _ a w ⟨rfl,rfl⟩ - H;refine kH H (Rn rfl (Kz oV (Cd rfl ?_ ?_))) <;> clear H oV
   ·intro h84 a H
    try have p84:=dT h84
    refine bK (fun _ qh=>?_)
    have e84:¬ (1≤x.id∧x.id≤1073741824):=by have h0:=h84;simp at h0;omega
    have hF1:(eH (aW st li rv) body note t x s).1=18:=by rw [hE];simp [fU,kQ,RI,cO,e84]
    have hF2:(eH (aW st li rv) body note t x s).1=0→(⟨s.n+(dG x:Nat),s.bO⟩:CS)=(eH (aW st li rv) body note t x s).2:=fun h=>absurd (hF1.symm.trans h) (by decide);exact kP H (SC (aU qh rfl (LR results95 rfl fun H=>H.hp.iy (L':=fP b ms ml mr mb mu (s.n+(dG x:Nat)) :: (mb,fJ (fT (s.bO))) :: L) (by repeat (first|exact iV _|apply List.Sublist.cons)) ⟨⟨s.n+(dG x:Nat),s.bO⟩,aC vi hF1.symm,rfl,hF2⟩)))
   intro h84 a H
   try have p84:=dF h84
   refine fZ ?_;refine ⟨(⟨s.n+(dG x:Nat),s.bO⟩,Gt),by exact (H).sub ⟨rfl,rfl,rfl,aB⟩,?_⟩;(try dsimp only)
   first
   | exact ⟨by simp_all [kQ,cO,fU,ko],fun _ _ h=>h,rfl,fun h7=>by first|omega|(exfalso;simp_all)⟩
   | exact ⟨by simp_all [kQ,cO,fU,ko],uo,rfl,fun h7=>by first|omega|(exfalso;simp_all)⟩
  intro Cr a H
  try have RI:=dF Cr
  refine fZ ?_;refine ⟨(⟨s.n+(dG x:Nat),s.bO⟩,Gt),by exact (H).sub ⟨rfl,rfl,rfl,aB⟩,?_⟩;(try dsimp only)
  first
  | exact ⟨by simp_all [kQ,cO,fU,ko],fun _ _ h=>h,rfl,fun h7=>by first|omega|(exfalso;simp_all)⟩
  | exact ⟨by simp_all [kQ,cO,fU,ko],uo,rfl,fun h7=>by first|omega|(exfalso;simp_all)⟩
 clear H;intro gh a w hI H;obtain ⟨s1,g⟩:=gh;dsimp only at hI H;obtain ⟨hP,wo,anV,ht7⟩:=hI;rw [hP,Il rfl] at hE;dsimp only at hE;replace hck:=hck.mono wo;replace hh:=hh.mono wo;replace hf:=hf.mono wo;replace hr:=hr.mono wo;dsimp only [lca,bG] at H;refine kP H (SQ fun _ qH=>SR fun _ rC=>Rm rfl (aT gV aH 1 rfl rfl (Rf uU rfl ?_)));clear H;intro a H;refine bJ mE (cs:=[_,_,_,_,_]) H wn rfl rfl (H.hp.dL 1 rfl rfl) rfl ?_;clear H;intro a H;refine gY FJ (Li:=[_,_]) (L:=fP b ms ml mr mb mu s1.n :: (mb,fJ (fT s1.bO)) :: L) H wn rfl (F3 _ _ _ st li rv b ms ml mr mb mu _ hck (Hp.owns (Li:=[_,_]) H.hp) x.kind x.head _ _ _ hh (by omega)) rfl ?_;clear H;rintro v90 _ _ a w ⟨rfl,rfl,rfl⟩ - H;dsimp only [lca,bG] at H;refine kH H (ak rC rfl (SR fun _ qI=>Rm rfl (Rc rfl (Kz qI (Cd rfl ?_ ?_))))) <;> clear H rC qI
 ·intro PU a H
  try have MN:=dT PU
  have hF1:(eH (aW st li rv) body note t x s).1=iO (aW st li rv) x.kind x.head:=by rw [hE,KL (r:=(iO (aW st li rv) x.kind x.head,s1)) MN]
  have hF2:(eH (aW st li rv) body note t x s).1=0→s1=(eH (aW st li rv) body note t x s).2:=fun h=>absurd (hF1.symm.trans h) MN;exact kP H (SR fun _ tL=>Rm rfl (ak tL rfl (LR results95 rfl fun H=>H.hp.iy (L':=fP b ms ml mr mb mu (s1.n) :: (mb,fJ (fT (s1.bO))) :: L) (by repeat (first|exact iV _|apply List.Sublist.cons)) ⟨s1,aC vi hF1.symm,rfl,hF2⟩)))
 intro PU a H
 try have MN:=dF PU
 rw [Il (r:=(iO (aW st li rv) x.kind x.head,s1)) (mW.1 MN)] at hE;dsimp only at hE;refine kP H (Kc qH (SQ fun _ vM=>SR fun _ sw=>aT gV aH 1 rfl rfl (Kz sw (SB (SR fun _ xQ=>Rc rfl (ak xQ rfl (Cd rfl ?_ ?_))))))) <;> clear H qH sw xQ
 ·intro rJ a H
  try have JN:=dT rJ
  rw [av JN] at hE;refine kP H (SR fun _ Dy=>Rm rfl (aT vX gT 1 rfl rfl (aT IC aH 0 rfl rfl ?_)));clear H;intro a H;refine jR C9 [_,_,_] H wn rfl rfl rfl rfl ?_;clear H;intro a H;refine gY IB (Li:=[_,_]) (L:=fP b ms ml mr mb mu s1.n :: (mb,fJ (fT s1.bO)) :: L) H wn rfl (ih _ _ _ st li rv b ms ml mr mb mu s1 x.flow _ false true t hck (Hp.owns (Li:=[_,_]) H.hp) hf (by omega) ht0 Eu (by omega) (by omega)) rfl ?_;clear H;rintro aol _ _ a w ⟨rfl,s3,rfl,rfl,h3⟩ - H;dsimp only [lca,bG] at H
  have hF1:(eH (aW st li rv) body note t x s).1=(jk (aW st li rv) false true t x.flow s1).1:=by rw [hE]
  have hF2:(eH (aW st li rv) body note t x s).1=0→s3=(eH (aW st li rv) body note t x s).2:=by rw [hE];exact h3
  exact kH H (ak Dy rfl (LR results95 rfl fun H=>H.hp.iy (L':=fP b ms ml mr mb mu (s3.n) :: (mb,fJ (fT (s3.bO))) :: L) (by repeat (first|exact iV _|apply List.Sublist.cons)) ⟨s3,aC vi hF1.symm,rfl,hF2⟩))
 intro rJ a H
 try have JN:=dF rJ
 rw [ah JN] at hE;refine kP H (SR fun _ Dz=>Rc rfl (ak Dz rfl (Cd rfl ?_ ?_))) <;> clear H Dz
 ·intro qz a H
  try have Gx:=dT qz
  rw [av Gx] at hE;refine kP H (SR fun _ qj=>Rm rfl (aT nG nU 1 rfl rfl (aT O7 zm 0 rfl rfl (aT IC aH 0 rfl rfl (Rd rfl ?_)))));clear H;intro a H;refine jR C9 [_,_,_] H wn rfl rfl rfl rfl ?_;clear H;intro a H;refine gY aeg (Li:=[_,_]) (L:=fP b ms ml mr mb mu s1.n :: (mb,fJ (fT s1.bO)) :: L) H wn rfl (rows_ok ih hm _ _ _ st li rv b ms ml mr mb mu s1 x.rows _ note (t+1) hck (Hp.owns (Li:=[_,_]) H.hp) hr (by omega) (by omega) (by have:=ht7 Gx;omega) (by omega) (by omega)) rfl ?_;clear H;rintro aom _ _ a w ⟨s3,rfl,rfl,h3⟩ - H;dsimp only [lca,bG] at H
  have hF1:(eH (aW st li rv) body note t x s).1=(lW x.rows.length (fun s=>iK (aW st li rv) note (t+1) x.rows s) s1).1:=by rw [hE]
  have hF2:(eH (aW st li rv) body note t x s).1=0→s3=(eH (aW st li rv) body note t x s).2:=by rw [hE];exact h3
  exact kH H (ak qj rfl (LR results95 rfl fun H=>H.hp.iy (L':=fP b ms ml mr mb mu (s3.n) :: (mb,fJ (fT (s3.bO))) :: L) (by repeat (first|exact iV _|apply List.Sublist.cons)) ⟨s3,aC vi hF1.symm,rfl,hF2⟩))
 intro qz a H
 try have Gx:=dF qz
 rw [ah Gx] at hE
 have hF1:(eH (aW st li rv) body note t x s).1=0:=by rw [hE]
 have hF2:(eH (aW st li rv) body note t x s).1=0→s1=(eH (aW st li rv) body note t x s).2:=fun h=>by rw [hE]
 exact kP H (Kc vM (SR fun _ Fp=>ak Fp rfl (LR results95 rfl fun H=>H.hp.iy (L':=fP b ms ml mr mb mu (s1.n) :: (mb,fJ (fT (s1.bO))) :: L) (by repeat (first|exact iV _|apply List.Sublist.cons)) ⟨s1,aC vi hF1.symm,rfl,hF2⟩)))
end
section
open Go.RowKit
theorem afq:∀ args w,(callFunc 95 args).run prog w=.ok (.enter 95 args) w:=enters func95 rfl (by kernel_rfl)
theorem afp:∀ args w,(callFunc 94 args).run prog w=.ok (.enter 94 args) w:=enters func94 rfl (by kernel_rfl)
def TD (fv:aj) (Gi:GH) (n:Nat) (E:Nat→Int) {σ:Type} (B:σ→OL) (S:Nat→σ):Prop:=∀ i,i < n→∀ (G1:GH) (w1:World),(∀ b o,Gi b=some o→G1 b=some o)→gZ G1 (B (S i)) w1 →
 uG prog fv [vi i] w1 (gI w1 G1 (B (S i)) fun u G' L'=>∃ s,u=vi (E i)∧L'=B s∧(E i=0→s=S (i+1)))
theorem abC (G:GH) (w0:World) {σ:Type} (B:σ→OL) (S:Nat→σ) (n:Nat) (E:Nat→Int) (fv:aj) (hO:gZ G (B (S 0)) w0) (hn:n≤4611686018427387904) (hf:TD fv G n E B S) :
  Calls prog 84 #[vi n,fv] w0 (gI w0 G (B (S 0)) fun u G' L'=>∃ s,u=vi (kM E n)∧L'=B s∧(kM E n=0→s=S n)):=by
 refine jZ (N:=18) (T:=[(0,_),(1,_)]) func84 rfl ntmps84 rfl rfl hO ?_;intro a H;refine kP H (SR fun _ K1=>ak K1 rfl (SQ fun _ K2=>SR fun _ K3=>Rm rfl (Rm rfl (Kz K3 (SB ?_)))));clear H K1 K3;intro a H;skip;refine eU (ι:=Nat × GH) (Tc:=[(1,_),(7,_)]) (Lc:=[]) (fun gh=>[(8,vi gh.1)]) (fun gh=>[]++B (S gh.1)) (fun gh=>gh.2) (fun gh=>gh.1≤n∧dM (((List.range n).map E).drop gh.1)=kM E n∧(∀ b o,G b=some o→gh.2 b=some o)) (fun gh=>n - gh.1) ((0,G)) (by exact (H).sub ⟨rfl,rfl,rfl,aB⟩) ?_ ?_
 ·exact ⟨iB _,rfl,fun _ _ h=>h⟩
 clear H;intro gh a w hI H;obtain ⟨k,g⟩:=gh;dsimp only at hI H;obtain ⟨hk,he,hgm⟩:=hI;dsimp only [lca,bG] at H;refine kP H (SR fun _ K4=>Rc rfl (Kz K4 (SQ fun _ K5=>Cd rfl ?_ ?_))) <;> clear H K4
 ·intro h9 a H
  try have p9:=dT h9
  have hk2:k < n:=by omega
  refine kP H (Kc K5 (SQ fun _ K6=>SB (SR fun _ K7=>Rm rfl (ak K7 rfl (SR fun _ K8=>Rm rfl (Rm rfl ?_))))));clear H K5 K7;intro a H;refine GN (Li:=[]) (L:=B (S k)) H wn rfl rfl (hf k hk2 _ _ hgm (Hp.owns (Li:=[]) H.hp)) rfl ?_;clear H;rintro v13 Dr L13 a w ⟨s3,rfl,rfl,h3⟩ Cx H;refine kH H (ak K8 rfl (SR fun _ K9=>Rm rfl (Rc rfl (Kz K9 (Cd rfl ?_ ?_))))) <;> clear H K8 K9
  ·intro kV a H
   try have rU:=dT kV
   have hE:kM E n=E k:=by rw [DN hk2,av rU] at he;exact he.symm
   exact kP H (SR fun _ aQ=>Rm rfl (ak aQ rfl (LR results84 rfl fun H=>H.hp.eX ⟨s3,by rw [hE],rfl,fun h=>absurd (hE.symm.trans h) rU⟩)))
  intro kV a H
  try have rU:=dF kV
  have hS:=h3 (mW.1 rU);subst hS;refine kP H (Kc K6 (SC (Rd rfl (Rm rfl ?_))));clear H K6;intro a H;refine aG ?_;refine dh ((k+1,Dr)) (by exact (H).sub ⟨rfl,rfl,rfl,aB⟩) ?_ ?_
  ·(try dsimp only);exact ⟨by omega,by rw [DN hk2,ah rU] at he;exact he,fun b o h=>Cx b o (hgm b o h)⟩
  first|omega|(dsimp only;omega)
 intro h9 a H
 try have p9:=dF h9
 refine dW ?_;refine K2 _ _ ?_;clear K2;exact kP H (SR fun _ bH=>ak bH rfl (LR results84 rfl fun H=>H.hp.eX ⟨S n,aC vi (by rw [ig (by simp;omega)] at he;exact he),by rw [show k=n by omega],fun _=>rfl⟩))
abbrev KV (b ms ml mr mb mu:Nat) (L:OL) (s:CS):OL:=fP b ms ml mr mb mu s.n :: (mb,fJ (fT s.bO)) :: L
theorem aiO {m:Nat} (ih:Fh m) (hm:m≤4294967296) {G:GH} {L:OL} {st:List bU} {li:List gq} {rv:List fI} {b ms ml mr mb mu:Nat} {s:CS} {l:List au} {v:aj} {body note:Bool} {t:Int} {x3 x4 x5:Nat}
  (hck:uH G st li rv ms ml mr mu) (h3:aJ G x3 0=some (aI b 0)) (h4:aJ G x4 0=some v) (h5:∀ (j:Nat) (u:aj),[.bool body,.bool note,vi t][j]?=some u→aJ G x5 (0+j)=some u)
  (hv:ay G (.sl 11 (l.map au.dat)) v) (hz:bg l≤m) (ht0:0≤t) (Eu:t≤4) (hs0:0≤s.n) (hs1:s.n+(bg l:Nat)≤1099511627776) :
  TD (.func (.func 94) #[] #[(aI x3 0),(aI x4 0),(aI x5 0)]) G l.length (AL (eH (aW st li rv) body note t) l s) (KV b ms ml mr mb mu L) (pY (eH (aW st li rv) body note t) l s):=by
 intro k hk G1 w0 Jd hO;refine lN (caps:=[(aI x3 0),(aI x4 0),(aI x5 0)]) afp ?_;replace h3:=aO Jd h3;replace h4:=aO Jd h4;replace h5:=fun j u hj=>aO Jd (h5 j u hj);replace hck:=hck.mono Jd;replace hv:=hv.mono Jd;obtain ⟨A,c,rfl,hc1,hc2,hg⟩:=hv.slice;rw [bV] at *;obtain ⟨o,xo,pA,pn,pc,dA,dn,dc,yA,yn,yc,fA,fn,fc,rA,rn,rc,rfl,hrow,hhd,hfl,hrw⟩:=vY hk hg;obtain ⟨hn0,hn1⟩:=aaB (aW st li rv) body note t l s k (by omega)
 have hdz:bg (l.drop k)=1+dx l[k].dat+bg (l.drop (k+1)):=by
  simp only [bg];rw [kZ hk,fu,eZ]
 have Gg:=Hu (iF hk)
 have hE:AL (eH (aW st li rv) body note t) l s k=(eH (aW st li rv) body note t l[k] (pY (eH (aW st li rv) body note t) l s k)).1:=by unfold AL;rw [iA hk]
 have hS:pY (eH (aW st li rv) body note t) l s (k+1)=(eH (aW st li rv) body note t l[k] (pY (eH (aW st li rv) body note t) l s k)).2:=by rw [pY,iA hk]
 rw [hE,hS]
 generalize pY (eH (aW st li rv) body note t) l s k=s1 at *
 refine jZ (N:=13) (T:=[(0,_),(1,_),(2,_),(3,_)]) func94 rfl ntmps94 rfl rfl hO ?_;intro a H;refine kP H (SR fun _ K1=>ak K1 rfl (SQ fun _ K2=>?_));clear H K1;intro a H;refine dI hmx [[],[],[],[1,2],[1,2,3],[],(ra 0 6),(ra 0 7)] [6,7] (by kernel_rfl) [_,_,_,_,.agg #[vi l[k].kind,vi l[k].code,vi l[k].id,.string l[k].text,.slice pA pn pc,vi l[k].head.marks.ins,vi l[k].head.marks.move,.slice dA dn dc,.slice yA yn yc,.slice fA fn fc,.slice rA rn rc],.agg #[.bool body,.bool note,vi t]] H (aD (X0 rfl fun hG=>Rg GY rfl (aO hG h3)) (X0 rfl fun hG=>Rg gT rfl (aO hG h4)) (Z0 rfl (Rm rfl)) (Z2 1 7 2 8 rfl (Ri dZ bW rfl rfl)) (aD ?_ ?_ (bN rfl) (bN rfl) cu)) ?_
 ·refine dB 3 9 rfl rfl fun _ a w G1 hG HT H fin=>?_;refine bJ bW (cs:=[_,_,_,_,_,_,_,_,_,_,_]) H wn rfl rfl (fun j v hj=>H.hp.aJ (aO hG (hrow j v hj))) rfl ?_;clear H;intro a H;exact fin H iJ rfl
 ·refine Aq rfl fun _ a w G1 hG HT H fin=>?_;refine bJ Nc (cs:=[.bool body,.bool note,vi t]) H wn rfl rfl (fun j v hj=>H.hp.aJ (aO hG (h5 j v hj))) rfl ?_;clear H;intro a H;exact fin H iJ rfl
 clear H;intro a w G mh H hv;have H:=H.aP (hv 0 6 rfl rfl) rfl;have H:=H.aP (hv 4 10 rfl rfl) rfl;have H:=H.aP (hv 5 11 rfl rfl) rfl;clear hv;refine gY afq (Li:=[]) (L:=KV b ms ml mr mb mu L s1) H wn rfl (aiP ih hm _ _ _ st li rv b ms ml mr mb mu s1 l[k] _ _ _ _ _ body note t (hck.mono mh) (Hp.owns (Li:=[]) H.hp) (hhd.mono mh) (hfl.mono mh) (hrw.mono mh) (by omega) ht0 Eu (by omega) (by omega)) rfl ?_;clear H;rintro v12 _ _ a w ⟨s3,rfl,rfl,h12⟩ - H;dsimp only [List.nil_append] at H;refine kH H (Ra rfl ?_);clear H;intro a H;refine aG ⟨rfl,?_⟩;refine K2 _ _ ?_;clear K2;refine lr H results94 rfl ?_;exact H.hp.eX ⟨s3,rfl,rfl,h12⟩
theorem aiS {m:Nat} (ih:Fh m) (hm:m≤4294967296):Fh (m+1):=by
 intro G L w0 st li rv b ms ml mr mb mu s l v body note t hck hO hv hz ht0 Eu hs0 hs1;obtain ⟨hA1,hA2⟩:=Yf (aW st li rv) body note t l s;refine Calls.abV (R:=fun u G' L'=>Ka b ms ml mr mb mu L (jk (aW st li rv) body note t l s) u L') ?_ fun _ _ _ h=>h;obtain ⟨A,c,rfl,hc1,hc2,-⟩:=hv.slice;rw [bV] at *;have hll:=Ak l;refine jZ (N:=11) (T:=[(0,_),(1,_),(2,_)]) func60 rfl ntmps60 rfl rfl hO ?_;intro a H;refine dH (fun _ K1=>?_);refine fC (cs:=[_]) H wn rfl rfl rfl ?_;clear H;intro b3 a w hb3 H;refine fC (cs:=[_]) H wn rfl rfl rfl ?_;clear H;intro b4 a w hb4 H;refine fC (cs:=[_,_,_]) H wn rfl rfl rfl ?_;clear H;intro b5 a w hb5 H;refine kH H (ak K1 rfl (SQ fun _ K2=>?_));clear H K1;intro a H;obtain ⟨Ga5,Md,zQ,H⟩:=H.eu;obtain ⟨Ga4,F6,yG,H⟩:=H.eu;obtain ⟨Ga,CB,Bh,H⟩:=H.eu;replace zQ:=CB _ _ (F6 _ _ zQ);replace yG:=CB _ _ yG;have hma:∀ b o,G b=some o→Ga b=some o:=fun b o h=>CB _ _ (F6 _ _ (Md _ _ h))
 have g3:aJ Ga b3 0=some (aI b 0):=by unfold aJ;rw [Bh];rfl
 have g4:aJ Ga b4 0=some (.slice A l.length c):=by unfold aJ;rw [yG];rfl
 have g5:∀ (j:Nat) (u:aj),[.bool body,.bool note,vi t][j]?=some u→aJ Ga b5 (0+j)=some u:=by
  intro j u hj;unfold aJ;rw [zQ];simpa using hj
 have hcb:=aiO (mb:=mb) (L:=L) (s:=s) ih hm (hck.mono hma) g3 g4 g5 (hv.mono hma) (by omega) ht0 Eu hs0 hs1;refine kP H (SC (Rg gT rfl (by assumption) ?_));clear H;intro a H;refine kH H (Rl dZ rfl ?_);clear H;intro a H;refine qW H wn rfl rfl ?_;clear H;intro a H;refine gY FL (Li:=[]) (L:=KV b ms ml mr mb mu L s) H wn rfl (abC _ _ (KV b ms ml mr mb mu L) (pY (eH (aW st li rv) body note t) l s) l.length (AL (eH (aW st li rv) body note t) l s) _ (Hp.owns (Li:=[]) H.hp) (by omega) hcb) rfl ?_;clear H;rintro v10 _ _ a w ⟨s3,rfl,rfl,h10⟩ - H;dsimp only [List.nil_append] at H;exact kH H (aU K2 rfl (LR results60 rfl fun H=>H.hp.eX ⟨s3,by rw [hA1],rfl,fun h=>by rw [hA1] at h;exact (h10 h).trans (hA2 (hA1.trans h)).symm⟩))
theorem Ms:∀ m:Nat,m≤4294967297→Fh m
 | 0,_=>fun _ _ _ _ _ _ _ _ _ _ _ _ _ _ _ _ _ _ _ _ _ h=>absurd h (by omega)
 | m+1,hm=>aiS (Ms m (by omega)) (by omega)
end
section
open Go.RowKit
theorem afN:cB prog 176 1 1:=⟨by kernel_rfl⟩
theorem afO:cB prog 176 2 2:=⟨by kernel_rfl⟩
theorem afm:∀ args w,(callFunc 87 args).run prog w=.ok (.enter 87 args) w:=enters func87 rfl (by kernel_rfl)
theorem afl:∀ args w,(callFunc 85 args).run prog w=.ok (.enter 85 args) w:=enters func85 rfl (by kernel_rfl)
theorem alj {G:GH} {bl:Nat} {l:List fI} {A:Option Addr} {n c:Nat} (hb:aJ G bl 0=some (.slice A n c)) (hv:ay G (.sl 3 (l.map fI.dat)) (.slice A n c)):sj (.func (.func 87) #[] #[(aI bl 0)]) G l.length fun k=>(l[k]?.map fI.id).getD 0:=by
 intro k hk G1 w0 hm hG;refine lN (caps:=[(aI bl 0)]) afm ?_;replace hb:=aO hm hb
 obtain rfl:n=l.length:=by have:=hv.len;simpa using this
 obtain ⟨b,o,rfl,hrow⟩:=R3 (hv.mono hm) hk;have hq:=hrow 0 _ rfl;refine eN [(0,_),(1,_)] func87 rfl ntmps87 rfl rfl hG ?_;intro a H;refine kP H (SR fun _ K1=>ak K1 rfl (SR fun _ K2=>Rg Db rfl (by assumption) ?_));clear H K1;intro a H;refine kH H (Rm rfl (Ri Dg ET rfl rfl (Rf V7 rfl (Rg aH rfl (by assumption) ?_))));clear H;intro a H;exact kH H (ak K2 rfl (LR results87 rfl fun H=>H.rt (by dsimp only;rw [iA hk];rfl)))
def RP (l:List fI) (i:Nat) (x:fI):Int:=dM [pR (fun k=>(l[k]?.map fI.id).getD 0) i,cO (!wT x.author) 39,cO (!decide (0≤x.time∧x.time≤1099511627776)) 40]
def EM (l:List fI) (i:Nat):Int:=match l[i]? with|some x=>RP l i x|none=>0
theorem akZ {G:GH} {bl:Nat} {l:List fI} {A:Option Addr} {n c:Nat} (hb:aJ G bl 0=some (.slice A n c)) (hv:ay G (.sl 3 (l.map fI.dat)) (.slice A n c)) (hl:l.length≤4294967296) (ht:∀ x∈l,x.author.size < 4611686018427387904):sj (.func (.func 85) #[] #[(aI bl 0)]) G l.length (EM l):=by
 intro k hk G1 w0 hm hG;refine lN (caps:=[(aI bl 0)]) afl ?_;replace hb:=aO hm hb;replace hv:=hv.mono hm;have hcb:=alj hb hv
 obtain rfl:n=l.length:=by have:=hv.len;simpa using this
 obtain ⟨b,o,rfl,hrow⟩:=R3 hv hk;have hte:=ht _ (iF hk)
 have he:EM l k=RP l k l[k]:=by unfold EM;rw [iA hk]
 obtain ⟨x,hx⟩:∃ x,x=l[k]:=⟨_,rfl⟩;rw [← hx] at hrow hte he;refine eN [(0,_),(1,_)] func85 rfl ntmps85 rfl rfl hG ?_;intro a H;refine kP H (SR fun _ K1=>ak K1 rfl (SQ fun _ K2=>?_));clear H K1;intro a H;have H:=H.sub (T':=[(0,_),(1,_)]) ⟨rfl,rfl,aB⟩;refine dI hmx [[],[],[0,1],[],[],[3,4],[3,4,5],(ra 3 4),(ra 0 8),(ra 0 9),(ra 0 10),[],[],[11,12],[11,12,13],(ra 11 4),(ra 0 16),(ra 0 17),(ra 0 18),(ra 0 19),(ra 0 20),(ra 0 21)] [19,20,21] (by kernel_rfl) [_,.func (.func 87) #[] #[(aI bl 0)],vi (pR (fun k=>(l[k]?.map fI.id).getD 0) k),_,_,_,_,_,.bool (wT x.author),_,vi (cO (!wT x.author) 39),_,_,_,_,_,.bool (decide (0≤x.time∧x.time≤1099511627776)),_,vi (cO (!decide (0≤x.time∧x.time≤1099511627776)) 40)] H (aD (Z0 rfl (Rm rfl)) ?_ ?_ (X0 rfl fun hG=>Rg Db rfl (aO hG hb)) (aD (Z0 rfl (Rm rfl)) (Z2 3 7 4 8 rfl (Ri Dg ET rfl rfl)) (Z1 5 9 rfl (Rf afN rfl)) (X1 6 10 rfl fun hG=>Rg fV rfl (aO hG (hrow 1 _ rfl))) (aD ?_ (Z1 8 12 rfl (Rn rfl)) ?_ (X0 rfl fun hG=>Rg Db rfl (aO hG hb)) (aD (Z0 rfl (Rm rfl)) (Z2 11 15 12 16 rfl (Ri Dg ET rfl rfl)) (Z1 13 17 rfl (Rf afO rfl)) (X1 14 18 rfl fun hG=>Rg aH rfl (aO hG (hrow 2 _ rfl))) (aD ?_ (Z1 16 20 rfl (Rn rfl)) ?_ (bN rfl) (aZ (bN rfl) (aZ (bN rfl) cu))))))) ?_
 ·refine Aq rfl fun _ a w G1 hG HT H fin=>?_;refine qW H wn rfl rfl ?_;clear H;intro a H;exact fin H iJ rfl
 ·refine bZ 0 4 1 5 rfl rfl fun _ a w G1 hG HT H fin=>?_;refine s_call OY H wn rfl (QS _ _ H.ro k _ _ (by omega) (fun i hi=>(hcb.mono hG) i (by omega))) rfl ?_;clear H;rintro v6 G6 a w rfl iq H;exact fin H iq (rfl)
 ·refine dB 7 11 rfl rfl fun _ a w G1 hG HT H fin=>?_;refine s_call VQ H wn rfl (UD _ _ H.ro x.author hte) rfl ?_;clear H;rintro v12 BX a w ⟨rfl,-⟩ ni H;exact fin H ni (rfl)
 ·refine dB 9 13 rfl rfl fun _ a w G1 hG HT H fin=>?_;refine s_call jo H wn rfl (jv _ _ H.ro _ 39) rfl ?_;clear H;rintro v14 Hy a w ⟨rfl,-⟩ IQ H;exact fin H IQ (rfl)
 ·refine dB 15 19 rfl rfl fun _ a w G1 hG HT H fin=>?_;refine s_call vU H wn rfl (wu _ _ H.ro x.time 0 1099511627776) rfl ?_;clear H;rintro v20 Fg a w ⟨rfl,-⟩ agF H;exact fin H agF (rfl)
 ·refine dB 17 21 rfl rfl fun _ a w G1 hG HT H fin=>?_;refine s_call jo H wn rfl (jv _ _ H.ro _ 40) rfl ?_;clear H;rintro v22 G22 a w ⟨rfl,-⟩ PX H;exact fin H PX (rfl)
 clear H;intro a w G mh H hv;have H:=H.aP (hv 2 6 rfl rfl) rfl;have H:=H.aP (hv 10 14 rfl rfl) rfl;have H:=H.aP (hv 18 22 rfl rfl) rfl;clear hv;refine gX oO gN [_,_,_] [_,_,_] H wn rfl rfl rfl rfl rfl (by intro i q h;match i,h with|0,h=>exact h|1,h=>exact h|2,h=>exact h|n+3,h=>simp at h) rfl rfl ?_;clear H;intro b23 a w ahj H;obtain ⟨Hz,mq,ahk,H⟩:=H.eu;refine s_call qw H wn rfl (qx _ _ H.ro _ _ (Ey [pR (fun k=>(l[k]?.map fI.id).getD 0) k,cO (!wT x.author) 39,cO (!decide (0≤x.time∧x.time≤1099511627776)) 40] ahk (show 3≤maxLen by decide))) rfl ?_;clear H;rintro v24 _ a w ⟨rfl,rfl⟩ - H;refine kH H (Ra rfl ?_);clear H;intro a H;refine aG ⟨rfl,?_⟩;refine K2 _ _ ?_;clear K2;refine lr H results85 rfl ?_;exact H.rt (by rw [he,RP])
def Iq (l:List fI):Int:=dM [cO (decide (256 < (l.length:Int))) 9,kM (EM l) (min l.length 256)]
theorem acQ (G:GH) (w0:World) (hG:Hold G w0) (l:List fI) (v:aj) (hv:ay G (.sl 3 (l.map fI.dat)) v) (hl:l.length≤4294967296) (ht:∀ x∈l,x.author.size < 4611686018427387904) :
  Calls prog 56 #[v] w0 (bq w0 G fun u G'=>u=vi (Iq l)):=by
 obtain ⟨A,c,rfl,hc1,hc2,-⟩:=hv.slice;rw [bV] at *;refine eN [(0,_)] func56 rfl ntmps56 rfl rfl hG ?_;intro a H;refine dH (fun _ K1=>?_);refine fC (cs:=[_]) H wn rfl rfl rfl ?_;clear H;intro b1 a w hb1 H;refine kH H (ak K1 rfl (SQ fun _ K2=>?_));clear H K1;intro a H;have H:=H.sub (T':=[(1,_)]) ⟨rfl,aB⟩;obtain ⟨Ga,hma,hb1',H⟩:=H.eu
 have hbl:aJ Ga b1 0=some (.slice A l.length c):=by unfold aJ;rw [hb1'];rfl
 have hcb:=akZ hbl (hv.mono hma) hl ht;refine dI hmx [[],[0],[0,1],[0,1,2],[],[4],[4,5],[],(ra 0 8),(ra 0 9),(ra 0 10),(ra 0 11)] [9,10,11] (by kernel_rfl) [_,_,_,vi (cO (decide (256 < (l.length:Int))) 9),_,_,vi ((min l.length 256:Nat):Int),.func (.func 85) #[] #[(aI b1 0)],vi (kM (EM l) (min l.length 256))] H (aD (X0 rfl fun hG=>Rg Db rfl (aO hG hbl)) (Z1 0 3 rfl (Rl Dg rfl)) (Z1 1 4 rfl (Rc rfl)) ?_ (aD (X0 rfl fun hG=>Rg Db rfl (aO hG hbl)) (Z1 4 7 rfl (Rl Dg rfl)) ?_ ?_ (aD ?_ (bN rfl) (bN rfl) (bN rfl) cu))) ?_
 ·refine dB 2 5 rfl rfl fun _ a w G1 hG HT H fin=>?_;refine s_call jo H wn rfl (jv _ _ H.ro _ 9) rfl ?_;clear H;rintro v6 G6 a w ⟨rfl,-⟩ iq H;exact fin H iq (rfl)
 ·refine dB 5 8 rfl rfl fun _ a w G1 hG HT H fin=>?_;refine JV H wn rfl rfl rfl ?_;clear H;intro a H;exact fin H iJ (aC vi (by omega))
 ·refine Aq rfl fun _ a w G1 hG HT H fin=>?_;refine qW H wn rfl rfl ?_;clear H;intro a H;exact fin H iJ rfl
 ·refine bZ 6 9 7 10 rfl rfl fun _ a w G1 hG HT H fin=>?_;refine s_call FL H wn rfl (Ij _ _ H.ro (min l.length 256) (EM l) _ (by omega) ((hcb.mono hG).le (Nat.min_le_left _ _))) rfl ?_;clear H;rintro v11 xP a w rfl iN H;exact fin H iN (rfl)
 clear H;intro a w G mh H hv;have H:=H.aP (hv 3 6 rfl rfl) rfl;have H:=H.aP (hv 8 11 rfl rfl) rfl;clear hv;refine gX oO gN [_,_] [_,_] H wn rfl rfl rfl rfl rfl (by intro i q h;match i,h with|0,h=>exact h|1,h=>exact h|n+2,h=>simp at h) rfl rfl ?_;clear H;intro b12 a w Bg H;obtain ⟨BX,Eo,El,H⟩:=H.eu;refine s_call qw H wn rfl (qx _ _ H.ro _ _ (xJ El)) rfl ?_;clear H;rintro v13 _ a w ⟨rfl,rfl⟩ - H;refine kH H (Ra rfl ?_);clear H;intro a H;refine aG ⟨rfl,?_⟩;refine K2 _ _ ?_;clear K2;refine lr H results56 rfl ?_;exact H.rt rfl
theorem uV:∀ {l:List Int},dM l=0→∀ x∈l,x=0
 | [],_,_,h=>by cases h
 | e :: r,h,x,hx=>by
  unfold dM at h
  by_cases he:e=0
  ·rw [ah (fun h'=>h' he)] at h
   rcases kK.1 hx with rfl|hx
   ·exact he
   exact uV h x hx
  rw [av he] at h;exact absurd h he
theorem Uv {E:Nat→Int} {n:Nat} (h:kM E n=0) (i:Nat) (hi:i < n):E i=0:=uV h _ (by simp;exact ⟨i,hi,rfl⟩)
theorem X9 {id:Nat→Int} {i:Nat} (h:pR id i=0):1≤id i∧id i≤1073741824∧(0 < i→id (i - 1) < id i):=by
 unfold pR at h
 by_cases h1:1≤id i∧id i≤1073741824
 ·rw [ah (fun h'=>h' h1)] at h
  by_cases h2:0 < i∧id i=id (i - 1)
  ·rw [av h2] at h;cases h
  rw [ah h2] at h
  by_cases h3:0 < i∧id i < id (i - 1)
  ·rw [av h3] at h;cases h
  exact ⟨h1.1,h1.2,fun h0=>by omega⟩
 rw [av h1] at h;cases h
theorem Ya {l:List Int} (h:∀ i (h:i+1 < l.length),l[i] < l[i+1]):Ao l:=by
 have hlt:∀ (j i:Nat) (hj:j < l.length) (hi:i < j),l[i] < l[j]:=by
  intro j
  induction j with
  | zero=>intro i _ hi;omega
  | succ j ih =>
   intro i hj hi;have h1:=h j hj
   by_cases e:i=j
   ·subst e;exact h1
   have:=ih i (by omega) (by omega);omega
 intro k hk hm;obtain ⟨i,hi,he⟩:=List.getElem_of_mem hm;rw [List.length_take] at hi;have:=hlt k i hk (by omega);rw [List.getElem_take] at he
 omega
theorem ala {l:List fI} (h:Iq l=0):Ao (l.map fI.id):=by
 have h1:=uV h _ (gP);have h2:=uV h _ (iZ _ gP)
 have hl:l.length≤256:=by
  unfold cO at h1
  by_cases hd:256 < (l.length:Int)
  ·rw [av (aA hd)] at h1;cases h1
  omega
 refine Ya fun i hi=>?_;rw [bV] at hi;have h3:=Uv h2 (i+1) (by omega)
 unfold EM at h3
 rw [iA hi] at h3;have h4:=(X9 (uV h3 _ gP)).2.2 (by omega);rw [Nat.add_sub_cancel,iA hi,iA (show i < l.length by omega)] at h4
 simpa using h4
theorem ajp {l:List gq} (h:Ip l=0):Ao (l.map gq.id):=by
 have h1:=uV h _ (gP);have h2:=uV h _ (iZ _ gP)
 have hl:l.length≤64:=by
  unfold cO at h1
  by_cases hd:64 < (l.length:Int)
  ·rw [av (aA hd)] at h1;cases h1
  omega
 refine Ya fun i hi=>?_;rw [bV] at hi;have h3:=Uv h2 (i+1) (by omega)
 unfold ED at h3
 have h4:=(X9 (uV h3 _ gP)).2.2 (by omega);rw [Nat.add_sub_cancel,iA hi,iA (show i < l.length by omega)] at h4
 simpa using h4
theorem amx {l:List bU} (h:gJ l=0):Ao (l.map bU.id):=by
 unfold gJ at h
 by_cases h1:128 < l.length
 ·rw [av h1] at h;cases h
 rw [ah h1] at h
 by_cases h2:sI (yV l) 0 l.length≠0
 ·rw [av h2] at h;exact absurd h h2
 intro k hk;rw [bV] at hk;have:=Zf (mW.1 h2) k hk;rw [← List.map_take,List.getElem_map];exact this
end
section
open Go.RowKit
theorem aeW:∀ args w,(callFunc 57 args).run prog w=.ok (.enter 57 args) w:=enters func57 rfl (by kernel_rfl)
theorem Nh:Ty prog 36 4 96 [.slice none 0 0,.slice none 0 0,.slice none 0 0,.slice none 0 0] true:=⟨by kernel_rfl,by kernel_rfl⟩
theorem aeU:∀ args w,(callFunc 55 args).run prog w=.ok (.enter 55 args) w:=enters func55 rfl (by kernel_rfl)
theorem aeV:∀ args w,(callFunc 56 args).run prog w=.ok (.enter 56 args) w:=enters func56 rfl (by kernel_rfl)
theorem Lm:cB prog 38 1 1:=⟨by kernel_rfl⟩
theorem Pn (e:Int):dM [e]=e:=by
 by_cases h:e=0 <;> simp [dM,h]
structure xO where
 flow:List au
 fin:iE
 revs:List fI
 nS:Ar
structure Dq (G:GH) (D:nA) (d:xO):Prop where
 fl:ay G (.sl 11 (d.flow.map au.dat)) (fD D.f)
 hd:iR G d.fin (fD D.p) (fD D.d) (fD D.y)
 ins:D.ins=d.fin.marks.ins
 mv:D.move=d.fin.marks.move
 rv:ay G (.sl 3 (d.revs.map fI.dat)) (fD D.r)
 st:Fu G d.nS (fD D.s1) (fD D.s2) (fD D.s3) (fD D.s4)
theorem Fu.mono {G G':GH} (hm:∀ b o,G b=some o→G' b=some o) {s:Ar} {a b c d:aj} (h:Fu G s a b c d):Fu G' s a b c d:=⟨h.st.mono hm,h.li.mono hm,h.cm.mono hm,h.va.mono hm⟩
theorem Dq.mono {G G':GH} (hm:∀ b o,G b=some o→G' b=some o) {D:nA} {d:xO} (h:Dq G D d):Dq G' D d:=⟨h.fl.mono hm,h.hd.mono hm,h.ins,h.mv,h.rv.mono hm,h.st.mono hm⟩
structure Ke (d:xO):Prop where
 fl:bg d.flow≤1073741824
 hd:qG d.fin≤4294967296
 rn:d.revs.length≤4294967296
 rt:∀ x∈d.revs,x.author.size < 4611686018427387904
 sn:d.nS.styles.length≤4294967296
 st:NR d.nS
abbrev xO.tY (d:xO):gy:=aW d.nS.styles d.nS.lists d.revs
def wE (m:wP):Bool:=decide ((m.ins≠0∨m.move≠0)∨0 < (m.dw.length:Int))
def mY (d:xO):Int:=dM [dM [KT d.nS,Iq d.revs],dM [iO d.tY 3 d.fin,cO (wE d.fin.marks) 21],(jk d.tY true false 0 d.flow ⟨0,[]⟩).1,cO (decide (16384 < (jk d.tY true false 0 d.flow ⟨0,[]⟩).2.n)) 9]
theorem acT (G:GH) (w0:World) (hG:Hold G w0) (D:nA) (d:xO) (hR:Dq G D d) (hz:Ke d) :
  Calls prog 33 #[D.val] w0 (bq w0 G fun u G'=>u=vi (mY d)):=by
 obtain ⟨df,dp,dd,dy,dr,d1,d2,d3,d4,ins,mv⟩:=D;obtain ⟨hfl,hhd,hin,hmv,yN,hst⟩:=hR;dsimp only at hfl hhd hin hmv yN hst;subst hin;subst hmv;obtain ⟨zf,zh,zr,zt,zs,zg⟩:=hz;have hdl:=hhd.dw.len;rw [bV] at hdl
 have hdn:d.fin.marks.dw.length≤4294967296:=by
  have h1:=J8 d.fin;have h2:=tu (d.fin.marks.dw.map jN.dat);rw [bV] at h2;omega
 refine eN [(0,_)] func33 rfl ntmps33 rfl rfl hG ?_;intro a H;refine dH (fun _ K1=>?_);refine fC (cs:=[_,_,_,_,_,_,_,_,_,_,_]) H wn rfl rfl rfl ?_;clear H;intro b1 a w hb1 H;refine kH H (ak K1 rfl (SQ fun _ K2=>SQ fun _ K3=>?_));clear H K1;intro a H;refine dI hmx [[],[0],[0,1],[],[3],(ra 0 5),(ra 0 6),(ra 0 7),(ra 0 8)] [6,7,8] (by kernel_rfl) [_,.agg #[fD d1,fD d2,fD d3,fD d4],vi (KT d.nS),_,fD dr,vi (Iq d.revs)] H (aD (Z0 rfl (Rf Ls rfl)) ?_ ?_ (Z0 rfl (Rf Pg rfl)) (aD (Z1 3 11 rfl (Ro Db 0 rfl)) ?_ (bN rfl) (bN rfl) (aZ (bN rfl) cu))) ?_
 ·refine dB 0 8 rfl rfl fun _ a w G1 hG HT H fin=>?_;refine bJ Nh (cs:=[_,_,_,_]) H wn rfl rfl (H.hp.dL 0 rfl rfl) rfl ?_;clear H;intro a H;exact fin H iJ rfl
 ·refine dB 1 9 rfl rfl fun _ a w G1 hG HT H fin=>?_;refine s_call aeU H wn rfl (acR _ _ H.ro d.nS _ _ _ _ (hst.mono hG) zg) rfl ?_;clear H;rintro v10 wO a w rfl kW H;exact fin H kW (rfl)
 ·refine dB 4 12 rfl rfl fun _ a w G1 hG HT H fin=>?_;refine s_call aeV H wn rfl (acQ _ _ H.ro d.revs _ (yN.mono hG) zr zt) rfl ?_;clear H;rintro v13 Dr a w rfl LJ H;exact fin H LJ (rfl)
 clear H;intro a w G mh H hv;have H:=H.aP (hv 2 10 rfl rfl) rfl;have H:=H.aP (hv 5 13 rfl rfl) rfl;clear hv;refine gX oO gN [_,_] [_,_] H wn rfl rfl rfl rfl rfl (by intro i q h;match i,h with|0,h=>exact h|1,h=>exact h|n+2,h=>simp at h) rfl rfl ?_;clear H;intro b14 a w LU H;obtain ⟨Hy,Qs,ahg,H⟩:=H.eu;have hg1:=fun b o h=>Qs b o (mh b o h);replace hfl:=hfl.mono hg1;replace hhd:=hhd.mono hg1;replace yN:=yN.mono hg1;replace hst:=hst.mono hg1;refine s_call qw H wn rfl (qx _ _ H.ro _ _ (xJ ahg)) rfl ?_;clear H;rintro v15 _ a w ⟨rfl,rfl⟩ - H;refine kH H (Ra rfl ?_);clear H;intro a H;refine aG ⟨rfl,?_⟩;refine K3 _ _ ?_;clear K3;refine kP H (SR fun _ K4=>Rm rfl (Rc rfl (Kz K4 (Cd rfl ?_ ?_)))) <;> clear H K4
 ·intro eF a H
  try have mR:=dT eF
  have hE:mY d=dM [KT d.nS,Iq d.revs]:=by rw [mY,dM,av mR]
  exact kP H (SR fun _ K5=>Rm rfl (ak K5 rfl (LR results33 rfl fun H=>H.rt (by rw [hE]))))
 intro eF a H
 try have mR:=dF eF
 have e1:=mW.1 mR;have s1:=uV e1 _ gP;have s2:=uV e1 _ (iZ _ gP);have t1:=uV s1 _ gP;have t2:=uV s1 _ (iZ _ gP);refine fZ ?_;refine K2 _ _ ?_;clear K2;refine dH (fun _ K6=>?_);refine bJ rY (cs:=[_,_,_,_,_,_,_,_,_,_,_]) H wn rfl rfl (H.hp.dL 0 rfl rfl) rfl ?_;clear H;intro a H;refine gY aeW (Li:=[_]) (L:=[]) H wn rfl (akc _ _ (Hp.owns (Li:=[_]) H.hp) ⟨df,dp,dd,dy,dr,d1,d2,d3,d4,d.fin.marks.ins,d.fin.marks.move⟩ d.nS.styles d.nS.lists d.revs hst.st hst.li yN (amx t1) (ajp t2) (ala s2) zs zg.ln zr) rfl ?_;clear H;rintro v20 Fg _ a w ⟨b,ms,ml,mr,mb,mu,rfl,rfl,hck⟩ Cy H;dsimp only [lca,bG] at H;replace hfl:=hfl.mono Cy;replace hhd:=hhd.mono Cy;refine kH H (ak K6 rfl (SR fun _ K7=>Rf Lm rfl (Rf uS rfl ?_)));clear H K6;intro a H;refine bJ Hf (cs:=[_,_,_,_]) H wn rfl rfl (H.hp.dL 0 rfl rfl) rfl ?_;clear H;intro a H;refine eB Hf H wn rfl ?_;clear H;intro b5 a w hb5 H;refine bM Hf 0 (vs:=[_,_,_,_]) _ H wn rfl rfl rfl rfl rfl rfl rfl rfl ?_;clear H;intro w H;dsimp only [List.set,setRow] at H;refine K7 _ _ ?_;clear K7;refine bK (fun _ K8=>?_);refine bK (fun _ K9=>?_)
 by_cases c0:d.fin.marks.ins≠0
 ·skip;have c1:d.fin.marks.ins≠0∨d.fin.marks.move≠0:=Or.inl c0;refine dI hmx [[],[],[1],[0,1,2],[],[4],[4,5],(ra 0 7),(ra 0 8),(ra 0 9),(ra 0 10),(ra 0 11),(ra 0 12),(ra 0 13),(ra 0 14),(ra 0 15),(ra 0 16),(ra 0 17),(ra 0 18),(ra 0 19),(ra 0 20),(ra 0 21)] [19,20,21] (by kernel_rfl) [_,_,vg d.fin (fD dp) (fD dd) (fD dy),vi (iO d.tY 3 d.fin),_,vi d.fin.marks.ins,_,_,undef,undef,undef,.bool (decide (d.fin.marks.ins≠0∨d.fin.marks.move≠0)),_,undef,undef,undef,undef,.bool (wE d.fin.marks),vi (cO (wE d.fin.marks) 21)] H (aD (Z0 rfl (Rm rfl)) (Z0 rfl (Rf Lm rfl)) ?_ ?_ (aD (Z0 rfl (Rf xg rfl)) (Z1 4 28 rfl (Ro aH 0 rfl)) (Z1 5 29 rfl (Rc rfl)) (Z1 6 30 rfl (Rm rfl)) (aD (aK (j:=7) (by kernel_rfl) (fun _ _ _ _ _ h=>h) rfl rfl rfl rfl rfl (fun _ _ h=>aL h (aF (aA c0))) rfl (fun _=>rfl)) (aK (j:=7) (by kernel_rfl) (fun _ _ _ _ _ h=>h) rfl rfl rfl rfl rfl (fun _ _ h=>aL h (aF (aA c0))) rfl (fun _=>rfl)) (aK (j:=7) (by kernel_rfl) (fun _ _ _ _ _ h=>h) rfl rfl rfl rfl rfl (fun _ _ h=>aL h (aF (aA c0))) rfl (fun _=>rfl)) ?_ (aD (Z1 11 35 rfl (Rm rfl)) (aK (j:=12) (by kernel_rfl) (fun _ _ _ _ _ h=>h) rfl rfl rfl rfl rfl (fun _ _ h=>aL h (aF (aA c1))) rfl (fun _=>rfl)) (aK (j:=12) (by kernel_rfl) (fun _ _ _ _ _ h=>h) rfl rfl rfl rfl rfl (fun _ _ h=>aL h (aF (aA c1))) rfl (fun _=>rfl)) (aK (j:=12) (by kernel_rfl) (fun _ _ _ _ _ h=>h) rfl rfl rfl rfl rfl (fun _ _ h=>aL h (aF (aA c1))) rfl (fun _=>rfl)) (aD (aK (j:=12) (by kernel_rfl) (fun _ _ _ _ _ h=>h) rfl rfl rfl rfl rfl (fun _ _ h=>aL h (aF (aA c1))) rfl (fun _=>rfl)) ?_ ?_ (bN rfl) (aZ (bN rfl) (aZ (bN rfl) cu))))))) ?_
  ·refine dB 1 25 rfl rfl fun _ a w G1 hG HT H fin=>?_;refine bJ mE (cs:=[_,_,_,_,_]) H wn rfl rfl (H.hp.dL 1 rfl rfl) rfl ?_;clear H;intro a H;exact fin H iJ rfl
  ·refine bZ 0 24 2 26 rfl rfl fun _ a w G1 hG HT H fin=>?_;refine gY FJ (Li:=[_,_]) (L:=fP b ms ml mr mb mu 0 :: (mb,fJ []) :: []) H wn rfl (F3 _ _ _ d.nS.styles d.nS.lists d.revs b ms ml mr mb mu _ (hck.mono hG) (Hp.owns (Li:=[_,_]) H.hp) 3 d.fin _ _ _ (hhd.mono hG) zh) rfl ?_;clear H;rintro v27 _ _ a w ⟨rfl,rfl,rfl⟩ IU H;dsimp only [lca,bG] at H;exact fin H IU (rfl)
  ·refine bZ 7 31 10 34 rfl rfl fun _ a w G1 hG HT H fin=>?_;refine kH H (Pt (aA c0) rfl ?_);clear H;intro a H;exact fin H iJ (by show _=_;first|exact aF (aA c1).symm|exact aF (by simp [c0]))
  ·refine bZ 12 36 16 40 rfl rfl fun _ a w G1 hG HT H fin=>?_;refine kH H (Pt (aA c1) rfl ?_);clear H;intro a H;exact fin H iJ (by show _=_;first|exact aF (jy (Or.inl c1)).symm|exact aF (by simp [wE,c1]))
  ·refine dB 17 41 rfl rfl fun _ a w G1 hG HT H fin=>?_;refine s_call jo H wn rfl (jv _ _ H.ro _ 21) rfl ?_;clear H;rintro v42 NA a w ⟨rfl,-⟩ IV H;exact fin H IV (rfl)
  clear H;intro a w G iq H hv;have H:=H.aP (hv 3 27 rfl rfl) rfl;have H:=H.aP (hv 18 42 rfl rfl) rfl;clear hv;refine gX oO gN [_,_] [_,_] H wn rfl rfl rfl rfl rfl (by intro i q h;match i,h with|0,h=>exact h|1,h=>exact h|n+2,h=>simp at h) rfl rfl ?_;clear H;intro UH a w W9 H;obtain ⟨Kq,Cz,IZ,H⟩:=H.eu;have Cw:=fun b o h=>Cz b o (iq b o h);replace hfl:=hfl.mono Cw;replace hck:=hck.mono Cw;refine s_call qw H wn rfl (qx _ _ H.ro _ _ (xJ IZ)) rfl ?_;clear H;rintro v44 _ a w ⟨rfl,rfl⟩ - H;refine kH H (Ra rfl ?_);clear H;intro a H;refine aG ⟨rfl,?_⟩;refine K9 _ _ ?_;clear K9;refine kP H (SR fun _ aQ=>Rm rfl (Rc rfl (Kz aQ (Cd rfl ?_ ?_)))) <;> clear H aQ
  ·intro h46 a H
   try have p46:=dT h46
   have hE:mY d=dM [iO d.tY 3 d.fin,cO (wE d.fin.marks) 21]:=by rw [mY,dM,ah (by simpa using e1),dM,av p46]
   exact kP H (SR fun _ bH=>Rm rfl (ak bH rfl (LR results33 rfl fun H=>H.rt (by rw [hE]))))
  intro h46 a H
  try have p46:=dF h46
  have e2:=mW.1 p46;refine kP H (Kc K8 (SQ fun _ bL=>SR fun _ bR=>Rm rfl (aT Ci gT 1 rfl rfl ?_)));clear H K8;intro a H;refine jR C9 [_,_,_] H wn rfl rfl rfl rfl ?_;clear H;intro a H;refine gY IB (Li:=[_,_]) (L:=fP b ms ml mr mb mu 0 :: (mb,fJ []) :: []) H wn rfl (Ms 4294967297 (by omega) _ _ _ d.nS.styles d.nS.lists d.revs b ms ml mr mb mu ⟨0,[]⟩ d.flow _ true false 0 hck (Hp.owns (Li:=[_,_]) H.hp) hfl (by omega) (by omega) (by omega) (by decide) (by dsimp only;omega)) rfl ?_;clear H;rintro v52 _ _ a w ⟨rfl,s3,rfl,rfl,h3⟩ - H;dsimp only [lca,bG] at H;refine kH H (ak bR rfl (SR fun _ bQ=>Rm rfl (Rc rfl (Kz bQ (Cd rfl ?_ ?_))))) <;> clear H bR bQ
  ·intro gW a H
   try have p54:=dT gW
   have hE:mY d=(jk d.tY true false 0 d.flow ⟨0,[]⟩).1:=by rw [mY,dM,ah (by simpa using e1),dM,ah (by simpa using e2),dM,av p54]
   exact kP H (SR fun _ dJ=>Rm rfl (ak dJ rfl (LR results33 rfl fun H=>H.rt (by rw [hE]))))
  intro gW a H
  try have p54:=dF gW
  have e3:=mW.1 p54;have hs3:=h3 e3;subst hs3;refine kP H (Kc bL (SR fun _ dO=>Rm rfl (Rk rfl (aT DY aH 2 rfl rfl (Rc rfl ?_)))));clear H bL;intro a H;refine s_call jo H wn rfl (jv _ _ H.ro _ 9) rfl ?_;clear H;rintro v61 _ a w ⟨rfl,rfl⟩ - H
  have hE:mY d=cO (decide (16384 < (jk d.tY true false 0 d.flow ⟨0,[]⟩).2.n)) 9:=by rw [mY,dM,ah (by simpa using e1),dM,ah (by simpa using e2),dM,ah (by simpa using e3)];exact Pn _
  exact kH H (ak dO rfl (LR results33 rfl fun H=>H.rt (by rw [hE])))
 skip
 by_cases c1:d.fin.marks.ins≠0∨d.fin.marks.move≠0
 ·skip;refine dI hmx [[],[],[1],[0,1,2],[],[4],[4,5],(ra 0 7),(ra 0 8),(ra 0 9),(ra 0 10),(ra 0 11),(ra 0 12),(ra 0 13),(ra 0 14),(ra 0 15),(ra 0 16),(ra 0 17),(ra 0 18),(ra 0 19),(ra 0 20),(ra 0 21)] [19,20,21] (by kernel_rfl) [_,_,vg d.fin (fD dp) (fD dd) (fD dy),vi (iO d.tY 3 d.fin),_,vi d.fin.marks.ins,_,_,_,vi d.fin.marks.move,_,.bool (decide (d.fin.marks.ins≠0∨d.fin.marks.move≠0)),_,undef,undef,undef,undef,.bool (wE d.fin.marks),vi (cO (wE d.fin.marks) 21)] H (aD (Z0 rfl (Rm rfl)) (Z0 rfl (Rf Lm rfl)) ?_ ?_ (aD (Z0 rfl (Rf xg rfl)) (Z1 4 28 rfl (Ro aH 0 rfl)) (Z1 5 29 rfl (Rc rfl)) (Z1 6 30 rfl (Rm rfl)) (aD (Z1 7 31 rfl (YF Ch (aN c0) rfl)) (Z2 8 32 7 31 rfl (YO aH 0 (aN c0) rfl)) (Z2 9 33 7 31 rfl (YC (aN c0) rfl)) ?_ (aD (Z1 11 35 rfl (Rm rfl)) (aK (j:=12) (by kernel_rfl) (fun _ _ _ _ _ h=>h) rfl rfl rfl rfl rfl (fun _ _ h=>aL h (aF (aA c1))) rfl (fun _=>rfl)) (aK (j:=12) (by kernel_rfl) (fun _ _ _ _ _ h=>h) rfl rfl rfl rfl rfl (fun _ _ h=>aL h (aF (aA c1))) rfl (fun _=>rfl)) (aK (j:=12) (by kernel_rfl) (fun _ _ _ _ _ h=>h) rfl rfl rfl rfl rfl (fun _ _ h=>aL h (aF (aA c1))) rfl (fun _=>rfl)) (aD (aK (j:=12) (by kernel_rfl) (fun _ _ _ _ _ h=>h) rfl rfl rfl rfl rfl (fun _ _ h=>aL h (aF (aA c1))) rfl (fun _=>rfl)) ?_ ?_ (bN rfl) (aZ (bN rfl) (aZ (bN rfl) cu))))))) ?_
  ·refine dB 1 25 rfl rfl fun _ a w G1 hG HT H fin=>?_;refine bJ mE (cs:=[_,_,_,_,_]) H wn rfl rfl (H.hp.dL 1 rfl rfl) rfl ?_;clear H;intro a H;exact fin H iJ rfl
  ·refine bZ 0 24 2 26 rfl rfl fun _ a w G1 hG HT H fin=>?_;refine gY FJ (Li:=[_,_]) (L:=fP b ms ml mr mb mu 0 :: (mb,fJ []) :: []) H wn rfl (F3 _ _ _ d.nS.styles d.nS.lists d.revs b ms ml mr mb mu _ (hck.mono hG) (Hp.owns (Li:=[_,_]) H.hp) 3 d.fin _ _ _ (hhd.mono hG) zh) rfl ?_;clear H;rintro v27 _ _ a w ⟨rfl,rfl,rfl⟩ IU H;dsimp only [lca,bG] at H;exact fin H IU (rfl)
  ·refine bZ 7 31 10 34 rfl rfl fun _ a w G1 hG HT H fin=>?_;refine kH H (Pf (aN c0) rfl ?_);clear H;intro a H;exact fin H iJ (by show _=_;first|exact aF (aA c1).symm|exact aF (by simp [c0]))
  ·refine bZ 12 36 16 40 rfl rfl fun _ a w G1 hG HT H fin=>?_;refine kH H (Pt (aA c1) rfl ?_);clear H;intro a H;exact fin H iJ (by show _=_;first|exact aF (jy (Or.inl c1)).symm|exact aF (by simp [wE,c1]))
  ·refine dB 17 41 rfl rfl fun _ a w G1 hG HT H fin=>?_;refine s_call jo H wn rfl (jv _ _ H.ro _ 21) rfl ?_;clear H;rintro v42 NA a w ⟨rfl,-⟩ IV H;exact fin H IV (rfl)
  clear H;intro a w G iq H hv;have H:=H.aP (hv 3 27 rfl rfl) rfl;have H:=H.aP (hv 18 42 rfl rfl) rfl;clear hv;refine gX oO gN [_,_] [_,_] H wn rfl rfl rfl rfl rfl (by intro i q h;match i,h with|0,h=>exact h|1,h=>exact h|n+2,h=>simp at h) rfl rfl ?_;clear H;intro UH a w W9 H;obtain ⟨Kq,Cz,IZ,H⟩:=H.eu;have Cw:=fun b o h=>Cz b o (iq b o h);replace hfl:=hfl.mono Cw;replace hck:=hck.mono Cw;refine s_call qw H wn rfl (qx _ _ H.ro _ _ (xJ IZ)) rfl ?_;clear H;rintro v44 _ a w ⟨rfl,rfl⟩ - H;refine kH H (Ra rfl ?_);clear H;intro a H;refine aG ⟨rfl,?_⟩;refine K9 _ _ ?_;clear K9;refine kP H (SR fun _ dK=>Rm rfl (Rc rfl (Kz dK (Cd rfl ?_ ?_)))) <;> clear H dK
  ·intro h46 a H
   try have p46:=dT h46
   have hE:mY d=dM [iO d.tY 3 d.fin,cO (wE d.fin.marks) 21]:=by rw [mY,dM,ah (by simpa using e1),dM,av p46]
   exact kP H (SR fun _ eO=>Rm rfl (ak eO rfl (LR results33 rfl fun H=>H.rt (by rw [hE]))))
  intro h46 a H
  try have p46:=dF h46
  have e2:=mW.1 p46;refine kP H (Kc K8 (SQ fun _ gH=>SR fun _ fE=>Rm rfl (aT Ci gT 1 rfl rfl ?_)));clear H K8;intro a H;refine jR C9 [_,_,_] H wn rfl rfl rfl rfl ?_;clear H;intro a H;refine gY IB (Li:=[_,_]) (L:=fP b ms ml mr mb mu 0 :: (mb,fJ []) :: []) H wn rfl (Ms 4294967297 (by omega) _ _ _ d.nS.styles d.nS.lists d.revs b ms ml mr mb mu ⟨0,[]⟩ d.flow _ true false 0 hck (Hp.owns (Li:=[_,_]) H.hp) hfl (by omega) (by omega) (by omega) (by decide) (by dsimp only;omega)) rfl ?_;clear H;rintro v52 _ _ a w ⟨rfl,s3,rfl,rfl,h3⟩ - H;dsimp only [lca,bG] at H;refine kH H (ak fE rfl (SR fun _ gL=>Rm rfl (Rc rfl (Kz gL (Cd rfl ?_ ?_))))) <;> clear H fE gL
  ·intro gW a H
   try have p54:=dT gW
   have hE:mY d=(jk d.tY true false 0 d.flow ⟨0,[]⟩).1:=by rw [mY,dM,ah (by simpa using e1),dM,ah (by simpa using e2),dM,av p54]
   exact kP H (SR fun _ jl=>Rm rfl (ak jl rfl (LR results33 rfl fun H=>H.rt (by rw [hE]))))
  intro gW a H
  try have p54:=dF gW
  have e3:=mW.1 p54;have hs3:=h3 e3;subst hs3;refine kP H (Kc gH (SR fun _ kC=>Rm rfl (Rk rfl (aT DY aH 2 rfl rfl (Rc rfl ?_)))));clear H gH;intro a H;refine s_call jo H wn rfl (jv _ _ H.ro _ 9) rfl ?_;clear H;rintro v61 _ a w ⟨rfl,rfl⟩ - H
  have hE:mY d=cO (decide (16384 < (jk d.tY true false 0 d.flow ⟨0,[]⟩).2.n)) 9:=by rw [mY,dM,ah (by simpa using e1),dM,ah (by simpa using e2),dM,ah (by simpa using e3)];exact Pn _
  exact kH H (ak kC rfl (LR results33 rfl fun H=>H.rt (by rw [hE])))
 skip;refine dI hmx [[],[],[1],[0,1,2],[],[4],[4,5],(ra 0 7),(ra 0 8),(ra 0 9),(ra 0 10),(ra 0 11),(ra 0 12),(ra 0 13),(ra 0 14),(ra 0 15),(ra 0 16),(ra 0 17),(ra 0 18),(ra 0 19),(ra 0 20),(ra 0 21)] [19,20,21] (by kernel_rfl) [_,_,vg d.fin (fD dp) (fD dd) (fD dy),vi (iO d.tY 3 d.fin),_,vi d.fin.marks.ins,_,_,_,vi d.fin.marks.move,_,.bool (decide (d.fin.marks.ins≠0∨d.fin.marks.move≠0)),_,_,fD dd,vi d.fin.marks.dw.length,_,.bool (wE d.fin.marks),vi (cO (wE d.fin.marks) 21)] H (aD (Z0 rfl (Rm rfl)) (Z0 rfl (Rf Lm rfl)) ?_ ?_ (aD (Z0 rfl (Rf xg rfl)) (Z1 4 28 rfl (Ro aH 0 rfl)) (Z1 5 29 rfl (Rc rfl)) (Z1 6 30 rfl (Rm rfl)) (aD (Z1 7 31 rfl (YF Ch (aN c0) rfl)) (Z2 8 32 7 31 rfl (YO aH 0 (aN c0) rfl)) (Z2 9 33 7 31 rfl (YC (aN c0) rfl)) ?_ (aD (Z1 11 35 rfl (Rm rfl)) (Z1 12 36 rfl (YF xk (aN c1) rfl)) (Z2 13 37 12 36 rfl (YO xL 0 (aN c1) rfl)) ?_ (aD (Z2 15 39 12 36 rfl (YC (aN c1) rfl)) ?_ ?_ (bN rfl) (aZ (bN rfl) (aZ (bN rfl) cu))))))) ?_
 ·refine dB 1 25 rfl rfl fun _ a w G1 hG HT H fin=>?_;refine bJ mE (cs:=[_,_,_,_,_]) H wn rfl rfl (H.hp.dL 1 rfl rfl) rfl ?_;clear H;intro a H;exact fin H iJ rfl
 ·refine bZ 0 24 2 26 rfl rfl fun _ a w G1 hG HT H fin=>?_;refine gY FJ (Li:=[_,_]) (L:=fP b ms ml mr mb mu 0 :: (mb,fJ []) :: []) H wn rfl (F3 _ _ _ d.nS.styles d.nS.lists d.revs b ms ml mr mb mu _ (hck.mono hG) (Hp.owns (Li:=[_,_]) H.hp) 3 d.fin _ _ _ (hhd.mono hG) zh) rfl ?_;clear H;rintro v27 _ _ a w ⟨rfl,rfl,rfl⟩ IU H;dsimp only [lca,bG] at H;exact fin H IU (rfl)
 ·refine bZ 7 31 10 34 rfl rfl fun _ a w G1 hG HT H fin=>?_;refine kH H (Pf (aN c0) rfl ?_);clear H;intro a H;exact fin H iJ (by show _=_;first|exact aF (aA c1).symm|exact aF (by simp [c0]))
 ·refine bZ 14 38 12 36 rfl rfl fun _ a w G1 hG HT H fin=>?_;refine kH H (YL qX (aN c1) rfl ?_);clear H;intro a H;exact fin H iJ (by show _=_;first|rfl|exact aC (fun n:Nat=>vi n) hdl)
 ·refine bZ 12 36 16 40 rfl rfl fun _ a w G1 hG HT H fin=>?_;refine kH H (Pf (aN c1) rfl ?_);clear H;intro a H;exact fin H iJ (by show _=_;first|exact aF (jy (Or.inl c1)).symm|exact aF (by simp [wE,c1]))
 ·refine dB 17 41 rfl rfl fun _ a w G1 hG HT H fin=>?_;refine s_call jo H wn rfl (jv _ _ H.ro _ 21) rfl ?_;clear H;rintro v42 NA a w ⟨rfl,-⟩ IV H;exact fin H IV (rfl)
 clear H;intro a w G iq H hv;have H:=H.aP (hv 3 27 rfl rfl) rfl;have H:=H.aP (hv 18 42 rfl rfl) rfl;clear hv;refine gX oO gN [_,_] [_,_] H wn rfl rfl rfl rfl rfl (by intro i q h;match i,h with|0,h=>exact h|1,h=>exact h|n+2,h=>simp at h) rfl rfl ?_;clear H;intro UH a w W9 H;obtain ⟨Kq,Cz,IZ,H⟩:=H.eu;have Cw:=fun b o h=>Cz b o (iq b o h);replace hfl:=hfl.mono Cw;replace hck:=hck.mono Cw;refine s_call qw H wn rfl (qx _ _ H.ro _ _ (xJ IZ)) rfl ?_;clear H;rintro v44 _ a w ⟨rfl,rfl⟩ - H;refine kH H (Ra rfl ?_);clear H;intro a H;refine aG ⟨rfl,?_⟩;refine K9 _ _ ?_;clear K9;refine kP H (SR fun _ jY=>Rm rfl (Rc rfl (Kz jY (Cd rfl ?_ ?_)))) <;> clear H jY
 ·intro h46 a H
  try have p46:=dT h46
  have hE:mY d=dM [iO d.tY 3 d.fin,cO (wE d.fin.marks) 21]:=by rw [mY,dM,ah (by simpa using e1),dM,av p46]
  exact kP H (SR fun _ jJ=>Rm rfl (ak jJ rfl (LR results33 rfl fun H=>H.rt (by rw [hE]))))
 intro h46 a H
 try have p46:=dF h46
 have e2:=mW.1 p46;refine kP H (Kc K8 (SQ fun _ kJ=>SR fun _ lF=>Rm rfl (aT Ci gT 1 rfl rfl ?_)));clear H K8;intro a H;refine jR C9 [_,_,_] H wn rfl rfl rfl rfl ?_;clear H;intro a H;refine gY IB (Li:=[_,_]) (L:=fP b ms ml mr mb mu 0 :: (mb,fJ []) :: []) H wn rfl (Ms 4294967297 (by omega) _ _ _ d.nS.styles d.nS.lists d.revs b ms ml mr mb mu ⟨0,[]⟩ d.flow _ true false 0 hck (Hp.owns (Li:=[_,_]) H.hp) hfl (by omega) (by omega) (by omega) (by decide) (by dsimp only;omega)) rfl ?_;clear H;rintro v52 _ _ a w ⟨rfl,s3,rfl,rfl,h3⟩ - H;dsimp only [lca,bG] at H;refine kH H (ak lF rfl (SR fun _ jK=>Rm rfl (Rc rfl (Kz jK (Cd rfl ?_ ?_))))) <;> clear H lF jK
 ·intro gW a H
  try have p54:=dT gW
  have hE:mY d=(jk d.tY true false 0 d.flow ⟨0,[]⟩).1:=by rw [mY,dM,ah (by simpa using e1),dM,ah (by simpa using e2),dM,av p54]
  exact kP H (SR fun _ oV=>Rm rfl (ak oV rfl (LR results33 rfl fun H=>H.rt (by rw [hE]))))
 intro gW a H
 try have p54:=dF gW
 have e3:=mW.1 p54;have hs3:=h3 e3;subst hs3;refine kP H (Kc kJ (SR fun _ qh=>Rm rfl (Rk rfl (aT DY aH 2 rfl rfl (Rc rfl ?_)))));clear H kJ;intro a H;refine s_call jo H wn rfl (jv _ _ H.ro _ 9) rfl ?_;clear H;rintro v61 _ a w ⟨rfl,rfl⟩ - H
 have hE:mY d=cO (decide (16384 < (jk d.tY true false 0 d.flow ⟨0,[]⟩).2.n)) 9:=by rw [mY,dM,ah (by simpa using e1),dM,ah (by simpa using e2),dM,ah (by simpa using e3)];exact Pn _
 exact kH H (ak qh rfl (LR results33 rfl fun H=>H.rt (by rw [hE])))
end
section
open Go.RowKit
theorem OO:∀ args w,(callFunc 32 args).run prog w=.ok (.enter 32 args) w:=enters func32 rfl (by kernel_rfl)
theorem aeM:∀ args w,(callFunc 33 args).run prog w=.ok (.enter 33 args) w:=enters func33 rfl (by kernel_rfl)
theorem ako {d:xO} (h:mY d=0):uI d.flow:=by
 have h1:=uV h _ (iZ _ (iZ _ gP));exact uI.of (Ve h1)
abbrev AA (b:Nat) (n:Int):Nat × Obj:=(b,.cells #[vi n] 3 (0,0))
def SmQ (bl:Nat) (left:Int) (z:Nat) (u:aj) (_:GH) (L':OL):Prop:=∃ b lf,u=.bool b∧L'=[AA bl lf]∧left - (z:Int)≤lf∧lf≤left
def NP (n:Nat):Prop:=∀ (G:GH) (w0:World) (l:List au) (v:aj) (Gp left:Int) (bl:Nat),gZ G [AA bl left] w0→ay G (.sl 11 (l.map au.dat)) v→bg l < n→0≤Gp→Gp≤1000→left≤1000→-1000000000000≤left - (bg l:Int) →
 Calls prog 32 #[v,vi Gp,(aI bl 0)] w0 (gI w0 G [AA bl left] (SmQ bl left (bg l)))
theorem aaW (l m:List bD):iD (l++m)=iD l+iD m:=by simp [iD,Sw]
theorem aaR (l m:List bF):jI (l++m)=jI l+jI m:=by simp [jI,Sw]
theorem ang {l:List au} {k:Nat} (h:k < l.length):bg (l.take (k+1))=bg (l.take k)+(1+dx l[k].dat):=by rw [jg h,Ta];simp [bg,eZ]
theorem anh {l:List bD} {k:Nat} (h:k < l.length):iD (l.take (k+1))=iD (l.take k)+(1+dx l[k].dat):=by rw [jg h,aaW];simp [iD,eZ]
theorem anf {l:List bF} {k:Nat} (h:k < l.length):jI (l.take (k+1))=jI (l.take k)+(1+dx l[k].dat):=by rw [jg h,aaR];simp [jI,eZ]
theorem aaV (l:List au) (k:Nat):bg (l.take k)≤bg l:=E8 (List.take_sublist k l)
theorem aaY (l:List bD) (k:Nat):iD (l.take k)≤iD l:=by
 have:=aaW (l.take k) (l.drop k);rw [List.take_append_drop] at this;omega
theorem aaT (l:List bF) (k:Nat):jI (l.take k)≤jI l:=by
 have:=aaR (l.take k) (l.drop k);rw [List.take_append_drop] at this;omega
set_option maxHeartbeats 4000000 in
theorem amh {n:Nat} (ih:NP n) (hn:n≤4294967296):NP (n+1):=by
 intro G w0 l v Gp left bl hO hv hz hl0 hl1 hf1 hf0;obtain ⟨A,c,rfl,hc1,hc2,hg⟩:=hv.slice;rw [bV] at *;have hll:=Ak l;refine jZ (N:=133) (T:=[(0,_),(1,_),(2,_)]) func32 rfl ntmps32 rfl rfl hO ?_;intro a H;refine kP H (SR fun _ K1=>ak K1 rfl (SQ fun _ K2=>SR fun _ K3=>ak K3 rfl (SB ?_)));clear H K1 K3;intro a H;skip;refine eU (ι:=Nat × Int × GH) (Tc:=[(0,_),(1,_),(2,_)]) (Lc:=[]) (fun gh=>[(7,vi gh.1)]) (fun gh=>[AA bl gh.2.1]) (fun gh=>gh.2.2) (fun gh=>gh.1≤l.length∧left - (bg (l.take gh.1):Int)≤gh.2.1∧gh.2.1≤left∧(∀ b o,G b=some o→gh.2.2 b=some o)) (fun gh=>l.length - gh.1) ((0,left,G)) (by exact (H).sub ⟨rfl,rfl,rfl,rfl,aB⟩) ?_ ?_
 ·exact ⟨by omega,by show left - ((0:Nat):Int)≤left;omega,Int.le_refl _,fun _ _ h=>h⟩
 clear H;intro gh a w hI H;obtain ⟨k,lf,g⟩:=gh;dsimp only at hI H;obtain ⟨hk,hlo,hhi,hgm⟩:=hI;have hzk:=aaV l k;dsimp only [lca,bG] at H;refine kP H (SQ fun _ K4=>SR fun _ K5=>Rm rfl (Rm rfl (Rl dZ rfl (Rc rfl (Kz K5 (Cd rfl ?_ ?_)))))) <;> clear H K5
 ·intro gB a H
  try have qV:=dT gB
  have hk2:k < l.length:=by omega
  obtain ⟨b,o,pA,pn,pc,dA,dn,dc,yA,yn,yc,fA,fn,fc,rA,rn,rc,rfl,hrow,hhd,hfl,hrw⟩:=vY hk2 hg;have hrn:=hrw.len;rw [bV] at hrn;subst hrn;have r3:aJ g b (o+k*11+3)=some (.string l[k].text):=aO hgm (hrow 3 _ rfl);have r4:aJ g b (o+k*11+4+0)=some (.slice pA pn pc):=aO hgm (hrow 4 _ rfl);have r9:aJ g b (o+k*11+9)=some (.slice fA fn fc):=aO hgm (hrow 9 _ rfl);have GA:aJ g b (o+k*11+10)=some (.slice rA l[k].rows.length rc):=aO hgm (hrow 10 _ rfl);have hzi:=oF l[k];have hzs:=ang hk2;have hzt:=aaV l (k+1);refine kP H (Kc K4 (SQ fun _ K6=>SB (SR fun _ K7=>Rm rfl (Rk rfl (Ro aH 0 rfl (Rs rfl (Rk rfl ?_)))))));clear H K4;intro a H;refine bM aH 0 (vs:=[_]) _ H wn rfl rfl rfl rfl rfl rfl rfl rfl ?_;clear H;intro w H;dsimp only [List.set,setRow] at H;refine K7 _ _ ?_;clear K7;refine kP H (SQ fun _ K8=>SR fun _ K9=>Rm rfl (Rk rfl (Ro aH 0 rfl (Rc rfl (Rm rfl (Sp 25 rfl ?_ ?_)))))) <;> clear H
  ·intro mg a H
   try have p25:=dT mg
   refine kH H (aR mg rfl (Pt mg rfl (Rm rfl (bC rfl rfl (aR rfl rfl (aR rfl rfl (Pt rfl rfl (Rm rfl (bC rfl rfl (bC rfl rfl (aR rfl rfl (Pt rfl rfl (Rm rfl (bC rfl rfl (aR rfl rfl (aR rfl rfl (Pt rfl rfl (Rm rfl (bC rfl rfl (bC rfl rfl (aR rfl rfl (aR rfl rfl ?_))))))))))))))))))))));clear H;intro a H;exact kH H (Pt rfl rfl (Kz K9 (Ct rfl rfl (SR fun _ aQ=>ak aQ rfl (LR results32 rfl fun H=>H.hp.eX ⟨_,_,rfl,rfl,by omega,by omega⟩)))))
  intro mg a H
  try have p25:=dF mg
  refine kH H (YM mg rfl (YC mg rfl (Pf mg rfl (Rm rfl (Sp 29 rfl ?_ ?_))))) <;> clear H
  ·intro kF a H
   try have p29:=dT kF
   refine kH H (bC kF rfl (aR kF rfl (aR kF rfl (Pt kF rfl (Rm rfl (bC rfl rfl (bC rfl rfl (aR rfl rfl (Pt rfl rfl (Rm rfl (bC rfl rfl (aR rfl rfl (aR rfl rfl (Pt rfl rfl (Rm rfl (bC rfl rfl (bC rfl rfl (aR rfl rfl (aR rfl rfl (Pt rfl rfl (Kz K9 ?_)))))))))))))))))))));clear H K9;intro a H;refine xY H rfl rfl ?_;exact kP H (SR fun _ bH=>ak bH rfl (LR results32 rfl fun H=>H.hp.eX ⟨_,_,rfl,rfl,by omega,by omega⟩))
  intro kF a H
  try have p29:=dF kF
  refine kH H (YM kF rfl (YM kF rfl (YI dZ bW kF rfl rfl (YF pG kF rfl (YR fV kF rfl (by assumption) ?_)))));clear H;intro a H;refine BJ fO H (wg H rfl rfl kF) rfl rfl ?_;clear H;intro a H;refine kH H (YC kF rfl (Pf kF rfl (Rm rfl (Sp 38 rfl ?_ ?_)))) <;> clear H
  ·intro pI a H
   try have p38:=dT pI
   exact kH H (bC pI rfl (bC pI rfl (aR pI rfl (Pt pI rfl (Rm rfl (bC rfl rfl (aR rfl rfl (aR rfl rfl (Pt rfl rfl (Rm rfl (bC rfl rfl (bC rfl rfl (aR rfl rfl (aR rfl rfl (Pt rfl rfl (Kz K9 (Ct rfl rfl (SR fun _ bL=>ak bL rfl (LR results32 rfl fun H=>H.hp.eX ⟨_,_,rfl,rfl,by omega,by omega⟩)))))))))))))))))))
  intro pI a H
  try have p38:=dF pI
  refine kH H (YM pI rfl (YM pI rfl (YI dZ bW pI rfl rfl (YF uU pI rfl (YF D5 pI rfl (YR BP pI rfl (by assumption) ?_))))));clear H;intro a H;refine kH H (YL qd pI rfl (YC pI rfl (Pf pI rfl (Rm rfl (Sp 48 rfl ?_ ?_))))) <;> clear H
  ·intro h48 a H
   try have p48:=dT h48
   exact kH H (bC h48 rfl (aR h48 rfl (aR h48 rfl (Pt h48 rfl (Rm rfl (bC rfl rfl (bC rfl rfl (aR rfl rfl (aR rfl rfl (Pt rfl rfl (Kz K9 (Ct rfl rfl (SR fun _ bR=>ak bR rfl (LR results32 rfl fun H=>H.hp.eX ⟨_,_,rfl,rfl,by omega,by omega⟩))))))))))))))
  intro h48 a H
  try have p48:=dF h48
  refine kH H (YM h48 rfl (YM h48 rfl (YI dZ bW h48 rfl rfl (YF nG h48 rfl (YR nU h48 rfl (by assumption) ?_)))));clear H;intro a H;refine kH H (YL lD h48 rfl (YC h48 rfl (Pf h48 rfl (Rm rfl (Sp 57 rfl ?_ ?_))))) <;> clear H
  ·intro h57 a H
   try have p57:=dT h57
   exact kH H (bC h57 rfl (bC h57 rfl (aR h57 rfl (aR h57 rfl (Pt h57 rfl (Kz K9 (Ct rfl rfl (SR fun _ bQ=>ak bQ rfl (LR results32 rfl fun H=>H.hp.eX ⟨_,_,rfl,rfl,by omega,by omega⟩)))))))))
  intro h57 a H
  try have p57:=dF h57
  refine kH H (YM h57 rfl (YM h57 rfl (YI dZ bW h57 rfl rfl (YF vX h57 rfl (YR gT h57 rfl (by assumption) ?_)))));clear H;intro a H;refine kH H (YM h57 rfl ?_);clear H;intro a H;refine kX _ H (wg H rfl rfl h57) rfl rfl rfl (by omega) (by omega) rfl ?_;clear H;intro a H;refine kH H (YM h57 rfl ?_);clear H;intro a H;refine gY OO (Li:=[]) (L:=[AA bl _]) H (wg H rfl rfl h57) rfl (ih _ _ l[k].flow _ (Gp - 1) _ bl (Hp.owns (Li:=[]) H.hp) (hfl.mono hgm) (by omega) (by omega) (by omega) (by omega) (by omega)) rfl ?_;clear H;rintro v66 G66 L66 a w ⟨b66,lf66,rfl,rfl,anN,anK⟩ Xo H;dsimp only [List.nil_append] at H;replace GA:=aO Xo GA;have ahF:=fun b o h=>Xo b o (hgm b o h);refine kH H (YN h57 rfl (Pf h57 rfl (Kz K9 (Cd rfl ?_ ?_)))) <;> clear H K9
  ·intro h68 a H
   try have p68:=dT h68
   exact kP H (SR fun _ dJ=>ak dJ rfl (LR results32 rfl fun H=>H.hp.eX ⟨_,_,rfl,rfl,by omega,by omega⟩))
  intro h68 a H
  try have p68:=dF h68
  refine kP H (Kc K8 (SR fun _ dO=>ak dO rfl (SB ?_)));clear H K8 dO;intro a H;skip;refine eU (ι:=Nat × Int × GH) (Tc:=[(0,_),(1,_),(2,_),(7,_)]) (Lc:=[]) (fun gh=>[(8,vi gh.1)]) (fun gh=>[AA bl gh.2.1]) (fun gh=>gh.2.2) (fun gh=>gh.1≤l[k].rows.length∧lf66 - (iD (l[k].rows.take gh.1):Int)≤gh.2.1∧gh.2.1≤lf66∧(∀ b o,G b=some o→gh.2.2 b=some o)∧aJ gh.2.2 b (o+k*11+10)=some (.slice rA l[k].rows.length rc)) (fun gh=>l[k].rows.length - gh.1) ((0,lf66,G66)) (by exact (H).sub ⟨rfl,rfl,rfl,rfl,rfl,aB⟩) ?_ ?_
  ·exact ⟨by omega,by show lf66 - ((0:Nat):Int)≤lf66;omega,Int.le_refl _,ahF,GA⟩
  clear H;intro gh a w hI H;obtain ⟨j,lf2,g2⟩:=gh;dsimp only at hI H;obtain ⟨hj,hlo2,hhi2,pO,q10⟩:=hI;have anZ:=aaY l[k].rows j;dsimp only [lca,bG] at H;refine kP H (SQ fun _ dK=>SR fun _ eO=>Rm rfl (Rm rfl (Rm rfl (Ri dZ bW rfl rfl (Rf nG rfl (Rg nU rfl (by assumption) ?_))))));clear H;intro a H;refine kH H (Rl lD rfl (Rc rfl (Kz eO (Cd rfl ?_ ?_)))) <;> clear H eO
  ·intro Ba a H
   try have RG:=dT Ba
   have hj2:j < l[k].rows.length:=by omega
   obtain ⟨b2,o2,uA,un,uc,eA,en,ec,zA,zn,zc,cA,cn,cc,rfl,hrow2,yL,hcl⟩:=GJ hj2 (hrw.mono pO).at_;have hcn:=hcl.len;rw [bV] at hcn;subst hcn;have t5:aJ g2 b2 (o2+j*6+5)=some (.slice cA l[k].rows[j].cells.length cc):=hrow2 5 _ rfl;have anX:=Al l[k].rows[j];have aob:=anh hj2;have aod:=aaY l[k].rows (j+1);refine kP H (Kc dK (SQ fun _ gH=>SB (SQ fun _ fE=>SR fun _ gL=>Rm rfl (Rm rfl (Ri dZ bW rfl rfl (Rf nG rfl (Rg nU rfl (by assumption) ?_)))))));clear H dK;intro a H;refine kH H (Rm rfl (Ri lD jM rfl rfl (Rf sK rfl (Rg tH rfl (by assumption) ?_))));clear H;intro a H;refine kH H (Rl oP rfl (Rc rfl (Kz gL (Cd rfl ?_ ?_)))) <;> clear H gL
   ·intro PO a H
    try have p89:=dT PO
    exact kP H (SR fun _ jl=>ak jl rfl (LR results32 rfl fun H=>H.hp.eX ⟨_,_,rfl,rfl,by omega,by omega⟩))
   intro PO a H
   try have p89:=dF PO
   refine kP H (Kc fE (SR fun _ kC=>ak kC rfl (SB ?_)));clear H fE kC;intro a H;skip;refine eU (ι:=Nat × Int × GH) (Tc:=[(0,_),(1,_),(2,_),(7,_),(8,_)]) (Lc:=[]) (fun gh=>[(9,vi gh.1)]) (fun gh=>[AA bl gh.2.1]) (fun gh=>gh.2.2) (fun gh=>gh.1≤l[k].rows[j].cells.length∧lf2 - (jI (l[k].rows[j].cells.take gh.1):Int)≤gh.2.1∧gh.2.1≤lf2∧(∀ b o,G b=some o→gh.2.2 b=some o)∧aJ gh.2.2 b (o+k*11+10)=some (.slice (some ⟨b2,o2,none⟩) l[k].rows.length rc)∧aJ gh.2.2 b2 (o2+j*6+5)=some (.slice cA l[k].rows[j].cells.length cc)∧(∀ b o,g2 b=some o→gh.2.2 b=some o)) (fun gh=>l[k].rows[j].cells.length - gh.1) ((0,lf2,g2)) (by exact (H).sub ⟨rfl,rfl,rfl,rfl,rfl,rfl,aB⟩) ?_ ?_
   ·exact ⟨by omega,by show lf2 - ((0:Nat):Int)≤lf2;omega,Int.le_refl _,pO,q10,t5,fun _ _ h=>h⟩
   clear H;intro gh a w hI H;obtain ⟨m,lf3,g3⟩:=gh;dsimp only at hI H;obtain ⟨hm,hlo3,hhi3,Bl,s10,s5,Xi⟩:=hI;have aoa:=aaT l[k].rows[j].cells m;dsimp only [lca,bG] at H;refine kP H (SQ fun _ jY=>SR fun _ jJ=>Rm rfl (Rm rfl (Rm rfl (Ri dZ bW rfl rfl (Rf nG rfl (Rg nU rfl (by assumption) ?_))))));clear H;intro a H;refine kH H (Rm rfl (Ri lD jM rfl rfl (Rf sK rfl (Rg tH rfl (by assumption) ?_))));clear H;intro a H;refine kH H (Rl oP rfl (Rc rfl (Kz jJ (Cd rfl ?_ ?_)))) <;> clear H jJ
   ·intro Pw a H
    try have akv:=dT Pw
    have hm2:m < l[k].rows[j].cells.length:=by omega
    obtain ⟨b3,o3,x1,x2,x3,x4,x5,x6,x7,x8,x9,gA,gn,gc,rfl,hrow3,hch,hcf⟩:=FC hm2 (hcl.mono Xi).at_;have u6:aJ g3 b3 (o3+m*7+6)=some (.slice gA gn gc):=hrow3 6 _ rfl;have anY:=Aj l[k].rows[j].cells[m];have aoc:=anf hm2;have aoe:=aaT l[k].rows[j].cells (m+1);refine kP H (Kc jY (SQ fun _ kJ=>SB (SR fun _ lF=>Rm rfl (Rk rfl (Ro aH 0 rfl (Rs rfl (Rk rfl ?_)))))));clear H jY;intro a H;refine bM aH 0 (vs:=[_]) _ H wn rfl rfl rfl rfl rfl rfl rfl rfl ?_;clear H;intro w H;dsimp only [List.set,setRow] at H;refine lF _ _ ?_;clear lF;refine kP H (SR fun _ jK=>Rm rfl (Rk rfl (Ro aH 0 rfl (Rc rfl (Rm rfl (Sp 113 rfl ?_ ?_)))))) <;> clear H
    ·intro kU a H
     try have akx:=dT kU
     exact kH H (bC kU rfl (bC kU rfl (bC kU rfl (bC kU rfl (bC kU rfl (bC kU rfl (Pt kU rfl (Kz jK (Ct rfl rfl (SR fun _ oV=>ak oV rfl (LR results32 rfl fun H=>H.hp.eX ⟨_,_,rfl,rfl,by omega,by omega⟩)))))))))))
    intro kU a H
    try have akx:=dF kU
    refine kH H (YM kU rfl (YM kU rfl (YI dZ bW kU rfl rfl (YF nG kU rfl (YR nU kU rfl (by assumption) ?_)))));clear H;intro a H;refine kH H (YM kU rfl (YI lD jM kU rfl rfl (YF sK kU rfl (YR tH kU rfl (by assumption) ?_))));clear H;intro a H;refine kH H (YM kU rfl (YI oP ku kU rfl rfl (YF Cm kU rfl (YR gT kU rfl (by assumption) ?_))));clear H;intro a H;refine kH H (YM kU rfl ?_);clear H;intro a H;refine kX _ H (wg H rfl rfl kU) rfl rfl rfl (by omega) (by omega) rfl ?_;clear H;intro a H;refine kH H (YM kU rfl ?_);clear H;intro a H;refine gY OO (Li:=[]) (L:=[AA bl _]) H (wg H rfl rfl kU) rfl (ih _ _ l[k].rows[j].cells[m].flow _ (Gp - 1) _ bl (Hp.owns (Li:=[]) H.hp) hcf (by omega) (by omega) (by omega) (by omega) (by omega)) rfl ?_;clear H;rintro v130 abd ank a w ⟨ano,ajk,rfl,rfl,anM,anJ⟩ Ma H;dsimp only [List.nil_append] at H;refine kH H (YN kU rfl (Pf kU rfl (Kz jK (Cd rfl ?_ ?_)))) <;> clear H jK
    ·intro Co a H
     try have Zg:=dT Co
     exact kP H (SR fun _ qh=>ak qh rfl (LR results32 rfl fun H=>H.hp.eX ⟨_,_,rfl,rfl,by omega,by omega⟩))
    intro Co a H
    try have Zg:=dF Co
    refine kP H (Kc kJ (SC (Rm rfl (Rd rfl (Ra rfl ?_)))));clear H kJ;intro a H;refine aG ?_;refine dh ((m+1,ajk,abd)) (by exact (H).sub ⟨rfl,rfl,rfl,rfl,rfl,rfl,aB⟩) ?_ ?_
    ·(try dsimp only);exact ⟨by omega,by omega,by omega,fun b o h=>Ma b o (Bl b o h),aO Ma s10,aO Ma s5,fun b o h=>Ma b o (Xi b o h)⟩
    first|omega|(dsimp only;omega)
   intro Pw a H
   try have akv:=dF Pw
   refine dW ?_;refine gH _ _ ?_;clear gH;refine kP H (SC (Rm rfl (Rd rfl (Ra rfl ?_))));clear H;intro a H;refine aG ?_;refine dh ((j+1,lf3,g3)) (by exact (H).sub ⟨rfl,rfl,rfl,rfl,rfl,aB⟩) ?_ ?_
   ·(try dsimp only);exact ⟨by omega,by omega,by omega,Bl,s10⟩
   first|omega|(dsimp only;omega)
  intro Ba a H
  try have RG:=dF Ba
  refine dW ?_;refine K6 _ _ ?_;clear K6;refine kP H (SC (Rm rfl (Rd rfl (Ra rfl ?_))));clear H;intro a H;refine aG ?_;refine dh ((k+1,lf2,g2)) (by exact (H).sub ⟨rfl,rfl,rfl,rfl,aB⟩) ?_ ?_
  ·(try dsimp only);exact ⟨by omega,by omega,by omega,pO⟩
  first|omega|(dsimp only;omega)
 intro gB a H
 try have qV:=dF gB
 refine dW ?_;refine K2 _ _ ?_;clear K2;exact kP H (SR fun _ qH=>ak qH rfl (LR results32 rfl fun H=>H.hp.eX ⟨_,_,rfl,rfl,by omega,by omega⟩))
theorem Z4:∀ n:Nat,n≤4294967296→NP n
 | 0,_=>fun _ _ _ _ _ _ _ _ _ hz=>absurd hz (Nat.not_lt_zero _)
 | n+1,h=>amh (Z4 n (by omega)) (by omega)
theorem amg (G:GH) (w0:World) (hG:Hold G w0) (D:nA) (d:xO) (hR:Dq G D d) (hz:Ke d) :
  Calls prog 10 #[D.val] w0 (bq w0 G fun u G'=>∃ b,u=.bool b∧(b=true→mY d=0)):=by
 have CK:=hz.fl;refine eN [(0,_)] func10 rfl ntmps10 rfl rfl hG ?_;intro a H;refine dH (fun _ K1=>?_);refine fC (cs:=[_,_,_,_,_,_,_,_,_,_,_]) H wn rfl rfl rfl ?_;clear H;intro b1 a w hb1 H;refine kH H (ak K1 rfl (SQ fun _ K2=>?_));clear H K1;intro a H;obtain ⟨Ga,hma,hb1',H⟩:=H.eu;have hga:=fun j v hj=>zN hb1' 0 D.cells rfl j v hj;have hgs:=fun j v hj=>zN hb1' 7 [fD D.s1,fD D.s2,fD D.s3,fD D.s4] rfl j v hj
 have hgr:aJ Ga b1 6=some (fD D.r):=by unfold aJ;rw [hb1'];rfl
 have hgf:aJ Ga b1 0=some (fD D.f):=by unfold aJ;rw [hb1'];rfl
 replace hR:=hR.mono hma;refine oH ?_;refine eB aH H wn rfl ?_;clear H;intro b3 a w hb3 H;refine bM aH 0 (vs:=[_]) _ H wn rfl rfl rfl rfl rfl rfl rfl rfl ?_;clear H;intro w H;dsimp only [List.set,setRow] at H;refine kH H (Kn K2 (SR fun _ K3=>Rf Ls rfl ?_));clear H K2;intro a H;refine bJ Nh (cs:=[fD D.s1,fD D.s2,fD D.s3,fD D.s4]) H wn rfl rfl (fun j v hj=>H.hp.aJ (hgs j v hj)) rfl ?_;clear H;intro a H;refine eB Nh H wn rfl ?_;clear H;intro b4 a w hb4 H;refine bM Nh 0 (vs:=[_,_,_,_]) _ H wn rfl rfl rfl rfl rfl rfl rfl rfl ?_;clear H;intro w H;dsimp only [List.set,setRow] at H;refine K3 _ _ ?_;clear K3;refine kP H (SR fun _ K4=>aT Wp EX 0 rfl rfl (Rl Dh rfl (Rc rfl (Rm rfl (Sp 11 rfl ?_ ?_))))) <;> clear H
 ·intro h11 a H
  try have nN:=dT h11
  refine kH H (YF O9 h11 rfl (YO tF 0 h11 rfl (YL nV h11 rfl (YC h11 rfl (Pt h11 rfl (Rm rfl (Sp 17 rfl ?_ ?_))))))) <;> clear H
  ·intro eF a H
   try have mR:=dT eF
   refine kH H (YF Pb eF rfl (YO EW 0 eF rfl (YL EZ eF rfl (YC eF rfl (Pt eF rfl (Rm rfl (Sp 23 rfl ?_ ?_))))))) <;> clear H
   ·intro h23 a H
    try have sU:=dT h23
    refine kH H (YF Wq h23 rfl (YO xM 0 h23 rfl (YL zq h23 rfl (YC h23 rfl (Pt h23 rfl (Rm rfl (Sp 29 rfl ?_ ?_))))))) <;> clear H
    ·intro kF a H
     try have p29:=dT kF
     refine kH H (YF Pg kF rfl (YR Db kF rfl (by assumption) ?_));clear H;intro a H;refine kH H (YL Dg kF rfl (YC kF rfl (Pt kF rfl (Rm rfl (Sp 35 rfl ?_ ?_))))) <;> clear H
     ·intro nJ a H
      try have p35:=dT nJ
      refine kH H (YF Ci nJ rfl (YR gT nJ rfl (by assumption) ?_));clear H;intro a H;refine gY OO (Li:=[_]) (L:=[AA b3 150]) H (wg H rfl rfl nJ) rfl (Z4 4294967296 (bT _) _ _ d.flow _ 12 150 b3 (Hp.owns (Li:=[_]) H.hp) hR.fl (by omega) (by decide) (by decide) (by decide) (by omega)) rfl ?_;clear H;rintro v38 Ny L38 a w ⟨b38,lf38,rfl,rfl,-,-⟩ F4 H;refine kH H (Pt nJ rfl (Rm rfl (Sp 40 rfl ?_ ?_))) <;> clear H
      ·intro lS a H
       try have p40:=dT lS
       refine bJ rY (cs:=D.cells) H (wg H rfl rfl lS) rfl rfl (fun j v hj=>H.hp.aJ (aO F4 (hga j v hj))) rfl ?_;clear H;intro a H;refine s_call aeM H (wg H rfl rfl lS) rfl (acT _ _ H.ro D d (hR.mono F4) hz) rfl ?_;clear H;rintro v42 NA a w rfl anO H;exact kH H (YC lS rfl (Pt lS rfl (ak K4 rfl (LR results10 rfl fun H=>H.rt ⟨_,rfl,fun h=>by first|assumption|(simp_all;done)⟩))))
      intro lS a H
      try have p40:=dF lS
      exact kH H (bC lS rfl (Pf lS rfl (ak K4 rfl (LR results10 rfl fun H=>H.rt ⟨_,rfl,fun h=>by first|assumption|(simp_all;done)⟩))))
     intro nJ a H
     try have p35:=dF nJ
     exact kH H (bC nJ rfl (Pf nJ rfl (Rm rfl (bC rfl rfl (Pf rfl rfl (ak K4 rfl (LR results10 rfl fun H=>H.rt ⟨_,rfl,fun h=>by first|assumption|(simp_all;done)⟩)))))))
    intro kF a H
    try have p29:=dF kF
    exact kH H (aR kF rfl (aR kF rfl (Pf kF rfl (Rm rfl (bC rfl rfl (Pf rfl rfl (Rm rfl (bC rfl rfl (Pf rfl rfl (ak K4 rfl (LR results10 rfl fun H=>H.rt ⟨_,rfl,fun h=>by first|assumption|(simp_all;done)⟩)))))))))))
   intro h23 a H
   try have sU:=dF h23
   exact kH H (aR h23 rfl (aR h23 rfl (Pf h23 rfl (Rm rfl (aR rfl rfl (aR rfl rfl (Pf rfl rfl (Rm rfl (bC rfl rfl (Pf rfl rfl (Rm rfl (bC rfl rfl (Pf rfl rfl (ak K4 rfl (LR results10 rfl fun H=>H.rt ⟨_,rfl,fun h=>by first|assumption|(simp_all;done)⟩)))))))))))))))
  intro eF a H
  try have mR:=dF eF
  exact kH H (aR eF rfl (aR eF rfl (Pf eF rfl (Rm rfl (aR rfl rfl (aR rfl rfl (Pf rfl rfl (Rm rfl (aR rfl rfl (aR rfl rfl (Pf rfl rfl (Rm rfl (bC rfl rfl (Pf rfl rfl (Rm rfl (bC rfl rfl (Pf rfl rfl (ak K4 rfl (LR results10 rfl fun H=>H.rt ⟨_,rfl,fun h=>by first|assumption|(simp_all;done)⟩)))))))))))))))))))
 intro h11 a H
 try have nN:=dF h11
 exact kH H (aR h11 rfl (aR h11 rfl (Pf h11 rfl (Rm rfl (aR rfl rfl (aR rfl rfl (Pf rfl rfl (Rm rfl (aR rfl rfl (aR rfl rfl (Pf rfl rfl (Rm rfl (aR rfl rfl (aR rfl rfl (Pf rfl rfl (Rm rfl (bC rfl rfl (Pf rfl rfl (Rm rfl (bC rfl rfl (Pf rfl rfl (ak K4 rfl (LR results10 rfl fun H=>H.rt ⟨_,rfl,fun h=>by first|assumption|(simp_all;done)⟩)))))))))))))))))))))))
end
section
open Go.RowKit
theorem O4:∀ args w,(callFunc 9 args).run prog w=.ok (.enter 9 args) w:=enters func9 rfl (by kernel_rfl)
theorem adR:∀ args w,(callFunc 10 args).run prog w=.ok (.enter 10 args) w:=enters func10 rfl (by kernel_rfl)
theorem aeH:∀ args w,(callFunc 15 args).run prog w=.ok (.enter 15 args) w:=enters func15 rfl (by kernel_rfl)
theorem abI {l:List au} (h:uI l):(dX 0 0 l).Nodup:=by
 have h1:=(KN 0 0 l h.ok).nodup h.vnd
 unfold List.Nodup at h1
 rw [List.pairwise_map] at h1;exact h1.imp fun hne e=>hne (by rw [e])
theorem amj (A:List bP) (c:Int):(nP A c).length≤A.length:=by
 have:=Sg A c A.length (bT _)
 unfold rX at this
 rwa [wS] at this
end
section
open Go.RowKit
section
variable {N:Nat} {D:List Deferred} {w0:World} {F:Nat→Prop} {G0 G:GH} {L:OL} {T:List (Nat × aj)}
variable {r:Option Nat} {P:Program} {ops:Array Oper} {Q:Exit→Act→World→Prop} {rest:List Oper} {a:Act} {w:World}
variable {d:Nat} {ty:TypeId} {pos:String} {aM:Array Edge} {g:Option (Nat × Bool)}
theorem ZJ {t yt:TypeId} {x y:Operand} {p q:ByteArray} (H:St N D w0 F G0 G L T a w) (hw:Region.wanted ⟨some d,.binOp .add t x y yt,ty,pos,aM,g⟩ (yielded ops a.tmps)=true) (hx:ev T x=some (.string p)) (hy:ev T y=some (.string q)) (hs:p.size+q.size≤4611686018427387904) (hd:Nat.blt d N=true)
  (k:∀ a',St N D w0 F G0 G L ((d,.string (p++q)) :: T) a' w→WL r P ops Q rest a' w):WL r P ops Q (⟨some d,.binOp .add t x y yt,ty,pos,aM,g⟩ :: rest) a w:=by
 refine fq (v:=.string (p++q)) (w':=w) hw rfl ?_ (k _ (H.put hd _ H.hp))
 have h:¬ ((p.size+q.size:Nat):Int) > IntKind.i64.max:=by
  rw [show IntKind.i64.max=9223372036854775807 by decide];omega
 simp only [execOp,H.ev hx,H.ev hy,cZ,eqGuard,binOp,Op.stringOp,ah h]
 rfl
end
theorem dz.set1 {e sz n cap b o:Nat} {xs:List aj} {Lo:OL} (h:dz e sz (.slice (some ⟨b,o,none⟩) n cap) n xs Lo) :
  ∃ cur:List aj,o=0∧Lo=[(b,.cells cur.toArray e (0,0))]∧n*sz≤cur.length∧∀ j v,dz e sz (.slice (some ⟨b,0,none⟩) n cap) n (xs.set j v) [(b,.cells (cur.set j v).toArray e (0,0))]:=by
 rcases h.2 with ⟨h1,_⟩|⟨b',cap',cur',h1,h2,h3,h4,h5,h6⟩
 ·cases h1
 ·cases h1
  refine ⟨cur'.toList,rfl,h2,?_,fun j v=>⟨by rw [List.length_set];exact h.1,.inr ⟨b,cap,_,rfl,rfl,h3,h4,by simpa using h5,?_⟩⟩⟩
  ·rw [sD,h5];exact Nat.mul_le_mul_right _ h3
  ·rw [List.toList_toArray,← h6,List.take_set]
theorem eY.ami {G:GH} {sz:Nat} {rows:List (List Dat)} {q:List Dat} {xs:List aj} (h:eY G sz (rows++[q]) xs):∃ x0 cs,xs=x0++cs∧eY G sz rows x0∧aY G q cs∧cs.length=sz∧x0.length=rows.length*sz:=by
 obtain ⟨css,rfl,h2,h3⟩:=h
 rw [iM,List.length_singleton] at h2
 have hne:css≠[]:=fun e=>by rw [e] at h2;simp at h2
 have e:css=css.dropLast++[css.getLast hne]:=(List.dropLast_concat_getLast hne).symm
 have hdl:css.dropLast.length=rows.length:=by rw [List.length_dropLast];omega
 generalize css.dropLast=c0 at e hdl
 generalize css.getLast hne=cl at e
 subst e
 have h4:∀ (j:Nat) (r:List Dat) (cs:List aj),rows[j]?=some r→c0[j]?=some cs→aY G r cs∧cs.length=sz:=fun j r cs hr hc=>h3 j r cs (by rw [uL (jm.1 hr).1];exact hr) (by rw [uL (jm.1 hc).1];exact hc)
 have h5:=h3 rows.length q cl (by rw [tT (bT _),Nat.sub_self];rfl) (by rw [tT (by omega),hdl,Nat.sub_self];rfl)
 refine ⟨c0.flatten,cl,by simp,⟨c0,rfl,hdl,h4⟩,h5.1,h5.2,?_⟩
 have h6:∀ (c:List (List aj)) (rs:List (List Dat)),c.length=rs.length→(∀ (j:Nat) (r:List Dat) (cs:List aj),rs[j]?=some r→c[j]?=some cs→aY G r cs∧cs.length=sz)→c.flatten.length=rs.length*sz:=by
  intro c
  induction c with
  | nil=>intro rs h _;cases rs with
   | nil=>simp
   | cons r rs=>simp at h
  | cons x c ih =>
   intro rs h hh
   cases rs with
   | nil=>simp at h
   | cons r rs =>
    have e1:=(hh 0 r x rfl rfl).2
    have e2:=ih rs (by simpa using h) fun j r' cs hr hc=>hh (j+1) r' cs (by simpa using hr) (by simpa using hc)
    rw [List.flatten_cons,iM,e1,e2,nZ,Nat.succ_mul,Nat.add_comm]
 exact h6 c0 rows hdl h4
end
section
open Go.RowKit
def yR (z y:au):au:=.mk z.kind z.code z.id (z.text++y.text) z.head z.flow z.rows
def uP (y:au):Prop:=(y.kind=7∧y.rows.length=0)∨(y.kind=1∧y.text.size=0)
def yS (z y:au):Prop:=y.kind=1∧z.kind=1∧z.head=y.head
instance (y:au):Decidable (uP y):=inferInstanceAs (Decidable (_∨_))
instance (z y:au):Decidable (yS z y):=inferInstanceAs (Decidable (_∧_∧_))
def addN (out:List au) (y:au):List au :=
 if uP y then out else match out.getLast? with
  | none=>out++[y]
  | some z=>if yS z y then out.dropLast++[yR z y] else out++[y]
theorem KH {out:List au} {y:au} (h:uP y):addN out y=out:=av h
theorem DK {out:List au} {y:au} (h:¬ uP y) (hj:∀ o z,out=o++[z]→¬ yS z y):addN out y=out++[y]:=by
 unfold addN
 rw [ah h]
 split
 ·rfl
 rename_i z hz
 obtain ⟨o,rfl⟩:=List.getLast?_eq_some_iff.1 hz;rw [ah (hj o z rfl)]
theorem NW {o:List au} {z y:au} (h:¬ uP y) (hj:yS z y):addN (o++[z]) y=o++[yR z y]:=by
 unfold addN
 rw [ah h,List.getLast?_concat];dsimp only;rw [av hj,List.dropLast_concat]
theorem Ut (out:List au) (y:au):addN out y=out∨addN out y=out++[y]∨∃ o z,out=o++[z]∧z.kind=1∧y.kind=1∧addN out y=o++[yR z y]:=by
 by_cases h:uP y
 ·exact .inl (KH h)
 by_cases hj:∃ o z,out=o++[z]∧yS z y
 ·obtain ⟨o,z,rfl,hj⟩:=hj;exact .inr (.inr ⟨o,z,rfl,hj.2.1,hj.1,NW h hj⟩)
 exact .inr (.inl (DK h fun o z e hz=>hj ⟨o,z,e,hz⟩))
mutual
/-- What becomes of an item in a normal form, of rows, of cells. -/
def nI:au→au
 | .mk k c i t h f r=>.mk k c i t h ((Gw f).foldl addN []) (JK r)
def Gw:List au→List au
 | []=>[]
 | x :: l=>nI x :: Gw l
def nR:bD→bD
 | .mk h c=>.mk h (JJ c)
def JK:List bD→List bD
 | []=>[]
 | x :: l=>nR x :: JK l
def nC:bF→bF
 | .mk i h f=>.mk i h ((Gw f).foldl addN [])
def JJ:List bF→List bF
 | []=>[]
 | x :: l=>nC x :: JJ l
end
theorem Rt:∀ l:List au,Gw l=l.map nI
 | []=>by simp [Gw]
 | x :: l=>by simp [Gw,Rt l]
theorem YS:∀ l:List bD,JK l=l.map nR
 | []=>by simp [JK]
 | x :: l=>by simp [JK,YS l]
theorem YP:∀ l:List bF,JJ l=l.map nC
 | []=>by simp [JJ]
 | x :: l=>by simp [JJ,YP l]
def pW (l:List au) (k:Nat):List au:=((l.take k).map nI).foldl addN []
def qD (l:List au):List au:=pW l l.length
theorem Rq (x:au):nI x=.mk x.kind x.code x.id x.text x.head (qD x.flow) (x.rows.map nR):=by
 cases x;rw [nI,Rt,YS];simp [qD,pW,au.kind,au.code,au.id,au.text,au.head,au.flow,au.rows]
theorem YQ (x:bD):nR x=.mk x.head (x.cells.map nC):=by cases x;rw [nR,YP];rfl
theorem ajN (x:bF):nC x=.mk x.id x.head (qD x.flow):=by cases x;rw [nC,Rt];simp [qD,pW,bF.id,bF.head,bF.flow]
theorem MK {l:List au} {k:Nat} (h:k < l.length):pW l (k+1)=addN (pW l k) (nI l[k]):=by
 unfold pW;rw [jg h,kL,List.foldl_append];rfl
theorem amE (out:List au) (y:au):jL (addN out y)≤jL out+(y.text.size+1):=by
 rcases Ut out y with e|e|⟨o,z,rfl,-,-,e⟩ <;> rw [e]
 ·omega
 ·rw [Ad];simp [jL]
 rw [Ad,Ad];have:(yR z y).text.size=z.text.size+y.text.size:=ByteArray.size_append
 simp only [jL,this];omega
theorem ML {l:List au}:∀ {k:Nat},k≤l.length→jL (pW l k)≤jL (l.take k)
 | 0,_=>by simp [pW,jL]
 | k+1,h=>by
  have ih:=ML (l:=l) (k:=k) (by omega);have h1:=amE (pW l k) (nI l[k])
  have h2:(nI l[k]).text=l[k].text:=by rw [Rq];rfl
  rw [h2] at h1;rw [MK (by omega),jg (by omega),Ad]
  simp only [jL];omega
theorem akr {l:List au} {k:Nat} (h:k≤l.length):(pW l k).length≤jL l:=by
 have h1:=Gn (pW l k);have h2:=ML h;have h3:=ES l k
 omega
mutual
/-- Tables whose rows all have cells. -/
def EK:au→Prop
 | .mk _ _ _ _ _ f r=>pV f∧zW r
def pV:List au→Prop
 | []=>True
 | x :: l=>EK x∧pV l
def CY:bD→Prop
 | .mk _ c=>c≠[]∧CX c
def zW:List bD→Prop
 | []=>True
 | x :: l=>CY x∧zW l
def CW:bF→Prop
 | .mk _ _ f=>pV f
def CX:List bF→Prop
 | []=>True
 | x :: l=>CW x∧CX l
end
theorem Rw:∀ {l:List au},pV l→∀ x∈l,EK x
 | [],_,_,h=>by cases h
 | y :: l,h,x,hx=>by
  rw [pV] at h
  rcases kK.1 hx with rfl|hx
  ·exact h.1
  exact Rw h.2 x hx
theorem Y0:∀ {l:List au},(∀ x∈l,EK x)→pV l
 | [],_=>by rw [pV];trivial
 | y :: l,h=>by rw [pV];exact ⟨h y gP,Y0 fun x hx=>h x (iZ _ hx)⟩
theorem Rx:∀ {l:List bD},zW l→∀ x∈l,CY x
 | [],_,_,h=>by cases h
 | y :: l,h,x,hx=>by
  rw [zW] at h
  rcases kK.1 hx with rfl|hx
  ·exact h.1
  exact Rx h.2 x hx
theorem YZ:∀ {l:List bF},CX l→∀ x∈l,CW x
 | [],_,_,h=>by cases h
 | y :: l,h,x,hx=>by
  rw [CX] at h
  rcases kK.1 hx with rfl|hx
  ·exact h.1
  exact YZ h.2 x hx
theorem ajT (x:au):EK x=(pV x.flow∧zW x.rows):=by cases x;rw [EK];rfl
theorem Y1 (x:bD):CY x=(x.cells≠[]∧CX x.cells):=by cases x;rw [CY];rfl
theorem ajS (x:bF):CW x=pV x.flow:=by cases x;rw [CW];rfl
end
end Go.Proofs.YteopmoocmoigcaaGreat
