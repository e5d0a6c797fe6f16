/-
  What the claim stands on, part 5: Nrm Pas L14 L14b L14c L14d L14e Sl Kt K16 Rws Itm Its Rvs Chd Sm16 Tq16 Tw16 Th16 Brd Brs.
-/
import Derived.Test.YteopmoocmoigcaaGreatWxd
import Derived.ProofKit
import Derived.Deep.Slices
import Derived.Laws.StructEq
namespace Go.Proofs.YteopmoocmoigcaaGreat
open Go.Proofs.Tryz
section
open Go.RowKit
theorem aaq:∀ args w,(callFunc 104 args).run prog w=.ok (.enter 104 args) w:=enters func104 rfl (by kernel_rfl)
theorem Sd:∀ args w,(callFunc 44 args).run prog w=.ok (.enter 44 args) w:=enters func44 rfl (by kernel_rfl)
theorem abK:∀ args w,(callFunc 70 args).run prog w=.ok (.enter 70 args) w:=enters func70 rfl (by kernel_rfl)
theorem abL:∀ args w,(callFunc 73 args).run prog w=.ok (.enter 73 args) w:=enters func73 rfl (by kernel_rfl)
theorem aah (G:GH) (w0:World) (hG:Hold G w0) (A:Option Addr) (n c:Nat) (fv:aj) (hv:av G (.sl 6 []) (.slice A n c)) :
  Calls prog 70 #[.slice A n c,fv] w0 (bD w0 G fun u G'=>av G' (.sl 6 []) u):=by
 refine eN [(0,_),(1,_)] func70 rfl ntmps70 rfl rfl hG ?_;intro a H;refine kP H (SR fun _ K1=>ak K1 rfl (SR fun _ K2=>Rm rfl (Rm rfl ?_)));clear H K1;intro a H;refine s_call aaq H wn rfl (afk _ _ H.ro [] (fun _=>true) _ _ hv (fun x h=>by cases h)) rfl ?_;clear H;rintro v10 vT a w rfl uE H;refine kH H (ak K2 rfl (SQ fun _ K3=>SR fun _ K4=>Rm rfl (Rc rfl (Kz K4 (Cd rfl ?_ ?_))))) <;> clear H K2 K4
 ·intro h12 a H
  exact kP H (SR fun _ K5=>Rm rfl (ak K5 rfl (LR results70 rfl fun H=>H.rt (hv.mono uE))))
 intro h12 a H
 exact absurd h12 (by decide)
theorem agl (G:GH) (w0:World) (hG:Hold G w0) (A:Option Addr) (n c:Nat) (hv:av G (.sl 11 []) (.slice A n c)) :
  Calls prog 44 #[.slice A n c] w0 (bD w0 G fun u G'=>av G' (.sl 11 []) u):=by
 have hn:n=0:=hv.len;refine eN [(0,_)] func44 rfl ntmps44 rfl rfl hG ?_;intro a H;refine kP H (SR fun _ K1=>ak K1 rfl (SR fun _ K2=>ak K2 rfl (SQ fun _ K3=>SR fun _ K4=>Rm rfl (Rl gQ rfl (Rm rfl (Kz K4 (SB ?_)))))));clear H K1 K2 K4;intro a H;skip;refine fH (ι:=Unit) (Tc:=[(7,_),(8,_)]) (Lc:=[]) (fun gh=>[(3,.slice none 0 0),(9,vi 0)]) (fun gh=>[]) (fun gh=>G) (fun gh=>True) (fun gh=>0) (()) (by exact (H).sub ⟨rfl,rfl,rfl,rfl,aF⟩) ?_ ?_
 ·trivial
 clear H;intro gh a w hI H;obtain ⟨u,hgh⟩:∃ x,x=gh:=⟨_,rfl⟩;subst hgh;skip;dsimp only [lca,bq] at H;refine kP H (SR fun _ K5=>Rc rfl (Kz K5 (SQ fun _ K6=>Cd rfl ?_ ?_))) <;> clear H K5
 ·intro h10 a H
  try have lM:=dT h10
  exact absurd lM (by rw [hn];decide)
 intro h10 a H
 refine dV ?_;refine K3 _ _ ?_;clear K3;exact kP H (SR fun _ K7=>Rm rfl (ak K7 rfl (LR results44 rfl fun H=>H.rt (av.jf rfl (by decide)))))
def QC (x:aA):Prop:=x.flow=[]∧x.rows=[]∧¬ x.kind=7∧(x.kind=1→¬ x.text.toList=[])
def Fb (l:List aA):Prop:=∀ (k:Nat) (h:k+1 < l.length),¬ (l[k].kind=1∧l[k+1].kind=1∧l[k].head=l[k+1].head)
theorem Fb.one {l:List aA} (h:l.length≤1):Fb l:=fun k hk=>by omega
set_option maxHeartbeats 2000000 in
theorem agm (G:GH) (w0:World) (hG:Hold G w0) (l:List aA) (v:aj) (hv:av G (.sl 11 (l.map aA.dat)) v) (hj:Fb l) (hp:∀ x∈l,QC x) (hz:bA l≤1073741824) :
  Calls prog 44 #[v] w0 (bD w0 G fun u G'=>av G' (.sl 11 (l.map aA.dat)) u):=by
 obtain ⟨A,c,rfl,hc1,hc2,hg⟩:=hv.slice
 have hml:4294967297≤maxLen:=by decide
 have hll:l.length≤bA l:=Nat.le_trans (NV l) (Ph l);rw [bT] at *;refine eN [(0,_)] func44 rfl ntmps44 rfl rfl hG ?_;intro a H;refine kP H (SR fun _ K1=>ak K1 rfl (SR fun _ K2=>ak K2 rfl (SQ fun _ K3=>SR fun _ K4=>Rm rfl (Rl gQ rfl (Rm rfl (Kz K4 (SB ?_)))))));clear H K1 K2 K4;intro a H;skip;refine fH (ι:=Nat × aj × List aj × OL × GH) (Tc:=[(7,_),(8,_)]) (Lc:=[]) (fun gh=>[(3,gh.2.1),(9,vi gh.1)]) (fun gh=>[]++gh.2.2.2.1) (fun gh=>gh.2.2.2.2) (fun gh=>gh.1≤l.length∧cK 63 11 gh.2.1 gh.1 gh.2.2.1 gh.2.2.2.1∧fF gh.2.2.2.2 11 ((l.map aA.dat).take gh.1) gh.2.2.1∧(∀ b o,G b=some o→gh.2.2.2.2 b=some o)) (fun gh=>l.length - gh.1) ((0,.slice none 0 0,[],[],G)) (by exact (H).sub ⟨rfl,rfl,rfl,rfl,aF⟩) ?_ ?_
 ·exact ⟨by omega,cK.nil,by simpa using fF.nil,fun _ _ h=>h⟩
 clear H;intro gh a w hI H;obtain ⟨k,v,xs,Lo,g⟩:=gh;dsimp only at hI H;obtain ⟨hk,hrw,jl,hgm⟩:=hI;dsimp only [lca,bq] at H;refine kP H (SR fun _ K5=>Rc rfl (Kz K5 (SQ fun _ K6=>Cd rfl ?_ ?_))) <;> clear H K5
 ·intro h10 a H
  try have lM:=dT h10
  have hk2:k < l.length:=by omega
  obtain ⟨vA,vc,rfl,-,-⟩:=hrw.shape;obtain ⟨b,o,pA,pn,pc,dA,dn,dc,yA,yn,yc,fA,fn,fc,rA,rn,rc,rfl,hrow,hhd,hfl,hrs⟩:=AA hk2 hg;replace hrow:=fun j u hj=>aK hgm (hrow j u hj);obtain ⟨e1,e2,e3,e4⟩:=hp _ (jo hk2);have hzi:=Xw hk2;rw [e1] at hfl;rw [e2] at hrs;refine kP H (Kc K6 (SQ fun _ K7=>SB (SR fun _ K8=>Ri gQ dL rfl rfl ?_)));clear H K6;intro a H;refine bJ dL (cs:=[_,_,_,_,_,_,_,_,_,_,_]) H wn rfl rfl (fun j v hj=>H.hp.aI (hrow j v hj)) rfl ?_;clear H;intro a H;refine eX dL H wn rfl ?_;clear H;intro b5 a w hb5 H;refine bE dL 0 (vs:=[_,_,_,_,_,_,_,_,_,_,_]) _ H wn rfl rfl rfl rfl rfl rfl rfl rfl ?_;clear H;intro w H;dsimp only [List.set,setRow] at H;refine K8 _ _ ?_;clear K8;refine kP H (SR fun _ K9=>Rf Aw rfl ?_);clear H;intro a H;refine bJ pV (cs:=[_,_,_,_,_]) H wn rfl rfl (H.hp.dZ 0 rfl rfl) rfl ?_;clear H;intro a H;refine s_call Iz H wn rfl (Iq _ _ H.ro _ _ _ _ _ _ _ _ _ _ (hhd.mono hgm) (by omega)) rfl ?_;clear H;rintro v15 Dw a w ⟨rV,d15,l15,rfl,Ei⟩ qK H;obtain ⟨a1,a2,a3,rfl⟩:=Ei.props.form;obtain ⟨a4,a5,a6,rfl⟩:=Ei.bX.form;obtain ⟨a7,a8,a9,rfl⟩:=Ei.layers.form;refine kH H (Rf Aw rfl ?_);clear H;intro a H;refine bE pV 0 (vs:=[_,_,_,_,_]) _ H wn rfl rfl rfl rfl rfl rfl rfl rfl ?_;clear H;intro w H;dsimp only [List.set,setRow] at H;refine K9 _ _ ?_;clear K9;refine kP H (SR fun _ aT=>aV ze iH 0 rfl rfl ?_);clear H;intro a H;refine s_call Sd H wn rfl (agl _ _ H.ro _ _ _ (hfl.mono fun b o h=>qK b o (hgm b o h))) rfl ?_;clear H;rintro v19 Kt a w Ns pK H;obtain ⟨Hf,n19,c19,rfl⟩:=Ns.form;refine kH H (Rf ze rfl ?_);clear H;intro a H;refine bE iH 0 (vs:=[_]) _ H wn rfl rfl rfl rfl rfl rfl rfl rfl ?_;clear H;intro w H;dsimp only [List.set,setRow] at H;refine aT _ _ ?_;clear aT;refine kP H (SR fun _ bC=>aV uw uQ 0 rfl rfl ?_);clear H;intro a H;refine s_call Sj H wn rfl (RS _ _ H.ro [] _ _ (hrs.mono fun b o h=>pK b o (qK b o (hgm b o h))) (by decide) (fun x h=>by cases h)) rfl ?_;clear H;rintro v23 Kw a w Uc pO H;obtain ⟨A23,n23,c23,rfl⟩:=Uc.form;refine s_call abK H wn rfl (aah _ _ H.ro _ _ _ _ Uc) rfl ?_;clear H;rintro v24 Hu a w Nt qM H;obtain ⟨PI,n24,c24,rfl⟩:=Nt.form;refine kH H (Rf uw rfl ?_);clear H;intro a H;refine bE uQ 0 (vs:=[_]) _ H wn rfl rfl rfl rfl rfl rfl rfl rfl ?_;clear H;intro w H;dsimp only [List.set,setRow] at H;refine bC _ _ ?_;clear bC;refine kP H (SR fun _ bF=>Rm rfl (Rl gQ rfl (ak bF rfl (SB (SR fun _ bN=>aV jJ aD 0 rfl rfl (Rc rfl (Rm rfl (Sp 36 rfl ?_ ?_)))))))) <;> clear H bF
  ·intro uz a H
   try have p36:=dT uz
   exact absurd p36 e3
  intro uz a H
  try have p36:=dF uz
  refine kH H (aP uz rfl (aP uz rfl (Pf uz rfl (Rm rfl ?_))));clear H;intro a H;refine zS jJ H (wg H rfl rfl rfl) rfl rfl ?_;clear H;intro a H;refine nX aD H (wg H rfl rfl rfl) rfl (H.hp.ng 0 rfl rfl) rfl ?_;clear H;intro a H;refine Dc H (wg H rfl rfl rfl) rfl rfl rfl rfl ?_;clear H;intro a H;refine tL H (wg H rfl rfl rfl) rfl rfl ?_;clear H;intro a H;refine OT H 46 rfl ?_ ?_
  ·intro h46
   try have p46:=dT h46
   refine kH H (YF vv h46 rfl (YO gG 0 h46 rfl ?_));clear H;intro a H;refine Bl H (wg H rfl rfl h46) rfl rfl rfl ?_;clear H;intro a H;refine GN H (wg H rfl rfl rfl) rfl h46 rfl rfl ?_;clear H;intro a H;refine kH H (Pf rfl rfl (ak bN rfl (Cd rfl ?_ ?_))) <;> clear H bN
   ·intro h32 a H
    exact absurd h32 (by simpa using e4 p46)
   intro h32 a H
   try have p32:=dF h32
   refine bg (fun _ bQ=>?_);obtain ⟨vZ,rP⟩:∃ x,x=[vi l[k].kind,vi l[k].code,vi l[k].id,.string l[k].text,.slice a1 a2 a3,vi l[k].head.marks.ins,vi l[k].head.marks.move,.slice a4 a5 a6,.slice a7 a8 a9,.slice Hf n19 c19,.slice PI n24 c24]:=⟨_,rfl⟩
   have zK:aX Hu l[k].dat vZ:=by
    rw [rP];exact aX.mkItem (Ei.mono fun b o h=>qM b o (pO b o (pK b o h))) (by rw [e1];exact Ns.mono fun b o h=>qM b o (pO b o h)) (by rw [e2];exact Nt)
   have hA1:(l.map aA.dat).take (k+1)=(l.map aA.dat).take k++[l[k].dat]:=by rw [jB (by simpa using hk2)];simp
   have Nf:=jl.mono fun b o h=>qM b o (pO b o (pK b o (qK b o h)))
   obtain ⟨bo,pk,pp,pd,pl,xV⟩:∃ (bo:Nat) (pk:gZ × Int) (pp pd pl:aj),0 < (k:Int)→∃ (h:k - 1 < l.length),vA=some ⟨bo,0,none⟩∧pk=(l[k - 1].head,l[k - 1].kind)∧xs[(k - 1)*11]?=some (vi pk.2)∧jm Hu pk.1 pp pd pl∧∀ j u,[pp,vi pk.1.marks.ins,vi pk.1.marks.move,pd,pl][j]?=some u→xs[(k - 1)*11+4+j]?=some u:=by
    by_cases h0:0 < k
    ·obtain ⟨bo,Nc⟩:=hrw.ptr h0;obtain ⟨cs,hcl,hcx,hcr⟩:=Nf.at (k:=k - 1) (r:=l[k - 1].dat) (by rw [sH,au (by omega)];simp [show k - 1 < l.length by omega]);obtain ⟨qA,qn,qc,sA,sn,sc,tA,tn,tc,fA2,fn2,fc2,rA2,rn2,rc2,rfl,hh,-,-⟩:=hcr.item;refine ⟨bo,(l[k - 1].head,l[k - 1].kind),.slice qA qn qc,.slice sA sn sc,.slice tA tn tc,fun _=>⟨by omega,Nc,rfl,hcx 0 _ rfl,hh,fun j u hj=>?_⟩⟩;rw [Nat.add_assoc]
     exact hcx (4+j) u (by
      match j,hj with
      | 0,hj=>exact hj
      | 1,hj=>exact hj
      | 2,hj=>exact hj
      | 3,hj=>exact hj
      | 4,hj=>exact hj)
    exact ⟨0,(⟨[],⟨0,0,[],[]⟩⟩,0),.slice none 0 0,.slice none 0 0,.slice none 0 0,fun h=>by omega⟩
   have T9:l[k].kind=1→0 < (k:Int)→pk.2=1→¬ pk.1=l[k].head:=by
    intro c1 c2 c3 e;obtain ⟨hk1,-,hpk,-⟩:=xV c2;have hjk:=hj (k - 1) (by omega);rw [hpk] at e c3
    simp only [show k - 1+1=k by omega] at hjk
    exact hjk ⟨c3,c1,e⟩
   have c1:l[k].kind=1:=p46
   by_cases c2:0 < (k:Int)
   ·skip
    by_cases c3:pk.2=1
    ·skip;refine dI hmx [[],[0],[0,1],[0,1,2],(ra 0 4),(ra 0 5),(ra 0 6),(ra 0 7),(ra 0 8),(ra 0 8),(ra 0 8++[9]),(ra 0 11),(ra 0 12),(ra 0 13),(ra 0 14),(ra 0 15),(ra 0 16),(ra 0 17),(ra 0 17),(ra 0 17++[18]),(ra 0 20),(ra 0 21),(ra 0 22),(ra 0 17),(ra 0 17++[23]),(ra 0 25),(ra 0 26),(ra 0 27)] [] (by kernel_rfl) [_,vi l[k].kind,_,_,_,_,_,_,.slice (some ⟨bo,0,none⟩) k vc,_,vi ((k - 1:Nat):Int),_,_,vi pk.2,_,_,_,.slice (some ⟨bo,0,none⟩) k vc,_,vi ((k - 1:Nat):Int),_,_,xS pk.1 pp pd pl,_,xS l[k].head (.slice a1 a2 a3) (.slice a4 a5 a6) (.slice a7 a8 a9),.bool false,_,_] H (aB (Z0 rfl (Rf jJ rfl)) (Z1 0 53 rfl (Ro aD 0 rfl)) (Z1 1 54 rfl (Rc rfl)) (Z1 2 55 rfl (Rm rfl)) (aB (Z1 3 56 rfl (YM (aC c1) rfl)) (Z2 4 57 3 56 rfl (YC (aC c1) rfl)) (Z2 3 56 5 58 rfl (Pt (aC c1) rfl)) (Z1 6 59 rfl (Rm rfl)) (aB ?_ (Z1 7 60 rfl (YM (aC c2) rfl)) ?_ (Z3 8 61 10 63 7 60 rfl (YI gQ dL (aC c2) rfl rfl)) (aB (Z2 11 64 7 60 rfl (YF jJ (aC c2) rfl)) ?_ (Z2 13 66 7 60 rfl (YC (aC c2) rfl)) (Z2 7 60 14 67 rfl (Pt (aC c2) rfl)) (aB (Z1 15 68 rfl (Rm rfl)) ?_ (Z1 16 69 rfl (YM (aC c3) rfl)) ?_ (aB (Z3 17 70 19 72 16 69 rfl (YI gQ dL (aC c3) rfl rfl)) (Z2 20 73 16 69 rfl (YF Aw (aC c3) rfl)) ?_ (Z1 16 69 rfl (YF Aw (aC c3) rfl)) (aB ?_ ?_ (Z2 16 69 25 78 rfl (Pt (aC c3) rfl)) (Z1 26 79 rfl (Ra rfl)) bW))))))) ?_
     ·refine dw 7 60 rfl rfl fun _ a w G1 hG HT H fin=>?_;refine kH H (YM (aC c2) rfl ?_);clear H;intro a H;exact fin H iJ (by show _=_;first|rfl|exact ay (fun A=>Value.slice A k vc) (Exists.elim (xV c2) fun _ h=>h.1))
     ·refine cB 9 62 7 60 rfl rfl fun _ a w G1 hG HT H fin=>?_;refine mq _ H (wg H rfl rfl (aC c2)) rfl rfl rfl (by omega) (by omega) rfl ?_;clear H;intro a H;exact fin H iJ (by show _=_;first|rfl|exact ay vi (by omega))
     ·refine cB 12 65 7 60 rfl rfl fun _ a w G1 hG HT H fin=>?_;obtain ⟨_,rfl,_,hkd,_⟩:=xV c2;refine nX aD H (wg H rfl rfl (aC c2)) rfl (hrw.at H.hp (fun x hx=>kr _ hx) (by rw [ko];exact hkd)) rfl ?_;clear H;intro a H;exact fin H iJ rfl
     ·refine dw 16 69 rfl rfl fun _ a w G1 hG HT H fin=>?_;refine kH H (YM (aC c3) rfl ?_);clear H;intro a H;exact fin H iJ (by show _=_;first|rfl|exact ay (fun A=>Value.slice A k vc) (Exists.elim (xV c2) fun _ h=>h.1))
     ·refine cB 18 71 16 69 rfl rfl fun _ a w G1 hG HT H fin=>?_;refine mq _ H (wg H rfl rfl (aC c3)) rfl rfl rfl (by omega) (by omega) rfl ?_;clear H;intro a H;exact fin H iJ (by show _=_;first|rfl|exact ay vi (by omega))
     ·refine cB 21 74 16 69 rfl rfl fun _ a w G1 hG HT H fin=>?_;obtain ⟨_,rfl,_,_,_,hhx⟩:=xV c2;refine bJ pV (cs:=[pp,vi pk.1.marks.ins,vi pk.1.marks.move,pd,pl]) H (wg H rfl rfl (aC c3)) rfl rfl (fun j u hj=>hrw.at H.hp (fun x hx=>kr _ hx) (by rw [ko];exact hhx j u hj)) rfl ?_;clear H;intro a H;exact fin H iJ rfl
     ·refine cB 23 76 16 69 rfl rfl fun _ a w G1 hG HT H fin=>?_;refine bJ pV (cs:=[_,_,_,_,_]) H (wg H rfl rfl (aC c3)) rfl rfl (H.hp.dZ 0 rfl rfl) rfl ?_;clear H;intro a H;exact fin H iJ rfl
     ·refine mR 22 75 24 77 16 69 rfl rfl fun _ a w G1 hG HT H fin=>?_;refine s_call abL H (wg H rfl rfl (aC c3)) rfl (aco _ _ H.ro pk.1 l[k].head _ _ _ _ _ _ (by obtain ⟨_,_,_,_,hh,_⟩:=xV c2;exact hh.mono hG) (Ei.mono fun b o h=>hG b o (qM b o (pO b o (pK b o h))))) rfl ?_;clear H;rintro v78 G78 a w rfl adz H;exact fin H adz (by show _=_;first|rfl|exact aG (iN (T9 c1 c2 c3)))
     clear H;intro a w G jv H hv;have H:=H.aS (hv 27 52 rfl rfl) rfl;clear hv;refine aH ⟨rfl,?_⟩;refine bQ _ _ ?_;clear bQ;refine lF H rfl rfl ?_;refine kP H (SC (Rm rfl ?_));clear H;intro a H;refine bJ dL (cs:=[_,_,_,_,_,_,_,_,_,_,_]) H wn rfl rfl (H.hp.dZ 0 rfl rfl) rfl ?_;clear H;intro a H;refine gP gQ dL [_,_,_,_,_,_,_,_,_,_,_] [_,_,_,_,_,_,_,_,_,_,_] H wn rfl rfl rfl rfl rfl (by intro i q h;match i,h with|0,h=>exact h|n+1,h=>simp at h) rfl rfl ?_;clear H;intro KS a w M8 H;refine pR (Li:=[_,_]) (Lo:=Lo) (news:=vZ) gQ dL rfl rfl H wn rfl rfl hrw (by rw [rP];rfl) (by rw [rP];exact H.hp.dZ 0 rfl rfl) zK.one (by omega) (by omega) rfl ?_;clear H;intro v31 BL a w Cy H;refine kH H (aU K7 rfl (SC (Rd rfl (Rm rfl ?_))));clear H K7;intro a H;refine aH ?_;refine dD ((k+1,v31,xs++vZ,BL,G)) (by exact (H.dU (Pl:=[_,_]) (dx:=[]) [] (by decide) rfl).sub ⟨rfl,rfl,rfl,rfl,aF⟩) ?_ ?_
     ·(try dsimp only);exact ⟨by omega,Cy,by rw [hA1];exact (jl.mono (fun b o h=>jv b o (qM b o (pO b o (pK b o (qK b o h)))))).snoc (zK.mono jv) (by rw [rP];rfl),fun b o h=>jv b o (qM b o (pO b o (pK b o (qK b o (hgm b o h)))))⟩
     first|omega|(dsimp only;omega)
    skip;refine dI hmx [[],[0],[0,1],[0,1,2],(ra 0 4),(ra 0 5),(ra 0 6),(ra 0 7),(ra 0 8),(ra 0 8),(ra 0 8++[9]),(ra 0 11),(ra 0 12),(ra 0 13),(ra 0 14),(ra 0 15),(ra 0 16),(ra 0 17),(ra 0 17),(ra 0 17++[18]),(ra 0 20),(ra 0 21),(ra 0 22),(ra 0 17),(ra 0 17++[23]),(ra 0 25),(ra 0 26),(ra 0 27)] [] (by kernel_rfl) [_,vi l[k].kind,_,_,_,_,_,_,.slice (some ⟨bo,0,none⟩) k vc,_,vi ((k - 1:Nat):Int),_,_,vi pk.2,_,_,_,undef,undef,undef,undef,undef,undef,undef,undef,undef,_,_] H (aB (Z0 rfl (Rf jJ rfl)) (Z1 0 53 rfl (Ro aD 0 rfl)) (Z1 1 54 rfl (Rc rfl)) (Z1 2 55 rfl (Rm rfl)) (aB (Z1 3 56 rfl (YM (aC c1) rfl)) (Z2 4 57 3 56 rfl (YC (aC c1) rfl)) (Z2 3 56 5 58 rfl (Pt (aC c1) rfl)) (Z1 6 59 rfl (Rm rfl)) (aB ?_ (Z1 7 60 rfl (YM (aC c2) rfl)) ?_ (Z3 8 61 10 63 7 60 rfl (YI gQ dL (aC c2) rfl rfl)) (aB (Z2 11 64 7 60 rfl (YF jJ (aC c2) rfl)) ?_ (Z2 13 66 7 60 rfl (YC (aC c2) rfl)) (Z2 7 60 14 67 rfl (Pt (aC c2) rfl)) (aB (Z1 15 68 rfl (Rm rfl)) (aN (j:=16) (by kernel_rfl) (fun _ _ _ _ _ h=>h) rfl rfl rfl rfl rfl (fun _ _ h=>aO h (aG (aM c3))) rfl (fun _=>rfl)) (aN (j:=16) (by kernel_rfl) (fun _ _ _ _ _ h=>h) rfl rfl rfl rfl rfl (fun _ _ h=>aO h (aG (aM c3))) rfl (fun _=>rfl)) (aN (j:=16) (by kernel_rfl) (fun _ _ _ _ _ h=>h) rfl rfl rfl rfl rfl (fun _ _ h=>aO h (aG (aM c3))) rfl (fun _=>rfl)) (aB (aN (j:=16) (by kernel_rfl) (fun _ _ _ _ _ h=>h) rfl rfl rfl rfl rfl (fun _ _ h=>aO h (aG (aM c3))) rfl (fun _=>rfl)) (aN (j:=16) (by kernel_rfl) (fun _ _ _ _ _ h=>h) rfl rfl rfl rfl rfl (fun _ _ h=>aO h (aG (aM c3))) rfl (fun _=>rfl)) (aN (j:=16) (by kernel_rfl) (fun _ _ _ _ _ h=>h) rfl rfl rfl rfl rfl (fun _ _ h=>aO h (aG (aM c3))) rfl (fun _=>rfl)) (aN (j:=16) (by kernel_rfl) (fun _ _ _ _ _ h=>h) rfl rfl rfl rfl rfl (fun _ _ h=>aO h (aG (aM c3))) rfl (fun _=>rfl)) (aB (aN (j:=16) (by kernel_rfl) (fun _ _ _ _ _ h=>h) rfl rfl rfl rfl rfl (fun _ _ h=>aO h (aG (aM c3))) rfl (fun _=>rfl)) (aN (j:=16) (by kernel_rfl) (fun _ _ _ _ _ h=>h) rfl rfl rfl rfl rfl (fun _ _ h=>aO h (aG (aM c3))) rfl (fun _=>rfl)) (Z2 16 69 25 78 rfl (Pf (aM c3) rfl)) (Z1 26 79 rfl (Ra rfl)) bW))))))) ?_
    ·refine dw 7 60 rfl rfl fun _ a w G1 hG HT H fin=>?_;refine kH H (YM (aC c2) rfl ?_);clear H;intro a H;exact fin H iJ (by show _=_;first|rfl|exact ay (fun A=>Value.slice A k vc) (Exists.elim (xV c2) fun _ h=>h.1))
    ·refine cB 9 62 7 60 rfl rfl fun _ a w G1 hG HT H fin=>?_;refine mq _ H (wg H rfl rfl (aC c2)) rfl rfl rfl (by omega) (by omega) rfl ?_;clear H;intro a H;exact fin H iJ (by show _=_;first|rfl|exact ay vi (by omega))
    ·refine cB 12 65 7 60 rfl rfl fun _ a w G1 hG HT H fin=>?_;obtain ⟨_,rfl,_,hkd,_⟩:=xV c2;refine nX aD H (wg H rfl rfl (aC c2)) rfl (hrw.at H.hp (fun x hx=>kr _ hx) (by rw [ko];exact hkd)) rfl ?_;clear H;intro a H;exact fin H iJ rfl
    clear H;intro a w G jv H hv;have H:=H.aS (hv 27 52 rfl rfl) rfl;clear hv;refine aH ⟨rfl,?_⟩;refine bQ _ _ ?_;clear bQ;refine lF H rfl rfl ?_;refine kP H (SC (Rm rfl ?_));clear H;intro a H;refine bJ dL (cs:=[_,_,_,_,_,_,_,_,_,_,_]) H wn rfl rfl (H.hp.dZ 0 rfl rfl) rfl ?_;clear H;intro a H;refine gP gQ dL [_,_,_,_,_,_,_,_,_,_,_] [_,_,_,_,_,_,_,_,_,_,_] H wn rfl rfl rfl rfl rfl (by intro i q h;match i,h with|0,h=>exact h|n+1,h=>simp at h) rfl rfl ?_;clear H;intro KS a w M8 H;refine pR (Li:=[_,_]) (Lo:=Lo) (news:=vZ) gQ dL rfl rfl H wn rfl rfl hrw (by rw [rP];rfl) (by rw [rP];exact H.hp.dZ 0 rfl rfl) zK.one (by omega) (by omega) rfl ?_;clear H;intro v31 BL a w Cy H;refine kH H (aU K7 rfl (SC (Rd rfl (Rm rfl ?_))));clear H K7;intro a H;refine aH ?_;refine dD ((k+1,v31,xs++vZ,BL,G)) (by exact (H.dU (Pl:=[_,_]) (dx:=[]) [] (by decide) rfl).sub ⟨rfl,rfl,rfl,rfl,aF⟩) ?_ ?_
    ·(try dsimp only);exact ⟨by omega,Cy,by rw [hA1];exact (jl.mono (fun b o h=>jv b o (qM b o (pO b o (pK b o (qK b o h)))))).snoc (zK.mono jv) (by rw [rP];rfl),fun b o h=>jv b o (qM b o (pO b o (pK b o (qK b o (hgm b o h)))))⟩
    first|omega|(dsimp only;omega)
   skip;refine dI hmx [[],[0],[0,1],[0,1,2],(ra 0 4),(ra 0 5),(ra 0 6),(ra 0 7),(ra 0 8),(ra 0 8),(ra 0 8++[9]),(ra 0 11),(ra 0 12),(ra 0 13),(ra 0 14),(ra 0 15),(ra 0 16),(ra 0 17),(ra 0 17),(ra 0 17++[18]),(ra 0 20),(ra 0 21),(ra 0 22),(ra 0 17),(ra 0 17++[23]),(ra 0 25),(ra 0 26),(ra 0 27)] [] (by kernel_rfl) [_,vi l[k].kind,_,_,_,_,_,_,undef,undef,undef,undef,undef,undef,undef,_,_,undef,undef,undef,undef,undef,undef,undef,undef,undef,_,_] H (aB (Z0 rfl (Rf jJ rfl)) (Z1 0 53 rfl (Ro aD 0 rfl)) (Z1 1 54 rfl (Rc rfl)) (Z1 2 55 rfl (Rm rfl)) (aB (Z1 3 56 rfl (YM (aC c1) rfl)) (Z2 4 57 3 56 rfl (YC (aC c1) rfl)) (Z2 3 56 5 58 rfl (Pt (aC c1) rfl)) (Z1 6 59 rfl (Rm rfl)) (aB (aN (j:=7) (by kernel_rfl) (fun _ _ _ _ _ h=>h) rfl rfl rfl rfl rfl (fun _ _ h=>aO h (aG (aM c2))) rfl (fun _=>rfl)) (aN (j:=7) (by kernel_rfl) (fun _ _ _ _ _ h=>h) rfl rfl rfl rfl rfl (fun _ _ h=>aO h (aG (aM c2))) rfl (fun _=>rfl)) (aN (j:=7) (by kernel_rfl) (fun _ _ _ _ _ h=>h) rfl rfl rfl rfl rfl (fun _ _ h=>aO h (aG (aM c2))) rfl (fun _=>rfl)) (aN (j:=7) (by kernel_rfl) (fun _ _ _ _ _ h=>h) rfl rfl rfl rfl rfl (fun _ _ h=>aO h (aG (aM c2))) rfl (fun _=>rfl)) (aB (aN (j:=7) (by kernel_rfl) (fun _ _ _ _ _ h=>h) rfl rfl rfl rfl rfl (fun _ _ h=>aO h (aG (aM c2))) rfl (fun _=>rfl)) (aN (j:=7) (by kernel_rfl) (fun _ _ _ _ _ h=>h) rfl rfl rfl rfl rfl (fun _ _ h=>aO h (aG (aM c2))) rfl (fun _=>rfl)) (aN (j:=7) (by kernel_rfl) (fun _ _ _ _ _ h=>h) rfl rfl rfl rfl rfl (fun _ _ h=>aO h (aG (aM c2))) rfl (fun _=>rfl)) (Z2 7 60 14 67 rfl (Pf (aM c2) rfl)) (aB (Z1 15 68 rfl (Rm rfl)) (aN (j:=16) (by kernel_rfl) (fun _ _ _ _ _ h=>h) rfl rfl rfl rfl rfl (fun _ _ h=>aO h (aG rfl)) rfl (fun _=>rfl)) (aN (j:=16) (by kernel_rfl) (fun _ _ _ _ _ h=>h) rfl rfl rfl rfl rfl (fun _ _ h=>aO h (aG rfl)) rfl (fun _=>rfl)) (aN (j:=16) (by kernel_rfl) (fun _ _ _ _ _ h=>h) rfl rfl rfl rfl rfl (fun _ _ h=>aO h (aG rfl)) rfl (fun _=>rfl)) (aB (aN (j:=16) (by kernel_rfl) (fun _ _ _ _ _ h=>h) rfl rfl rfl rfl rfl (fun _ _ h=>aO h (aG rfl)) rfl (fun _=>rfl)) (aN (j:=16) (by kernel_rfl) (fun _ _ _ _ _ h=>h) rfl rfl rfl rfl rfl (fun _ _ h=>aO h (aG rfl)) rfl (fun _=>rfl)) (aN (j:=16) (by kernel_rfl) (fun _ _ _ _ _ h=>h) rfl rfl rfl rfl rfl (fun _ _ h=>aO h (aG rfl)) rfl (fun _=>rfl)) (aN (j:=16) (by kernel_rfl) (fun _ _ _ _ _ h=>h) rfl rfl rfl rfl rfl (fun _ _ h=>aO h (aG rfl)) rfl (fun _=>rfl)) (aB (aN (j:=16) (by kernel_rfl) (fun _ _ _ _ _ h=>h) rfl rfl rfl rfl rfl (fun _ _ h=>aO h (aG rfl)) rfl (fun _=>rfl)) (aN (j:=16) (by kernel_rfl) (fun _ _ _ _ _ h=>h) rfl rfl rfl rfl rfl (fun _ _ h=>aO h (aG rfl)) rfl (fun _=>rfl)) (Z2 16 69 25 78 rfl (Pf rfl rfl)) (Z1 26 79 rfl (Ra rfl)) bW))))))) ?_
   clear H;intro a w G jv H hv;have H:=H.aS (hv 27 52 rfl rfl) rfl;clear hv;refine aH ⟨rfl,?_⟩;refine bQ _ _ ?_;clear bQ;refine lF H rfl rfl ?_;refine kP H (SC (Rm rfl ?_));clear H;intro a H;refine bJ dL (cs:=[_,_,_,_,_,_,_,_,_,_,_]) H wn rfl rfl (H.hp.dZ 0 rfl rfl) rfl ?_;clear H;intro a H;refine gP gQ dL [_,_,_,_,_,_,_,_,_,_,_] [_,_,_,_,_,_,_,_,_,_,_] H wn rfl rfl rfl rfl rfl (by intro i q h;match i,h with|0,h=>exact h|n+1,h=>simp at h) rfl rfl ?_;clear H;intro KS a w M8 H;refine pR (Li:=[_,_]) (Lo:=Lo) (news:=vZ) gQ dL rfl rfl H wn rfl rfl hrw (by rw [rP];rfl) (by rw [rP];exact H.hp.dZ 0 rfl rfl) zK.one (by omega) (by omega) rfl ?_;clear H;intro v31 BL a w Cy H;refine kH H (aU K7 rfl (SC (Rd rfl (Rm rfl ?_))));clear H K7;intro a H;refine aH ?_;refine dD ((k+1,v31,xs++vZ,BL,G)) (by exact (H.dU (Pl:=[_,_]) (dx:=[]) [] (by decide) rfl).sub ⟨rfl,rfl,rfl,rfl,aF⟩) ?_ ?_
   ·(try dsimp only);exact ⟨by omega,Cy,by rw [hA1];exact (jl.mono (fun b o h=>jv b o (qM b o (pO b o (pK b o (qK b o h)))))).snoc (zK.mono jv) (by rw [rP];rfl),fun b o h=>jv b o (qM b o (pO b o (pK b o (qK b o (hgm b o h)))))⟩
   first|omega|(dsimp only;omega)
  intro h46
  try have p46:=dF h46
  refine kH H (aY h46 rfl ?_);clear H;intro a H;refine JW H (wg H rfl rfl rfl) rfl h46 rfl rfl ?_;clear H;intro a H;refine kH H (Pf rfl rfl (ak bN rfl (Cf rfl rfl (SQ fun _ dJ=>?_))));clear H bN;intro a H;obtain ⟨vZ,rP⟩:∃ x,x=[vi l[k].kind,vi l[k].code,vi l[k].id,.string l[k].text,.slice a1 a2 a3,vi l[k].head.marks.ins,vi l[k].head.marks.move,.slice a4 a5 a6,.slice a7 a8 a9,.slice Hf n19 c19,.slice PI n24 c24]:=⟨_,rfl⟩
  have zK:aX Hu l[k].dat vZ:=by
   rw [rP];exact aX.mkItem (Ei.mono fun b o h=>qM b o (pO b o (pK b o h))) (by rw [e1];exact Ns.mono fun b o h=>qM b o (pO b o h)) (by rw [e2];exact Nt)
  have hA1:(l.map aA.dat).take (k+1)=(l.map aA.dat).take k++[l[k].dat]:=by rw [jB (by simpa using hk2)];simp
  have Nf:=jl.mono fun b o h=>qM b o (pO b o (pK b o (qK b o h)))
  obtain ⟨bo,pk,pp,pd,pl,xV⟩:∃ (bo:Nat) (pk:gZ × Int) (pp pd pl:aj),0 < (k:Int)→∃ (h:k - 1 < l.length),vA=some ⟨bo,0,none⟩∧pk=(l[k - 1].head,l[k - 1].kind)∧xs[(k - 1)*11]?=some (vi pk.2)∧jm Hu pk.1 pp pd pl∧∀ j u,[pp,vi pk.1.marks.ins,vi pk.1.marks.move,pd,pl][j]?=some u→xs[(k - 1)*11+4+j]?=some u:=by
   by_cases h0:0 < k
   ·obtain ⟨bo,Nc⟩:=hrw.ptr h0;obtain ⟨cs,hcl,hcx,hcr⟩:=Nf.at (k:=k - 1) (r:=l[k - 1].dat) (by rw [sH,au (by omega)];simp [show k - 1 < l.length by omega]);obtain ⟨qA,qn,qc,sA,sn,sc,tA,tn,tc,fA2,fn2,fc2,rA2,rn2,rc2,rfl,hh,-,-⟩:=hcr.item;refine ⟨bo,(l[k - 1].head,l[k - 1].kind),.slice qA qn qc,.slice sA sn sc,.slice tA tn tc,fun _=>⟨by omega,Nc,rfl,hcx 0 _ rfl,hh,fun j u hj=>?_⟩⟩;rw [Nat.add_assoc]
    exact hcx (4+j) u (by
     match j,hj with
     | 0,hj=>exact hj
     | 1,hj=>exact hj
     | 2,hj=>exact hj
     | 3,hj=>exact hj
     | 4,hj=>exact hj)
   exact ⟨0,(⟨[],⟨0,0,[],[]⟩⟩,0),.slice none 0 0,.slice none 0 0,.slice none 0 0,fun h=>by omega⟩
  have T9:l[k].kind=1→0 < (k:Int)→pk.2=1→¬ pk.1=l[k].head:=by
   intro c1 c2 c3 e;obtain ⟨hk1,-,hpk,-⟩:=xV c2;have hjk:=hj (k - 1) (by omega);rw [hpk] at e c3
   simp only [show k - 1+1=k by omega] at hjk
   exact hjk ⟨c3,c1,e⟩
  have c1:¬ (l[k].kind=1):=p46;refine dI hmx [[],[0],[0,1],[0,1,2],(ra 0 4),(ra 0 5),(ra 0 6),(ra 0 7),(ra 0 8),(ra 0 8),(ra 0 8++[9]),(ra 0 11),(ra 0 12),(ra 0 13),(ra 0 14),(ra 0 15),(ra 0 16),(ra 0 17),(ra 0 17),(ra 0 17++[18]),(ra 0 20),(ra 0 21),(ra 0 22),(ra 0 17),(ra 0 17++[23]),(ra 0 25),(ra 0 26),(ra 0 27)] [] (by kernel_rfl) [_,vi l[k].kind,_,_,undef,undef,_,_,undef,undef,undef,undef,undef,undef,undef,_,_,undef,undef,undef,undef,undef,undef,undef,undef,undef,_,_] H (aB (Z0 rfl (Rf jJ rfl)) (Z1 0 53 rfl (Ro aD 0 rfl)) (Z1 1 54 rfl (Rc rfl)) (Z1 2 55 rfl (Rm rfl)) (aB (aN (j:=3) (by kernel_rfl) (fun _ _ _ _ _ h=>h) rfl rfl rfl rfl rfl (fun _ _ h=>aO h (aG (aM c1))) rfl (fun _=>rfl)) (aN (j:=3) (by kernel_rfl) (fun _ _ _ _ _ h=>h) rfl rfl rfl rfl rfl (fun _ _ h=>aO h (aG (aM c1))) rfl (fun _=>rfl)) (Z2 3 56 5 58 rfl (Pf (aM c1) rfl)) (Z1 6 59 rfl (Rm rfl)) (aB (aN (j:=7) (by kernel_rfl) (fun _ _ _ _ _ h=>h) rfl rfl rfl rfl rfl (fun _ _ h=>aO h (aG rfl)) rfl (fun _=>rfl)) (aN (j:=7) (by kernel_rfl) (fun _ _ _ _ _ h=>h) rfl rfl rfl rfl rfl (fun _ _ h=>aO h (aG rfl)) rfl (fun _=>rfl)) (aN (j:=7) (by kernel_rfl) (fun _ _ _ _ _ h=>h) rfl rfl rfl rfl rfl (fun _ _ h=>aO h (aG rfl)) rfl (fun _=>rfl)) (aN (j:=7) (by kernel_rfl) (fun _ _ _ _ _ h=>h) rfl rfl rfl rfl rfl (fun _ _ h=>aO h (aG rfl)) rfl (fun _=>rfl)) (aB (aN (j:=7) (by kernel_rfl) (fun _ _ _ _ _ h=>h) rfl rfl rfl rfl rfl (fun _ _ h=>aO h (aG rfl)) rfl (fun _=>rfl)) (aN (j:=7) (by kernel_rfl) (fun _ _ _ _ _ h=>h) rfl rfl rfl rfl rfl (fun _ _ h=>aO h (aG rfl)) rfl (fun _=>rfl)) (aN (j:=7) (by kernel_rfl) (fun _ _ _ _ _ h=>h) rfl rfl rfl rfl rfl (fun _ _ h=>aO h (aG rfl)) rfl (fun _=>rfl)) (Z2 7 60 14 67 rfl (Pf rfl rfl)) (aB (Z1 15 68 rfl (Rm rfl)) (aN (j:=16) (by kernel_rfl) (fun _ _ _ _ _ h=>h) rfl rfl rfl rfl rfl (fun _ _ h=>aO h (aG rfl)) rfl (fun _=>rfl)) (aN (j:=16) (by kernel_rfl) (fun _ _ _ _ _ h=>h) rfl rfl rfl rfl rfl (fun _ _ h=>aO h (aG rfl)) rfl (fun _=>rfl)) (aN (j:=16) (by kernel_rfl) (fun _ _ _ _ _ h=>h) rfl rfl rfl rfl rfl (fun _ _ h=>aO h (aG rfl)) rfl (fun _=>rfl)) (aB (aN (j:=16) (by kernel_rfl) (fun _ _ _ _ _ h=>h) rfl rfl rfl rfl rfl (fun _ _ h=>aO h (aG rfl)) rfl (fun _=>rfl)) (aN (j:=16) (by kernel_rfl) (fun _ _ _ _ _ h=>h) rfl rfl rfl rfl rfl (fun _ _ h=>aO h (aG rfl)) rfl (fun _=>rfl)) (aN (j:=16) (by kernel_rfl) (fun _ _ _ _ _ h=>h) rfl rfl rfl rfl rfl (fun _ _ h=>aO h (aG rfl)) rfl (fun _=>rfl)) (aN (j:=16) (by kernel_rfl) (fun _ _ _ _ _ h=>h) rfl rfl rfl rfl rfl (fun _ _ h=>aO h (aG rfl)) rfl (fun _=>rfl)) (aB (aN (j:=16) (by kernel_rfl) (fun _ _ _ _ _ h=>h) rfl rfl rfl rfl rfl (fun _ _ h=>aO h (aG rfl)) rfl (fun _=>rfl)) (aN (j:=16) (by kernel_rfl) (fun _ _ _ _ _ h=>h) rfl rfl rfl rfl rfl (fun _ _ h=>aO h (aG rfl)) rfl (fun _=>rfl)) (Z2 16 69 25 78 rfl (Pf rfl rfl)) (Z1 26 79 rfl (Ra rfl)) bW))))))) ?_
  clear H;intro a w G jv H hv;have H:=H.aS (hv 27 52 rfl rfl) rfl;clear hv;refine aH ⟨rfl,?_⟩;refine dJ _ _ ?_;clear dJ;refine lF H rfl rfl ?_;refine kP H (SC (Rm rfl ?_));clear H;intro a H;refine bJ dL (cs:=[_,_,_,_,_,_,_,_,_,_,_]) H wn rfl rfl (H.hp.dZ 0 rfl rfl) rfl ?_;clear H;intro a H;refine gP gQ dL [_,_,_,_,_,_,_,_,_,_,_] [_,_,_,_,_,_,_,_,_,_,_] H wn rfl rfl rfl rfl rfl (by intro i q h;match i,h with|0,h=>exact h|n+1,h=>simp at h) rfl rfl ?_;clear H;intro KS a w M8 H;refine pR (Li:=[_,_]) (Lo:=Lo) (news:=vZ) gQ dL rfl rfl H wn rfl rfl hrw (by rw [rP];rfl) (by rw [rP];exact H.hp.dZ 0 rfl rfl) zK.one (by omega) (by omega) rfl ?_;clear H;intro v31 BL a w Cy H;refine kH H (aU K7 rfl (SC (Rd rfl (Rm rfl ?_))));clear H K7;intro a H;refine aH ?_;refine dD ((k+1,v31,xs++vZ,BL,G)) (by exact (H.dU (Pl:=[_,_]) (dx:=[]) [] (by decide) rfl).sub ⟨rfl,rfl,rfl,rfl,aF⟩) ?_ ?_
  ·(try dsimp only);exact ⟨by omega,Cy,by rw [hA1];exact (jl.mono (fun b o h=>jv b o (qM b o (pO b o (pK b o (qK b o h)))))).snoc (zK.mono jv) (by rw [rP];rfl),fun b o h=>jv b o (qM b o (pO b o (pK b o (qK b o (hgm b o h)))))⟩
  first|omega|(dsimp only;omega)
 intro h10 a H
 try have lM:=dF h10
 refine dV ?_;refine K3 _ _ ?_;clear K3;refine bg (fun _ dG=>?_);obtain ⟨G',hm,hrep,H⟩:=H.uy (Li:=[]) hrw (rows:=l.map aA.dat) (by simp;omega) (by rw [jH (by simp;omega)] at jl;exact jl);exact kP H (SC (Rm rfl (aU dG rfl (LR results44 rfl fun H=>H.rt hrep))))
end
section
open Go.RowKit
end
section
open Go.RowKit
end
section
open Go.RowKit
end
section
open Go.RowKit
theorem ajm (l m:List aA):bA (l++m)=bA l+bA m:=by simp [bA,O6]
end
section
open Go.RowKit
end
section
open Go.RowKit
end
section
open Go.RowKit
theorem abx:∀ args w,(callFunc 42 args).run prog w=.ok (.enter 42 args) w:=enters func42 rfl (by kernel_rfl)
theorem Sc:∀ args w,(callFunc 43 args).run prog w=.ok (.enter 43 args) w:=enters func43 rfl (by kernel_rfl)
def zO (l:List aA) (fr to:Int):Int:=if wS l=0 then (if fr < 0∨to < fr∨xX l < to then 2 else 0) else wS l
theorem ZC (G:GH) (w0:World) (hG:Hold G w0) (l:List aA) (fr to:Int) (v:aj) (hv:av G (.sl 11 (l.map aA.dat)) v) (hz:bA l≤4294967296) :
  Calls prog 42 #[v,vi fr,vi to] w0 (bD w0 G fun u G'=>u=vi (zO l fr to)):=by
 refine eN [(0,_),(1,_),(2,_)] func42 rfl ntmps42 rfl rfl hG ?_;intro a H;refine kP H (SR fun _ K1=>ak K1 rfl (SR fun _ K2=>Rm rfl ?_));clear H K1;intro a H;refine s_call R9 H wn rfl (U4 _ _ H.ro l v hv hz) rfl ?_;clear H;rintro v11 _ a w ⟨rfl,rfl⟩ - H;refine kH H (Rm rfl ?_);clear H;intro a H;(iterate 2 refine lQ H wn rfl rfl rfl ?_;clear H;intro a H);refine kH H (Ra rfl (ak K2 rfl (SQ fun _ K3=>SB (SR fun _ K4=>Rm rfl (Rc rfl (ak K4 rfl (Cd rfl ?_ ?_))))))) <;> clear H K2 K4
 ·intro dP a H
  try have mo:=dT dP
  exact kP H (SR fun _ K5=>Rm rfl (ak K5 rfl (LR results42 rfl fun H=>H.rt (by rw [zO,ah mo]))))
 intro dP a H
 try have mo:=dF dP
 refine kP H (SR fun _ K6=>Rm rfl (Rc rfl (Rm rfl (Sp 21 rfl ?_ ?_)))) <;> clear H
 ·intro h21 a H
  try have qw:=dT h21
  refine kH H (aY h21 rfl (Pt h21 rfl (Rm rfl (aY rfl rfl (Pt rfl rfl (ak K6 rfl (Ct rfl rfl (SR fun _ K7=>ak K7 rfl ?_))))))));clear H K6 K7;intro a H;refine lr H results42 rfl ?_
  have h0:wS l=0:=by omega
  refine H.rt ?_;rw [zO,au h0]
  first
   | (rw [au (by omega)];done)
   | (rw [ah (by omega)];done)
 intro h21 a H
 try have qw:=dF h21
 refine kH H (YM h21 rfl (YM h21 rfl (YC h21 rfl (Pf h21 rfl (Rm rfl (Sp 26 rfl ?_ ?_)))))) <;> clear H
 ·intro fU a H
  try have p26:=dT fU
  refine kH H (aY fU rfl (Pt fU rfl (ak K6 rfl (Ct rfl rfl (SR fun _ K8=>ak K8 rfl ?_)))));clear H K6 K8;intro a H;refine lr H results42 rfl ?_
  have h0:wS l=0:=by omega
  refine H.rt ?_;rw [zO,au h0]
  first
   | (rw [au (by omega)];done)
   | (rw [ah (by omega)];done)
 intro fU a H
 try have p26:=dF fU
 refine kH H (YM fU rfl (YM fU rfl (YC fU rfl (Pf fU rfl (ak K6 rfl (Cd rfl ?_ ?_)))))) <;> clear H K6
 ·intro h18 a H
  try have vH:=dT h18
  refine kP H (SR fun _ K9=>ak K9 rfl ?_);clear H K9;intro a H;refine lr H results42 rfl ?_
  have h0:wS l=0:=by omega
  refine H.rt ?_;rw [zO,au h0]
  first
   | (rw [au (by omega)];done)
   | (rw [ah (by omega)];done)
 intro h18 a H
 try have vH:=dF h18
 refine kP H (Kc K3 (SR fun _ aT=>ak aT rfl ?_));clear H K3 aT;intro a H;refine lr H results42 rfl ?_
 have h0:wS l=0:=by omega
 refine H.rt ?_;rw [zO,au h0]
 first
  | (rw [au (by omega)];done)
  | (rw [ah (by omega)];done)
def QD (m:List aA):Prop:=Fb m∧∀ x∈m,QC x
theorem He:∀ {m l:List aA},m.Sublist l→bA m≤bA l
 | _,_,.slnil=>bK _
 | _,_,.cons a h=>by have:=He h;simp only [bA,dY,eB] at *;omega
 | _,_,.cons_cons a h=>by have:=He h;simp only [bA,dY,eB] at *;omega
theorem Oa:∀ (l:List aA) (o:Nat),(gu o l).map (·.2)=l
 | [],_=>rfl
 | x :: l,o=>by simp [gu,Oa l]
theorem afI (t:Int) (l:List aA):(uJ t l).Sublist l:=by
 have h:(lA t (gu 0 l)).Sublist ((gu 0 l).map (·.2)):=List.Sublist.map _ List.filter_sublist
 rwa [Oa] at h
theorem agZ (t:Int) (l:List aA):(Bh t l).Sublist l:=by
 have h:(rA t (gu 0 l)).Sublist ((gu 0 l).map (·.2)):=List.Sublist.map _ List.filter_sublist
 rwa [Oa] at h
def Hl (t:Int) (l:List aA):Prop:=∀ a∈gu 0 l,vC t a=true∨t≤a.1
theorem ahW (G:GH) (w0:World) (hG:Hold G w0) (l:List aA) (fr to:Int) (v:aj) (hv:av G (.sl 11 (l.map aA.dat)) v) (hz:bA l≤1073741824) (hr:zO l fr to=0)
  (h1:Hl to l) (h2:Hl fr (uJ to l)) (hp:QD (Bh fr (uJ to l))) :
  Calls prog 19 #[v,vi fr,vi to] w0 (bD w0 G fun u G'=>∃ x,u=.tuple #[x,vi 0]∧av G' (.sl 11 ((Bh fr (uJ to l)).map aA.dat)) x):=by
 have z1:=He (afI to l);have z2:=He (agZ fr (uJ to l));refine eN [(0,_),(1,_),(2,_)] func19 rfl ntmps19 rfl rfl hG ?_;intro a H;refine kP H (SR fun _ K1=>Ra rfl (ak K1 rfl (SQ fun _ K2=>SR fun _ K3=>Rm rfl (Rm rfl (Rm rfl ?_)))));clear H K1;intro a H;refine s_call abx H wn rfl (ZC _ _ H.ro l fr to v hv (by omega)) rfl ?_;clear H;rintro v16 qB a w rfl qL H;rw [hr] at H;refine kH H (ak K3 rfl (SR fun _ K4=>Rm rfl (Rc rfl (Kz K4 (Cd rfl ?_ ?_))))) <;> clear H K3 K4
 ·intro h18 a H
  exact absurd h18 (by decide)
 intro h18 a H
 try have vH:=dF h18
 refine kP H (Kc K2 (SR fun _ K5=>Rm rfl (Rm rfl ?_)));clear H K2;intro a H;refine s_call Sc H wn rfl (RO _ _ H.ro l to v (hv.mono qL) hz h1) rfl ?_;clear H;rintro v23 Kw a w ⟨x,y,rfl,hx,hy⟩ pO H;refine kH H (Rm rfl ?_);clear H;intro a H;(iterate 2 refine lQ H wn rfl rfl rfl ?_;clear H;intro a H);refine kH H (Ra rfl (ak K5 rfl (SR fun _ K6=>Rm rfl (Rm rfl ?_))));clear H K5;intro a H;refine s_call Sc H wn rfl (RO _ _ H.ro (uJ to l) fr x hx (by omega) h2) rfl ?_;clear H;rintro v29 PY a w ⟨x2,y2,rfl,hx2,hy2⟩ ajW H;refine kH H (Rm rfl ?_);clear H;intro a H;(iterate 2 refine lQ H wn rfl rfl rfl ?_;clear H;intro a H);refine kH H (Ra rfl (ak K6 rfl (SR fun _ K7=>Rm rfl ?_)));clear H K6;intro a H;refine s_call Sd H wn rfl (agm _ _ H.ro _ y2 hy2 hp.1 hp.2 (by omega)) rfl ?_;clear H;rintro v33 XR a w Ud ajX H;obtain ⟨A33,n33,c33,rfl⟩:=Ud.form;refine kH H (Ra rfl (ak K7 rfl ?_));clear H K7;intro a H;refine bZ ?_;refine (eT H results19 (.cons (aR H rfl) (.cons (aR H rfl) .nil)) ?_).1;exact H.rt ⟨_,rfl,Ud⟩
end
section
open Go.RowKit
abbrev hd0:gZ:=⟨[],⟨0,0,[],[]⟩⟩
theorem Ja {G:GH}:jm G hd0 (.slice none 0 0) (.slice none 0 0) (.slice none 0 0):=⟨av.jf rfl (by decide),av.jf rfl (by decide),av.jf rfl (by decide)⟩
end
section
open Go.RowKit
theorem ain:ou prog 63 [(0,1),(1,1),(2,1),(3,1),(4,5),(9,1),(10,1)] [.int .i64 0,.int .i64 0,.int .i64 0,.string ⟨#[]⟩,.slice none 0 0,.int .i64 0,.int .i64 0,.slice none 0 0,.slice none 0 0,.slice none 0 0,.slice none 0 0]:=⟨by kernel_rfl,by kernel_rfl⟩
theorem aik:ou prog 38 [(0,1),(1,5),(6,1),(7,4)] [.slice none 0 0,.slice none 0 0,.int .i64 0,.int .i64 0,.slice none 0 0,.slice none 0 0,.slice none 0 0,.slice none 0 0,.slice none 0 0,.slice none 0 0,.slice none 0 0]:=⟨by kernel_rfl,by kernel_rfl⟩
theorem abA:∀ args w,(callFunc 48 args).run prog w=.ok (.enter 48 args) w:=enters func48 rfl (by kernel_rfl)
theorem abq:∀ args w,(callFunc 26 args).run prog w=.ok (.enter 26 args) w:=enters func26 rfl (by kernel_rfl)
theorem abn:∀ args w,(callFunc 17 args).run prog w=.ok (.enter 17 args) w:=enters func17 rfl (by kernel_rfl)
theorem abo:∀ args w,(callFunc 19 args).run prog w=.ok (.enter 19 args) w:=enters func19 rfl (by kernel_rfl)
theorem aiK:Ty prog 121 2 32 [.pointer none,.slice none 0 0] true:=⟨by kernel_rfl,by kernel_rfl⟩
theorem Sb:∀ args w,(callFunc 31 args).run prog w=.ok (.enter 31 args) w:=enters func31 rfl (by kernel_rfl)
theorem abr:∀ args w,(callFunc 27 args).run prog w=.ok (.enter 27 args) w:=enters func27 rfl (by kernel_rfl)
theorem Pj:oP ⟨#[120,121,122]⟩=true∧pz ⟨#[120,121,122]⟩ 0=3:=by
 have d0:lG ⟨#[120,121,122]⟩ 0=(120,1,true):=by decide
 have d1:lG ⟨#[120,121,122]⟩ 1=(121,1,true):=by decide
 have d2:lG ⟨#[120,121,122]⟩ 2=(122,1,true):=by decide
 have e3:mY ⟨#[120,121,122]⟩ 3=-1:=by rw [mY,dif_neg (by decide)]
 have e2:mY ⟨#[120,121,122]⟩ 2=-1:=by rw [mY,dif_pos (by decide),dif_pos (by rw [d2]),d2];exact e3
 have e1:mY ⟨#[120,121,122]⟩ 1=-1:=by rw [mY,dif_pos (by decide),dif_pos (by rw [d1]),d1];exact e2
 have e0:mY ⟨#[120,121,122]⟩ 0=-1:=by rw [mY,dif_pos (by decide),dif_pos (by rw [d0]),d0];exact e1
 have c3:pz ⟨#[120,121,122]⟩ 3=0:=by rw [pz,ah (by decide)]
 have c2:pz ⟨#[120,121,122]⟩ 2=1:=by rw [pz,au (by decide),c3];decide
 have c1:pz ⟨#[120,121,122]⟩ 1=2:=by rw [pz,au (by decide),c2];decide
 have c0:pz ⟨#[120,121,122]⟩ 0=3:=by rw [pz,au (by decide),c1];decide
 exact ⟨by unfold oP;rw [e0];decide,c0⟩
theorem aiJ:oP ⟨#[97]⟩=true:=by
 have d0:lG ⟨#[97]⟩ 0=(97,1,true):=by decide
 have e1:mY ⟨#[97]⟩ 1=-1:=by rw [mY,dif_neg (by decide)]
 have e0:mY ⟨#[97]⟩ 0=-1:=by rw [mY,dif_pos (by decide),dif_pos (by rw [d0]),d0];exact e1
 unfold oP;rw [e0];decide
theorem WW:oP ⟨#[]⟩=true:=by
 have e0:mY ⟨#[]⟩ 0=-1:=by rw [mY,dif_neg (by decide)]
 unfold oP;rw [e0];decide
def lS:aA:=.mk 8 1 1 ⟨#[97]⟩ hd0 [] []
def kT:aA:=.mk 1 0 0 ⟨#[120,121,122]⟩ hd0 [] []
def ny:aA:=.mk 8 2 1 ⟨#[]⟩ hd0 [] []
def nK:aA:=.mk 2 0 0 ⟨#[]⟩ hd0 [] []
def jW:List aA:=[lS,kT,ny,nK]
theorem Bv:fD kT=3∧qz kT=0:=by simp [fD,qz,kT,aA.kind,aA.text,uZ,EO,Pj.1,Pj.2]
theorem yF:fD lS=1∧qz lS=0:=by simp [fD,qz,lS,aA.kind]
theorem EL:fD ny=1∧qz ny=0:=by simp [fD,qz,ny,aA.kind]
theorem Pm:fD nK=1∧qz nK=0:=by simp [fD,qz,nK,aA.kind]
theorem agd:n1 kT=3:=by simp [n1,Bv.1,Bv.2]
theorem agc:n1 lS=1:=by simp [n1,yF.1,yF.2]
theorem agb:n1 ny=1:=by simp [n1,EL.1,EL.2]
theorem a16:iF 0 0 jW=[⟨1,1,⟨#[97]⟩,0,0⟩,⟨2,1,⟨#[]⟩,0,4⟩]:=by
 simp only [jW,iF,QG,agd,agc,agb]
 simp [lS,kT,ny,nK,aA.kind,aA.code,aA.id,aA.text]
theorem Wx:yB (iF 0 0 jW) 1=[⟨1,⟨#[97]⟩,0,1,0,4⟩]:=by
 rw [a16]
 simp [yB,rT,nR,zW,Ar]
theorem adj:FQ jW ⟨#[97]⟩=some ⟨1,⟨#[97]⟩,0,1,0,4⟩:=by
 unfold FQ;rw [Wx];simp
theorem U3:wS jW=0∧xX jW=6:=by
 simp [wS,xX,uj,qV,jW,Bv.1,Bv.2,yF.1,yF.2,EL.1,EL.2,Pm.1,Pm.2]
theorem o16:gu 0 jW=[(0,lS),(1,kT),(4,ny),(5,nK)]:=by simp [gu,jW,yF.1,Bv.1,EL.1]
theorem lf16:uJ 4 jW=[lS,kT]:=by simp [uJ,lA,o16,vC,yF.1,Bv.1,EL.1,Pm.1]
theorem Vv:gu 0 [lS,kT]=[(0,lS),(1,kT)]:=by simp [gu,yF.1]
theorem VQ:Bh 1 (uJ 4 jW)=[kT]:=by rw [lf16];simp [Bh,rA,Vv,vC,yF.1,Bv.1]
theorem aad:Hl 4 jW:=by
 intro a ha;rw [o16] at ha
 simp only [nC,List.not_mem_nil,or_false] at ha
 rcases ha with rfl|rfl|rfl|rfl <;> simp [vC,yF.1,Bv.1]
theorem aae:Hl 1 (uJ 4 jW):=by
 rw [lf16];intro a ha;rw [Vv] at ha
 simp only [nC,List.not_mem_nil,or_false] at ha
 rcases ha with rfl|rfl <;> simp [vC,yF.1]
theorem agG:QD (Bh 1 (uJ 4 jW)):=by
 rw [VQ];exact ⟨Fb.one (bK _),fun x hx=>by rw [oC.1 hx];exact ⟨rfl,rfl,by decide,fun _=>by rw [ByteArray.toList_eq];decide⟩⟩
theorem aha:zO jW 1 4=0:=by simp [zO,U3.1,U3.2]
theorem adb:Az jW 0=some jW:=by simp [Az,Ci]
theorem Xt:bA jW≤1000:=by
 have h1:=oU lS;have h2:=oU kT;have h3:=oU ny;have h4:=oU nK
 have h0:oQ hd0=5:=by simp [GZ,eB]
 have s1:lS.text.size=1:=rfl;have s2:kT.text.size=3:=rfl;have s3:ny.text.size=0:=rfl;have s4:nK.text.size=0:=rfl;rw [show lS.head=hd0 from rfl,h0,show bA lS.flow=0 from rfl,show gU lS.rows=0 from rfl] at h1;rw [show kT.head=hd0 from rfl,h0,show bA kT.flow=0 from rfl,show gU kT.rows=0 from rfl] at h2;rw [show ny.head=hd0 from rfl,h0,show bA ny.flow=0 from rfl,show gU ny.rows=0 from rfl] at h3;rw [show nK.head=hd0 from rfl,h0,show bA nK.flow=0 from rfl,show gU nK.rows=0 from rfl] at h4
 simp only [bA,jW,dY,sK,eB]
 omega
theorem Kk (C:gH) {e:Int} (h1:1≤e) (h2:e≤10):iw C e hd0=0:=by
 have h3:gq e []=0:=by rw [gq,ah (by omega)];rfl
 simp [iw,cO,hd0,h3,wW,jw,jR,bP]
theorem ok16:kE jW:=by
 have f1:jX lS=0:=by
  have hn:oH ⟨#[97]⟩=true:=by decide
  simp [jX,lS,aA.kind,aA.code,aA.id,aA.text,aA.flow,aA.rows,codeOk,vD,xJ,yg,yJ,yC,rH,aiJ,hn]
 have f2:jX kT=0:=by
  simp [jX,kT,aA.kind,aA.code,aA.id,aA.text,aA.flow,aA.rows,codeOk,vD,xJ,yg,yJ,yC,rH,Pj.1]
 have f3:jX ny=0:=by
  simp [jX,ny,aA.kind,aA.code,aA.id,aA.text,aA.flow,aA.rows,codeOk,vD,xJ,yg,yJ,yC,rH,WW]
 have f4:jX nK=0:=by
  simp [jX,nK,aA.kind,aA.code,aA.id,aA.text,aA.flow,aA.rows,codeOk,vD,xJ,yg,yJ,yC,rH,WW]
 have C:gH:=⟨[],[],[]⟩;have q1:∀ s:CS,jT true false 0 lS.kind lS.id s=(0,s):=fun s=>rfl;have q2:∀ s:CS,jT true false 0 kT.kind kT.id s=(0,s):=fun s=>rfl;have q3:∀ s:CS,jT true false 0 ny.kind ny.id s=(0,s):=fun s=>rfl;have q4:∀ s:CS,jT true false 0 nK.kind nK.id s=(0,s):=fun s=>rfl;have h1:iw C lS.kind lS.head=0:=Kk C (by decide) (by decide);have h2:iw C kT.kind kT.head=0:=Kk C (by decide) (by decide);have h3:iw C ny.kind ny.head=0:=Kk C (by decide) (by decide);have h4:iw C nK.kind nK.head=0:=Kk C (by decide) (by decide);refine ⟨C,true,false,0,⟨0,[]⟩,(iZ C true false 0 jW ⟨0,[]⟩).2,?_⟩
 simp [jW,iZ,NQ,fG,f1,f2,f3,f4,q1,q2,q3,q4,h1,h2,h3,h4,show ¬ lS.kind=6 by decide,show ¬ lS.kind=7 by decide,show ¬ kT.kind=6 by decide,show ¬ kT.kind=7 by decide,show ¬ ny.kind=6 by decide,show ¬ ny.kind=7 by decide,show ¬ nK.kind=6 by decide,show ¬ nK.kind=7 by decide]
theorem Sv (G:GH) (w0:World) (hG:Hold G w0) :
  Calls prog 31 #[] w0 (bD w0 G fun u G'=>∃ D:nA,u=D.val∧av G' (.sl 11 (jW.map aA.dat)) (fq D.f)):=by
 refine eN [] func31 rfl ntmps31 rfl rfl hG ?_;intro a H;refine dz (fun _ K1=>?_);refine eX uP H wn rfl ?_;clear H;intro b0 a w hb0 H;refine K1 _ _ ?_;clear K1;refine dz (fun _ K2=>?_);(iterate 4 refine jZ ain [_,_,_,_,_,_,_,_,_,_,_] H wn rfl rfl rfl rfl ?_;clear H;intro a H);refine gP gQ dL [_,_,_,_,_,_,_,_,_,_,_,_,_,_,_,_,_,_,_,_,_,_,_,_,_,_,_,_,_,_,_,_,_,_,_,_,_,_,_,_,_,_,_,_] [_,_,_,_,_,_,_,_,_,_,_,_,_,_,_,_,_,_,_,_,_,_,_,_,_,_,_,_,_,_,_,_,_,_,_,_,_,_,_,_,_,_,_,_] H wn rfl rfl rfl rfl rfl (by intro i q h;match i,h with|0,h=>exact h|1,h=>exact h|2,h=>exact h|3,h=>exact h|n+4,h=>simp at h) rfl rfl ?_;clear H;intro b5 a w hb5 H;refine jZ aik [_,_,_,_,_,_,_,_,_,_,_] H wn rfl rfl rfl rfl ?_;clear H;intro a H;refine bE uP 1 (vs:=[_,_,_,_,_,_,_,_,_,_,_]) _ H wn rfl rfl rfl rfl rfl rfl rfl rfl ?_;clear H;intro w H;dsimp only [List.set,setRow] at H;refine K2 _ _ ?_;clear K2;refine bZ ?_;refine (leave1 H results31 (.cons (zR uP (cs:=[_,_,_,_,_,_,_,_,_,_,_]) H rfl rfl (H.hp.dZ 1 rfl rfl)) .nil) ?_).1;have H:=H.dU (Pl:=[_,_]) (dx:=[_]) [0] (by decide) rfl;obtain ⟨G3,Nl,F3,H⟩:=H.dM;have r1:aX G3 lS.dat _:=aX.mkItem (x:=lS) Ja (av.jf (A:=none) (n:=0) (c:=0) rfl (by decide)) (av.jf (A:=none) (n:=0) (c:=0) rfl (by decide));have r2:aX G3 kT.dat _:=aX.mkItem (x:=kT) Ja (av.jf (A:=none) (n:=0) (c:=0) rfl (by decide)) (av.jf (A:=none) (n:=0) (c:=0) rfl (by decide));have r3:aX G3 ny.dat _:=aX.mkItem (x:=ny) Ja (av.jf (A:=none) (n:=0) (c:=0) rfl (by decide)) (av.jf (A:=none) (n:=0) (c:=0) rfl (by decide));have r4:aX G3 nK.dat _:=aX.mkItem (x:=nK) Ja (av.jf (A:=none) (n:=0) (c:=0) rfl (by decide)) (av.jf (A:=none) (n:=0) (c:=0) rfl (by decide));have jl:fF G3 11 (jW.map aA.dat) _:=(((fF.nil.snoc r1 rfl).snoc r2 rfl).snoc r3 rfl).snoc r4 rfl;exact H.rt ⟨⟨(some ⟨b5,0,none⟩,4,4),(none,0,0),(none,0,0),(none,0,0),(none,0,0),(none,0,0),(none,0,0),(none,0,0),(none,0,0),0,0⟩,rfl,av.dS (n:=4) (cap:=4) F3 rfl (bK _) (show 4≤maxLen by decide) rfl jl⟩
set_option maxHeartbeats 1000000 in
theorem aiy (G:GH) (w0:World) (hG:Hold G w0) (D:nA) (hv:av G (.sl 11 (jW.map aA.dat)) (fq D.f)) :
  Calls prog 27 #[D.val,.string ⟨#[97]⟩] w0 (bD w0 G fun u G'=>u=.tuple #[.string ⟨#[120,121,122]⟩,.bool true]):=by
 have hz:=Xt;refine eN [(0,_),(1,_)] func27 rfl ntmps27 rfl rfl hG ?_;intro a H;refine dz (fun _ K1=>?_);refine fC (cs:=[_,_,_,_,_,_,_,_,_,_,_]) H wn rfl rfl rfl ?_;clear H;intro b2 a w hb2 H;refine kH H (Ra rfl (ak K1 rfl (SQ fun _ K2=>?_)));clear H K1;intro a H;obtain ⟨Ga,hma,hb',H⟩:=H.dM;have hga:=fun j v hj=>zm hb' 0 D.cells rfl j v hj;replace hv:=hv.mono hma;refine oF ?_;refine bJ uP (cs:=D.cells) H wn rfl rfl (fun j v hj=>H.hp.aI (hga j v hj)) rfl ?_;clear H;intro a H;refine kH H (Rm rfl ?_);clear H;intro a H;refine s_call abq H wn rfl (Yu _ _ H.ro D jW ⟨#[97]⟩ hv ok16 (by omega)) rfl ?_;clear H;rintro v18 PW a w rfl hm18 H;rw [adj] at H;dsimp only [Option.getD_some,Option.isSome_some] at H;replace hv:=hv.mono hm18;replace hga:=fun j v hj=>aK hm18 (hga j v hj);refine kH H (Rm rfl ?_);clear H;intro a H;(iterate 2 refine lQ H wn rfl rfl rfl ?_;clear H;intro a H);refine eX pW H wn rfl ?_;clear H;intro b6 a w hb6 H;refine bE pW 0 (vs:=[_,_,_,_,_,_]) _ H wn rfl rfl rfl rfl rfl rfl rfl rfl ?_;clear H;intro w H;dsimp only [List.set,setRow] at H;refine kH H (aU K2 rfl (SQ fun _ K3=>SR fun _ K4=>Rm rfl (Rn rfl (Kz K4 (Cd rfl ?_ ?_))))) <;> clear H K2 K4
 ·intro h22 a H
  exact absurd h22 (by decide)
 intro h22 a H
 try have iK:=dF h22
 refine gI ?_;refine K3 _ _ ?_;clear K3;refine dz (fun _ K5=>?_);refine bJ uP (cs:=D.cells) H wn rfl rfl (fun j v hj=>H.hp.aI (hga j v hj)) rfl ?_;clear H;intro a H;refine kH H (Rf IL rfl (aV Mc aD 0 rfl rfl ?_));clear H;intro a H;refine s_call abn H wn rfl (adf _ _ H.ro D jW 0 hv (by omega)) rfl ?_;clear H;rintro v28 XQ a w ⟨x28,rfl,hx28⟩ ajV H;rw [adb,Option.getD_some] at hx28;obtain ⟨A28,n28,c28,rfl⟩:=hx28.form;refine kH H (Rm rfl ?_);clear H;intro a H;(iterate 2 refine lQ H wn rfl rfl rfl ?_;clear H;intro a H);refine kH H (Ra rfl (ak K5 rfl (SR fun _ K6=>Rm rfl (Rf IL rfl (aV Av aD 0 rfl rfl (Rf IQ rfl (aV Av aD 0 rfl rfl ?_)))))));clear H K5;intro a H;refine s_call abo H wn rfl (ahW _ _ H.ro jW 1 4 _ hx28 (by omega) aha aad aae agG) rfl ?_;clear H;rintro v39 P5 a w ⟨x39,rfl,hx39⟩ aen H;rw [VQ] at hx39;obtain ⟨A39,n39,c39,rfl⟩:=hx39.form;obtain rfl:n39=1:=hx39.len;refine kH H (Rm rfl ?_);clear H;intro a H;(iterate 2 refine lQ H wn rfl rfl rfl ?_;clear H;intro a H);refine kH H (Ra rfl (ak K6 rfl (SR fun _ K7=>?_)));clear H K6;intro a H;refine eX aiK H wn rfl ?_;clear H;intro b12 a w AV H;refine K7 _ _ ?_;clear K7;refine kP H (SQ fun _ K8=>SR fun _ K9=>Rm rfl (Rl gQ rfl (Rm rfl (Kz K9 (SB ?_)))));clear H K9;intro a H;skip;refine fH (ι:=Nat × aj × aj × Nat × OL) (Tc:=[(12,_),(42,_),(43,_)]) (Lc:=[(_,_)]) (fun gh=>[(44,vi gh.1)]) (fun gh=>[bB b12 gh.2.1 gh.2.2.1]++gh.2.2.2.2) (fun gh=>P5) (fun gh=>gh.1≤1∧(gh.1=0→gh.2.1=.pointer none∧gh.2.2.1=.slice none 0 0∧gh.2.2.2.2=[])∧(gh.1=1→gh.2.1=(aJ b12 0)∧cK 5 1 gh.2.2.1 3 (Lib.byteCells [120,121,122]) gh.2.2.2.2)) (fun gh=>1 - gh.1) ((0,.pointer none,.slice none 0 0,0,[])) (by exact (H.dU (Pl:=[_,_]) (dx:=[_,_]) [1,0] (by decide) rfl).sub ⟨rfl,rfl,rfl,rfl,aF⟩) ?_ ?_
 ·exact ⟨by omega,fun _=>⟨rfl,rfl,rfl⟩,fun h=>absurd h (by decide)⟩
 clear H;intro gh a w hI H;obtain ⟨k,p,v,n,Lo⟩:=gh;dsimp only at hI H;obtain ⟨hk,hk0,hk1⟩:=hI;dsimp only [lca,bq] at H;refine kP H (SR fun _ aT=>Rc rfl (Kz aT (SQ fun _ bC=>Cd rfl ?_ ?_))) <;> clear H aT
 ·intro h45 a H
  try have p45:=dT h45
  obtain rfl:k=0:=by omega
  obtain ⟨rfl,rfl,rfl⟩:=hk0 rfl;obtain ⟨b,o,pA,pn,pc,dA,dn,dc,yA,yn,yc,fA,fn,fc,rA,rn,rc,rfl,hrow,hhd,hfl,hrw⟩:=AA (l:=[kT]) (k:=0) (by decide) hx39.at_;refine kP H (Kc bC (SQ fun _ bF=>SB (SR fun _ bN=>Ri gQ dL rfl rfl ?_)));clear H bC;intro a H;refine bJ dL (cs:=[_,_,_,_,_,_,_,_,_,_,_]) H wn rfl rfl (fun j v hj=>H.hp.aI (hrow j v hj)) rfl ?_;clear H;intro a H;refine eX dL H wn rfl ?_;clear H;intro b14 a w FY H;refine bE dL 0 (vs:=[_,_,_,_,_,_,_,_,_,_,_]) _ H wn rfl rfl rfl rfl rfl rfl rfl rfl ?_;clear H;intro w H;dsimp only [List.set,setRow] at H;refine bN _ _ ?_;clear bN;refine kP H (SR fun _ bQ=>aV jJ aD 0 rfl rfl (Rc rfl (Kz bQ (Cd rfl ?_ ?_)))) <;> clear H bQ
  ·intro h50 a H
   try have p50:=dT h50
   refine kP H (SC (aV vv gG 0 rfl rfl ?_));clear H;intro a H;refine gK abA (Li:=[_,_]) (L:=bB b12 (.pointer none) (.slice none 0 0) :: []) H wn rfl (ajj _ _ _ b12 (.pointer none) (.slice none 0 0) 0 [] ⟨#[120,121,122]⟩ (.inl rfl) (Hp.owns (Li:=[_,_]) H.hp) cK.nil (by decide)) rfl ?_;clear H;rintro v_ _ L53 a w ⟨v53,Yi,rfl,aeR,rfl⟩ akb H;refine kH H (Kn bF (SC (Rd rfl (Rm rfl ?_))));clear H bF;intro a H;refine aH ?_;refine dD ((1,(aJ b12 0),v53,0,Yi)) (by exact (H.dU (Pl:=[_,_,_]) (dx:=[_,_]) [1,2] (by decide) rfl).sub ⟨rfl,rfl,rfl,rfl,aF⟩) ?_ ?_
   ·(try dsimp only);exact ⟨by omega,fun h=>absurd h (by omega),fun _=>⟨rfl,aeR⟩⟩
   first|omega|(dsimp only;omega)
  intro h50 a H
  exact absurd h50 (by decide)
 intro h45 a H
 try have p45:=dF h45
 obtain rfl:k=1:=by omega
 obtain ⟨rfl,hrw3⟩:=hk1 rfl;refine dV ?_;refine K8 _ _ ?_;clear K8;refine dz (fun _ dJ=>?_);refine gK Sg (Li:=[_]) (L:=bB b12 _ v :: Lo) H wn rfl (ait _ _ _ b12 _ v [120,121,122] (Hp.owns (Li:=[_]) H.hp) hrw3 (by decide)) rfl ?_;clear H;rintro v55 Hy L55 a w rfl tC H;refine kH H (Ra rfl (ak dJ rfl ?_));clear H dJ;intro a H;refine bZ ?_;refine (eT H results27 (.cons (aR H rfl) (.cons (aR H rfl) .nil)) ?_).1;exact H.rt rfl
theorem UZ (G:GH) (w0:World) (hG:Hold G w0):Calls prog 9 #[] w0 (bD w0 G fun u G'=>u=.bool true):=by
 have hz:=Xt;refine eN [] func9 rfl ntmps9 rfl rfl hG ?_;intro a H;refine kP H (SR fun _ K1=>ak K1 rfl (SR fun _ K2=>?_));clear H K1;intro a H;refine s_call Sb H wn rfl (Sv _ _ H.ro) rfl ?_;clear H;rintro v4 G4 a w ⟨D4,rfl,hv4⟩ F7 H;refine s_call R4 H wn rfl (QX _ _ H.ro D4 jW hv4 ok16 (by omega)) rfl ?_;clear H;rintro v5 G5 a w hr Nn H;rw [Wx] at hr;obtain ⟨A5,n5,c5,rfl⟩:=hr.form;obtain rfl:n5=1:=hr.len;obtain ⟨b,o,rfl,hrow⟩:=OW (A:=[⟨1,⟨#[97]⟩,0,1,0,4⟩]) (k:=0) hr (by decide);refine kH H (ak K2 rfl (SR fun _ K3=>?_));clear H K2;intro a H;refine s_call Sb H wn rfl (Sv _ _ H.ro) rfl ?_;clear H;rintro v7 G7 a w ⟨D7,rfl,hv7⟩ zI H;refine s_call abr H wn rfl (aiy _ _ H.ro D7 hv7) rfl ?_;clear H;rintro v8 G8 a w rfl xU H;refine kH H (Rm rfl ?_);clear H;intro a H;(iterate 2 refine lQ H wn rfl rfl rfl ?_;clear H;intro a H);refine kH H (Ra rfl (ak K3 rfl (SR fun _ K4=>Rm rfl (Rl Dm rfl (Rc rfl (Rm rfl (Sp 14 rfl ?_ ?_))))))) <;> clear H K3
 ·intro dP a H
  try have mo:=dT dP
  refine kH H (YM dP rfl ?_);clear H;intro a H;refine zT Dm pW 0 H (wg H rfl rfl dP) rfl rfl rfl (by decide) rfl ?_;clear H;intro a H;refine bJ pW (cs:=[vi 1,.string ⟨#[97]⟩,vi 0,vi 1,vi 0,vi 4]) H (wg H rfl rfl dP) rfl rfl (fun j v hj=>H.hp.aI (aK xU (aK zI (hrow j v hj)))) rfl ?_;clear H;intro a H;(iterate 2 refine jZ WH [_,_] H (wg H rfl rfl dP) rfl rfl rfl rfl ?_;clear H;intro a H);refine jZ OY [_,_,_,_,_,_] H (wg H rfl rfl dP) rfl rfl rfl rfl ?_;clear H;intro a H;refine ahp ach H (wg H rfl rfl dP) rfl rfl rfl rfl ?_;clear H;intro a H;refine kH H (Pt dP rfl (Rm rfl (Sp 23 rfl ?_ ?_))) <;> clear H
  ·intro h23 a H
   try have yj:=dT h23
   refine kH H (YM h23 rfl ?_);clear H;intro a H;refine Bl H (wg H rfl rfl h23) rfl rfl rfl ?_;clear H;intro a H;refine kH H (Pt h23 rfl (Rm rfl (Sp 27 rfl ?_ ?_))) <;> clear H
   ·intro h27 a H
    exact kH H (YM h27 rfl (Pt h27 rfl (ak K4 rfl (LR results9 rfl fun H=>H.rt rfl))))
   intro h27 a H
   try have p27:=dF h27
   exact absurd h27 (by first|decide|simp [jk,jC])
  intro h23 a H
  try have yj:=dF h23
  exact absurd h23 (by first|decide|simp [jk,jC])
 intro dP a H
 exact absurd dP (by decide)
end
section
open Go.RowKit
theorem DW:∀ args w,(callFunc 58 args).run prog w=.ok (.enter 58 args) w:=enters func58 rfl (by kernel_rfl)
theorem LC:∀ args w,(callFunc 128 args).run prog w=.ok (.enter 128 args) w:=enters func128 rfl (by kernel_rfl)
theorem FD:∀ args w,(callFunc 60 args).run prog w=.ok (.enter 60 args) w:=enters func60 rfl (by kernel_rfl)
theorem Eh (G:GH) (L:OL) (w0:World) (st:List bG) (li:List fK) (rv:List eU) (b ms ml mr mb mu:Nat) (n:Int) (hck:sD G st li rv ms ml mr mu) (hO:gL G (fu b ms ml mr mb mu n :: L) w0)
  (e:Int) (h:gZ) (p d l:aj) (hh:jm G h p d l) (hz:oQ h≤4294967296) :
  Calls prog 58 #[(aJ b 0),vi e,xS h p d l] w0 (fZ w0 G (fu b ms ml mr mb mu n :: L) fun v G' L'=>G=G'∧L'=fu b ms ml mr mb mu n :: L∧v=vi (iw (aQ st li rv) e h)):=by
 have hm:=GH.Ic G (o:=(fu b ms ml mr mb mu n).2) (hO.sep _ gV);exact (aei (G.add b (fu b ms ml mr mb mu n).2) w0 hO.add st li rv b ms ml mr mb mu n (hck.mono hm) (GH.Ie _ _ _) e h p d l (hh.mono hm) hz).mono fun _ _=>agW (b:=b) (o:=(fu b ms ml mr mb mu n).2) (R':=fun v=>v=vi (iw (aQ st li rv) e h)) hO fun _ _ h=>h
abbrev Hg (b ms ml mr mb mu:Nat) (L:OL) (r:CR):aj→OL→Prop:=fun u L'=>∃ s:CS,u=vi r.1∧L'=fu b ms ml mr mb mu s.n :: (mb,eH (fB s.aZ)) :: L∧(r.1=0→s=r.2)
def Dy (m:Nat):Prop:=∀ (G:GH) (L:OL) (w0:World) (st:List bG) (li:List fK) (rv:List eU) (b ms ml mr mb mu:Nat) (s:CS) (l:List aA) (v:aj) (body note:Bool) (t:Int),
 sD G st li rv ms ml mr mu→gL G (fu b ms ml mr mb mu s.n :: (mb,eH (fB s.aZ)) :: L) w0→av G (.sl 11 (l.map aA.dat)) v→bA l < m→0≤t→t≤4→0≤s.n→s.n+(bA l:Nat)≤1099511627776 →
 Calls prog 60 #[(aJ b 0),v,.agg #[.bool body,.bool note,vi t]] w0 (fZ w0 G (fu b ms ml mr mb mu s.n :: (mb,eH (fB s.aZ)) :: L) fun u G' L'=>G=G'∧Hg b ms ml mr mb mu L (iZ (aQ st li rv) body note t l s) u L')
theorem rows_ok {m:Nat} (ih:Dy m) (hm:m≤4294967296) (Gt:GH) (L:OL) (w0:World) (st:List bG) (li:List fK) (rv:List eU) (b ms ml mr mb mu:Nat) (s:CS) (l:List bS) (v:aj) (note:Bool) (t:Int)
  (hck:sD Gt st li rv ms ml mr mu) (hO:gL Gt (fu b ms ml mr mb mu s.n :: (mb,eH (fB s.aZ)) :: L) w0) (hv:av Gt (.sl 6 (l.map bS.dat)) v) (hz:gU l < m) (ht0:0≤t) (Cz:t≤4) (hs0:0≤s.n) (hs1:s.n+(gU l:Nat)≤1099511627776) :
  Calls prog 129 #[(aJ b 0),v,.agg #[.bool false,.bool note,vi t]] w0 (fZ w0 Gt (fu b ms ml mr mb mu s.n :: (mb,eH (fB s.aZ)) :: L) fun u G' L'=>Hg b ms ml mr mb mu L (kR l.length (fun s=>iD (aQ st li rv) note t l s) s) u L'):=by
 obtain ⟨A,c,rfl,hc1,hc2,hg⟩:=hv.slice;rw [bT] at *;have hll:=Ko l;refine jI (N:=77) (T:=[(0,_),(1,_),(2,_)]) func129 rfl ntmps129 rfl rfl hO ?_;intro a H;refine dz (fun _ K1=>?_);refine fC (cs:=[_,_,_]) H wn rfl rfl rfl ?_;clear H;intro b5 a w hb5 H;refine kH H (ak K1 rfl (SQ fun _ K2=>SR fun _ K3=>Rm rfl (Rl oh rfl (Rc rfl (Kz K3 (Cd rfl ?_ ?_)))))) <;> clear H K1 K3
 ·intro dO a H
  try have lN:=dT dO
  refine bg (fun _ K4=>?_);have hE:kR l.length (fun s=>iD (aQ st li rv) note t l s) s=(11,s):=au (by omega);exact kP H (SC (aU K4 rfl (LR results129 rfl fun H=>H.hp.gJ (L':=fu b ms ml mr mb mu s.n :: (mb,eH (fB s.aZ)) :: L) (by repeat (first|exact iA _|apply List.Sublist.cons)) ⟨s,by rw [hE],rfl,fun h=>by rw [hE]⟩)))
 intro dO a H
 try have lN:=dF dO
 refine kP H (Kc K2 (SQ fun _ K5=>SR fun _ K6=>Rm rfl (Rl oh rfl (Rc rfl (Kz K6 (Cd rfl ?_ ?_)))))) <;> clear H K2 K6
 ·intro h20 a H
  try have C8:=dT h20
  refine bg (fun _ K7=>?_)
  have hE:kR l.length (fun s=>iD (aQ st li rv) note t l s) s=(9,s):=by rw [kR,ah (by omega),au (by omega)]
  exact kP H (SC (aU K7 rfl (LR results129 rfl fun H=>H.hp.gJ (L':=fu b ms ml mr mb mu s.n :: (mb,eH (fB s.aZ)) :: L) (by repeat (first|exact iA _|apply List.Sublist.cons)) ⟨s,by rw [hE],rfl,fun h=>by rw [hE]⟩)))
 intro h20 a H
 try have C8:=dF h20
 refine kP H (Kc K5 (SQ fun _ K8=>SQ fun _ K9=>?_));clear H K5;intro a H
 have hE:kR l.length (fun s=>iD (aQ st li rv) note t l s) s=iD (aQ st li rv) note t l s:=by rw [kR,ah (by omega),ah (by omega)]
 refine kP H (SC (Rm rfl (Rl oh rfl (Rm rfl (Kn K9 (SB ?_))))));clear H K9;intro a H;skip;refine fH (ι:=Nat × CS × GH) (Tc:=[(0,_),(5,_),(21,_),(22,_)]) (Lc:=[(_,_)]) (fun gh=>[(23,vi gh.1)]) (fun gh=>[fu b ms ml mr mb mu gh.2.1.n,(mb,eH (fB gh.2.1.aZ))]++L) (fun gh=>gh.2.2) (fun gh=>gh.1≤l.length∧(∀ b o,Gt b=some o→gh.2.2 b=some o)∧iD (aQ st li rv) note t l s=iD (aQ st li rv) note t (l.drop gh.1) gh.2.1∧0≤gh.2.1.n∧gh.2.1.n+(gU (l.drop gh.1):Nat)≤1099511627776) (fun gh=>l.length - gh.1) ((0,s,Gt)) (by exact (H).sub ⟨rfl,rfl,rfl,rfl,rfl,aF⟩) ?_ ?_
 ·exact ⟨iY _,fun _ _ h=>h,rfl,hs0,hs1⟩
 clear H;intro gh a w hI H;obtain ⟨k,s1,g⟩:=gh;dsimp only at hI H;obtain ⟨hk,hgm,hR,hn0,hn1⟩:=hI;dsimp only [lca,bq] at H;refine kP H (SR fun _ aT=>Rc rfl (Kz aT (SQ fun _ bC=>Cd rfl ?_ ?_))) <;> clear H aT
 ·intro dN a H
  try have jS:=dT dN
  have hk2:k < l.length:=by omega
  have hsz:=PE hk2;have hcs:=Kl l[k].cells
  have hdz:gU (l.drop k)=1+cu l[k].dat+gU (l.drop (k+1)):=by simp only [gU];rw [mV hk2,dY,eB]
  have hrz:=Ah l[k];obtain ⟨xb,xo,qA,qn,qc,eA,en,ec,zA,zn,zc,cA,cn,cc,rfl,hrow,Cx,hcl⟩:=JK hk2 hg;replace hrow:=fun j u hj=>aK hgm (hrow j u hj);replace Cx:=Cx.mono hgm;replace hcl:=hcl.mono hgm;have hcn:=hcl.len;rw [bT] at hcn;subst hcn;have adY:=hck.mono hgm;rw [mV hk2,iD,JJ] at hR;refine kP H (Kc bC (SQ fun _ bF=>SB (SR fun _ bN=>Ri oh kS rfl rfl ?_)));clear H bC;intro a H;refine bJ kS (cs:=[_,_,_,_,_,_]) H wn rfl rfl (fun j v hj=>H.hp.aI (hrow j v hj)) rfl ?_;clear H;intro a H;refine eX kS H wn rfl ?_;clear H;intro b8 a w F3 H;refine bE kS 0 (vs:=[_,_,_,_,_,_]) _ H wn rfl rfl rfl rfl rfl rfl rfl rfl ?_;clear H;intro w H;dsimp only [List.set,setRow] at H;refine bN _ _ ?_;clear bN;refine bg (fun _ bQ=>?_);refine bg (fun _ dJ=>?_);refine dI hmx [[],[],[1],[0,1,2],[],[4],[4,5],[4,5,6],(ra 0 8),[],[9],[9,10],[9,10,11],(ra 0 13),(ra 0 14),(ra 0 15),(ra 0 16)] [14,15,16] (by kernel_rfl) [_,_,xS l[k].head (.slice qA qn qc) (.slice eA en ec) (.slice zA zn zc),vi (iw (aQ st li rv) 9 l[k].head),_,.slice cA l[k].cells.length cc,_,_,vi (bP (decide ((l[k].cells.length:Int)=0)) 11),_,.slice cA l[k].cells.length cc,_,_,vi (bP (decide (32 < (l[k].cells.length:Int))) 9)] H (aB (Z0 rfl (Rm rfl)) (Z0 rfl (Rf SY rfl)) ?_ ?_ (aB (Z0 rfl (Rf zk rfl)) (Z1 4 31 rfl (Ro Ad 0 rfl)) (Z1 5 32 rfl (Rl rZ rfl)) (Z1 6 33 rfl (Rc rfl)) (aB ?_ (Z0 rfl (Rf zk rfl)) (Z1 9 36 rfl (Ro Ad 0 rfl)) (Z1 10 37 rfl (Rl rZ rfl)) (aB (Z1 11 38 rfl (Rc rfl)) ?_ (bH rfl) (bH rfl) (aW (bH rfl) bW))))) ?_
  ·refine dw 1 28 rfl rfl fun _ a w G1 hG HT H fin=>?_;refine bJ pV (cs:=[_,_,_,_,_]) H wn rfl rfl (H.hp.dZ 0 rfl rfl) rfl ?_;clear H;intro a H;exact fin H iJ rfl
  ·refine cB 0 27 2 29 rfl rfl fun _ a w G1 hG HT H fin=>?_;refine gK DW (Li:=[_,_]) (L:=fu b ms ml mr mb mu s1.n :: (mb,eH (fB s1.aZ)) :: L) H wn rfl (Eh _ _ _ st li rv b ms ml mr mb mu _ (adY.mono hG) (Hp.owns (Li:=[_,_]) H.hp) 9 l[k].head _ _ _ (Cx.mono hG) (by omega)) rfl ?_;clear H;rintro v30 _ _ a w ⟨rfl,rfl,rfl⟩ ML H;dsimp only [lca,bq] at H;exact fin H ML (rfl)
  ·refine dw 7 34 rfl rfl fun _ a w G1 hG HT H fin=>?_;refine s_call iP H wn rfl (iR _ _ H.ro _ 11) rfl ?_;clear H;rintro v35 PZ a w ⟨rfl,-⟩ MN H;exact fin H MN (rfl)
  ·refine dw 12 39 rfl rfl fun _ a w G1 hG HT H fin=>?_;refine s_call iP H wn rfl (iR _ _ H.ro _ 9) rfl ?_;clear H;rintro v40 P6 a w ⟨rfl,-⟩ adw H;exact fin H adw (rfl)
  clear H;intro a w G qJ H hv;have H:=H.aS (hv 3 30 rfl rfl) rfl;have H:=H.aS (hv 8 35 rfl rfl) rfl;have H:=H.aS (hv 13 40 rfl rfl) rfl;clear hv;refine gP nJ fV [_,_,_] [_,_,_] H wn rfl rfl rfl rfl rfl (by intro i q h;match i,h with|0,h=>exact h|1,h=>exact h|2,h=>exact h|n+3,h=>simp at h) rfl rfl ?_;clear H;intro b41 a w ajK H;obtain ⟨KA,TR,adT,H⟩:=H.dM;have TI:∀ b o,Gt b=some o→KA b=some o:=fun b o h=>TR _ _ (qJ _ _ (hgm _ _ h));refine s_call oI H wn rfl (oK _ _ H.ro _ _ (CG [iw (aQ st li rv) 9 l[k].head,bP (decide ((l[k].cells.length:Int)=0)) 11,bP (decide (32 < (l[k].cells.length:Int))) 9] adT (show 3≤maxLen by decide))) rfl ?_;clear H;rintro v42 _ a w ⟨rfl,rfl⟩ - H;refine kH H (Ra rfl ?_);clear H;intro a H;refine aH ⟨rfl,?_⟩;refine dJ _ _ ?_;clear dJ;refine kP H (SR fun _ dG=>Rm rfl (Rc rfl (Kz dG (Cd rfl ?_ ?_)))) <;> clear H dG
  ·intro Mr a H
   try have p44:=dT Mr
   have e44:Da (aQ st li rv) l[k].head l[k].cells.length≠0:=p44
   have hF1:(kR l.length (fun s=>iD (aQ st li rv) note t l s) s).1=Da (aQ st li rv) l[k].head l[k].cells.length:=by rw [hE,hR,Ig (r:=(Da (aQ st li rv) l[k].head l[k].cells.length,s1)) e44,Ig e44]
   have hF2:(kR l.length (fun s=>iD (aQ st li rv) note t l s) s).1=0→s1=(kR l.length (fun s=>iD (aQ st li rv) note t l s) s).2:=fun h=>absurd (hF1.symm.trans h) e44;exact kP H (SR fun _ dh=>Rm rfl (ak dh rfl (LR results129 rfl fun H=>H.hp.gJ (L':=fu b ms ml mr mb mu s1.n :: (mb,eH (fB s1.aZ)) :: L) (by repeat (first|exact iA _|apply List.Sublist.cons)) ⟨s1,ay vi hF1.symm,rfl,hF2⟩)))
  intro Mr a H
  try have p44:=dF Mr
  have e44:Da (aQ st li rv) l[k].head l[k].cells.length=0:=mW.1 p44;rw [Fq (r:=(Da (aQ st li rv) l[k].head l[k].cells.length,s1)) e44] at hR;dsimp only at hR;have adZ:=hck.mono TI;replace hcl:=hcl.mono (fun b o h=>TR _ _ (qJ b o h));refine kP H (Kc bQ (SR fun _ dX=>aV zk Ad 0 rfl rfl (Rl rZ rfl (Rm rfl (Kz dX (SB ?_))))));clear H bQ dX;intro a H;skip;refine fH (ι:=Nat × CS × GH) (Tc:=[(0,_),(5,_),(21,_),(22,_),(23,_),(47,_),(48,_)]) (Lc:=[(_,_),(_,_)]) (fun gh=>[(49,vi gh.1)]) (fun gh=>[fu b ms ml mr mb mu gh.2.1.n,(mb,eH (fB gh.2.1.aZ))]++L) (fun gh=>gh.2.2) (fun gh=>gh.1≤l[k].cells.length∧(∀ b o,KA b=some o→gh.2.2 b=some o)∧iD (aQ st li rv) note t l s=fG (qH (aQ st li rv) note t (l[k].cells.drop gh.1) gh.2.1) (fun s=>iD (aQ st li rv) note t (l.drop (k+1)) s)∧0≤gh.2.1.n∧gh.2.1.n+(jc (l[k].cells.drop gh.1):Nat)+(gU (l.drop (k+1)):Nat)≤1099511627776) (fun gh=>l[k].cells.length - gh.1) ((0,s1,KA)) (by exact (H).sub ⟨rfl,rfl,rfl,rfl,rfl,rfl,rfl,rfl,aF⟩) ?_ ?_
  ·exact ⟨iY _,fun _ _ h=>h,hR,hn0,by dsimp only;rw [uW];omega⟩
  clear H;intro gh a w hI H;obtain ⟨c,s2,g2⟩:=gh;dsimp only at hI H;obtain ⟨hc,Jc,hR2,hm0,hm1⟩:=hI;have nU:=fun b o h=>Jc b o (TI b o h);dsimp only [lca,bq] at H;refine kP H (SR fun _ gy=>Rc rfl (Kz gy (SQ fun _ eY=>Cd rfl ?_ ?_))) <;> clear H gy
  ·intro h50 a H
   try have p50:=dT h50
   have hk4:c < l[k].cells.length:=by omega
   have aeV:=PD hk4
   have aec:jc (l[k].cells.drop c)=1+cu l[k].cells[c].dat+jc (l[k].cells.drop (c+1)):=by simp only [jc];rw [mV hk4,dY,eB]
   have hcz:=Ag l[k].cells[c];obtain ⟨b3',o3,sA,sn,sc,tA,tn,tc,uA,un,uc,gA,gn,gc,rfl,hrow,hch,hcf⟩:=Ik hk4 (hcl.mono Jc).at_;have Ng:=adZ.mono Jc;rw [mV hk4,qH,Ij] at hR2;obtain ⟨y,hy⟩:∃ y,y=l[k].cells[c]:=⟨_,rfl⟩;rw [← hy] at hR2 hrow hch hcf hcz aeV aec;refine kP H (Kc eY (SQ fun _ gD=>SB (SR fun _ ig=>Ri rZ mM rfl rfl ?_)));clear H eY;intro a H;refine bJ mM (cs:=[_,_,_,_,_,_,_]) H wn rfl rfl (fun j v hj=>H.hp.aI (hrow j v hj)) rfl ?_;clear H;intro a H;refine eX mM H wn rfl ?_;clear H;intro b11 a w I7 H;refine bE mM 0 (vs:=[_,_,_,_,_,_,_]) _ H wn rfl rfl rfl rfl rfl rfl rfl rfl ?_;clear H;intro w H;dsimp only [List.set,setRow] at H;refine ig _ _ ?_;clear ig;refine kP H (SQ fun _ jF=>SR fun _ iW=>Rm rfl (aV IU aD 0 rfl rfl ?_));clear H;intro a H;refine gK LC (Li:=[_,_,_]) (L:=fu b ms ml mr mb mu s2.n :: (mb,eH (fB s2.aZ)) :: L) H wn rfl (KY _ _ _ st li rv b ms ml mr mb mu _ s2.aZ y.id Ng (Hp.owns (Li:=[_,_,_]) H.hp)) rfl ?_;clear H;rintro v56 _ _ a w ⟨rfl,rfl,rfl⟩ - H;dsimp only [lca,bq] at H;refine kH H (ak iW rfl (SR fun _ jd=>Rm rfl (Rc rfl (Kz jd (Cd rfl ?_ ?_))))) <;> clear H iW jd
   ·intro jr a H
    try have p58:=dT jr
    have hF1:(kR l.length (fun s=>iD (aQ st li rv) note t l s) s).1=oM s2.aZ y.id:=by rw [hE,hR2];simp [fG,jE,p58]
    have hF2:(kR l.length (fun s=>iD (aQ st li rv) note t l s) s).1=0→(⟨s2.n,jD s2.aZ y.id⟩:CS)=(kR l.length (fun s=>iD (aQ st li rv) note t l s) s).2:=fun h=>absurd (hF1.symm.trans h) p58;exact kP H (SR fun _ jP=>Rm rfl (ak jP rfl (LR results129 rfl fun H=>H.hp.gJ (L':=fu b ms ml mr mb mu s2.n :: (mb,eH (fB (jD s2.aZ y.id))) :: L) (by repeat (first|exact iA _|apply List.Sublist.cons)) ⟨⟨s2.n,jD s2.aZ y.id⟩,ay vi hF1.symm,rfl,hF2⟩)))
   intro jr a H
   try have p58:=dF jr
   have e58:oM s2.aZ y.id=0:=mW.1 p58;refine kP H (Kc jF (SQ fun _ jQ=>SR fun _ iL=>Rm rfl (Rf S9 rfl ?_)));clear H jF;intro a H;refine bJ pV (cs:=[_,_,_,_,_]) H wn rfl rfl (H.hp.dZ 0 rfl rfl) rfl ?_;clear H;intro a H;refine gK DW (Li:=[_,_,_]) (L:=fu b ms ml mr mb mu s2.n :: (mb,eH (fB (jD s2.aZ y.id))) :: L) H wn rfl (Eh _ _ _ st li rv b ms ml mr mb mu _ Ng (Hp.owns (Li:=[_,_,_]) H.hp) 10 y.head _ _ _ hch (by omega)) rfl ?_;clear H;rintro v63 _ _ a w ⟨rfl,rfl,rfl⟩ - H;dsimp only [lca,bq] at H;refine kH H (ak iL rfl (SR fun _ mQ=>Rm rfl (Rc rfl (Kz mQ (Cd rfl ?_ ?_))))) <;> clear H iL mQ
   ·intro qj a H
    try have p65:=dT qj
    have hF1:(kR l.length (fun s=>iD (aQ st li rv) note t l s) s).1=iw (aQ st li rv) 10 y.head:=by rw [hE,hR2];simp [fG,jE,e58,p65]
    have hF2:(kR l.length (fun s=>iD (aQ st li rv) note t l s) s).1=0→(⟨s2.n,jD s2.aZ y.id⟩:CS)=(kR l.length (fun s=>iD (aQ st li rv) note t l s) s).2:=fun h=>absurd (hF1.symm.trans h) p65;exact kP H (SR fun _ om=>Rm rfl (ak om rfl (LR results129 rfl fun H=>H.hp.gJ (L':=fu b ms ml mr mb mu s2.n :: (mb,eH (fB (jD s2.aZ y.id))) :: L) (by repeat (first|exact iA _|apply List.Sublist.cons)) ⟨⟨s2.n,jD s2.aZ y.id⟩,ay vi hF1.symm,rfl,hF2⟩)))
   intro qj a H
   try have p65:=dF qj
   have e65:iw (aQ st li rv) 10 y.head=0:=mW.1 p65;refine kP H (Kc jQ (SR fun _ oV=>Rm rfl (aV FP iH 0 rfl rfl ?_)));clear H jQ;intro a H;refine bJ J3 (cs:=[_,_,_]) H wn rfl rfl (H.hp.dZ 2 rfl rfl) rfl ?_;clear H;intro a H;refine gK FD (Li:=[_,_,_]) (L:=fu b ms ml mr mb mu s2.n :: (mb,eH (fB (jD s2.aZ y.id))) :: L) H wn rfl (ih _ _ _ st li rv b ms ml mr mb mu ⟨s2.n,jD s2.aZ y.id⟩ y.flow _ false note t Ng (Hp.owns (Li:=[_,_,_]) H.hp) hcf (by omega) ht0 Cz hm0 (by dsimp only;omega)) rfl ?_;clear H;rintro v71 _ _ a w ⟨rfl,s3,rfl,rfl,h3⟩ - H;dsimp only [lca,bq] at H;refine kH H (ak oV rfl (SR fun _ pY=>Rm rfl (Rc rfl (Kz pY (Cd rfl ?_ ?_))))) <;> clear H oV pY
   ·intro Mx a H
    try have p73:=dT Mx
    have hF1:(kR l.length (fun s=>iD (aQ st li rv) note t l s) s).1=(iZ (aQ st li rv) false note t y.flow ⟨s2.n,jD s2.aZ y.id⟩).1:=by rw [hE,hR2];simp [fG,jE,e58,e65,p73]
    have hF2:(kR l.length (fun s=>iD (aQ st li rv) note t l s) s).1=0→s3=(kR l.length (fun s=>iD (aQ st li rv) note t l s) s).2:=fun h=>absurd (hF1.symm.trans h) p73;exact kP H (SR fun _ oW=>Rm rfl (ak oW rfl (LR results129 rfl fun H=>H.hp.gJ (L':=fu b ms ml mr mb mu s3.n :: (mb,eH (fB s3.aZ)) :: L) (by repeat (first|exact iA _|apply List.Sublist.cons)) ⟨s3,ay vi hF1.symm,rfl,hF2⟩)))
   intro Mx a H
   try have p73:=dF Mx
   have Lj:(iZ (aQ st li rv) false note t y.flow ⟨s2.n,jD s2.aZ y.id⟩).1=0:=mW.1 p73;obtain ⟨hu1,hu2⟩:=Kh (aQ st li rv) false note t y.flow ⟨s2.n,jD s2.aZ y.id⟩;rw [← h3 Lj] at hu1 hu2;dsimp only at hu1 hu2
   have hS:fG (fG (fG (jE s2 y.id) fun s=>fG (iw (aQ st li rv) 10 y.head,s) fun s=>iZ (aQ st li rv) false note t y.flow s) fun s=>qH (aQ st li rv) note t (l[k].cells.drop (c+1)) s) (fun s=>iD (aQ st li rv) note t (l.drop (k+1)) s)=fG (qH (aQ st li rv) note t (l[k].cells.drop (c+1)) s3) (fun s=>iD (aQ st li rv) note t (l.drop (k+1)) s):=by
    rw [h3 Lj];simp [fG,jE,e58,e65,Lj]
   refine kP H (Kc gD (SC (Rd rfl (Rm rfl ?_))));clear H gD;intro a H;refine aH ?_;refine dD ((c+1,s3,g2)) (by exact (H.dU (Pl:=[_,_,_,_,_]) (dx:=[_,_,_,_]) [1,2,3,4] (by decide) rfl).sub ⟨rfl,rfl,rfl,rfl,rfl,rfl,rfl,rfl,aF⟩) ?_ ?_
   ·(try dsimp only);exact ⟨by omega,Jc,hR2.trans hS,by omega,by omega⟩
   first|omega|(dsimp only;omega)
  intro h50 a H
  try have p50:=dF h50
  refine dV ?_;refine bF _ _ ?_;clear bF;refine kP H (SC (Rd rfl (Rm rfl ?_)));clear H;intro a H;refine aH ?_;refine dD ((k+1,s2,g2)) (by exact (H.dU (Pl:=[_,_,_,_]) (dx:=[_,_,_]) [1,2,3] (by decide) rfl).sub ⟨rfl,rfl,rfl,rfl,rfl,aF⟩) ?_ ?_
  ·(try dsimp only);exact ⟨by omega,nU,by rw [hR2,iO (by omega),qH,Fq rfl],hm0,by omega⟩
  first|omega|(dsimp only;omega)
 intro dN a H
 try have jS:=dF dN
 refine dV ?_;refine K8 _ _ ?_;clear K8;refine bg (fun _ rz=>?_)
 have hF1:(kR l.length (fun s=>iD (aQ st li rv) note t l s) s).1=0:=by rw [hE,hR,iO (by omega),iD]
 have hF2:(kR l.length (fun s=>iD (aQ st li rv) note t l s) s).1=0→s1=(kR l.length (fun s=>iD (aQ st li rv) note t l s) s).2:=fun h=>by rw [hE,hR,iO (by omega),iD]
 exact kP H (SC (aU rz rfl (LR results129 rfl fun H=>H.hp.gJ (L':=fu b ms ml mr mb mu s1.n :: (mb,eH (fB s1.aZ)) :: L) (by repeat (first|exact iA _|apply List.Sublist.cons)) ⟨s1,ay vi hF1.symm,rfl,hF2⟩)))
end
section
open Go.RowKit
theorem aaI:∀ args w,(callFunc 129 args).run prog w=.ok (.enter 129 args) w:=enters func129 rfl (by kernel_rfl)
theorem aaH:∀ args w,(callFunc 127 args).run prog w=.ok (.enter 127 args) w:=enters func127 rfl (by kernel_rfl)
theorem Cb:bM prog 147 5 5:=⟨by kernel_rfl⟩
theorem acy:bM prog 106 0 0:=⟨by kernel_rfl⟩
theorem agq {G:GH} {b:Nat} {x:Int} (h:G b=some (.cells #[vi x] 56 (0,0))):av G (.sl 1 ([x].map fun k=>[li k])) (.slice (some ⟨b,0,none⟩) 1 1):=CG [x] h (show 1≤maxLen by decide)
theorem afr {m:Nat} (ih:Dy m) (hm:m≤4294967296) (Gt:GH) (L:OL) (w0:World) (st:List bG) (li:List fK) (rv:List eU) (b ms ml mr mb mu:Nat) (s:CS) (x:aA) (p d y f r:aj) (body note:Bool) (t:Int)
  (hck:sD Gt st li rv ms ml mr mu) (hO:gL Gt (fu b ms ml mr mb mu s.n :: (mb,eH (fB s.aZ)) :: L) w0) (hh:jm Gt x.head p d y) (hf:av Gt (.sl 11 (x.flow.map aA.dat)) f) (hr:av Gt (.sl 6 (x.rows.map bS.dat)) r) (hz:cu x.dat≤m) (ht0:0≤t) (Cz:t≤4) (hs0:0≤s.n) (hs1:s.n+(cu x.dat:Nat)≤1099511627776) :
  Calls prog 95 #[(aJ b 0),.agg #[vi x.kind,vi x.code,vi x.id,.string x.text,p,vi x.head.marks.ins,vi x.head.marks.move,d,y,f,r],.agg #[.bool body,.bool note,vi t]] w0 (fZ w0 Gt (fu b ms ml mr mb mu s.n :: (mb,eH (fB s.aZ)) :: L) fun u G' L'=>Hg b ms ml mr mb mu L (eG (aQ st li rv) body note t x s) u L'):=by
 obtain ⟨pA,pn,pc,rfl⟩:=hh.props.form;obtain ⟨dA,dn,dc,rfl⟩:=hh.bX.form;obtain ⟨lA,ln,lc,rfl⟩:=hh.layers.form;obtain ⟨fA,fc,rfl,-⟩:=hf.slice;obtain ⟨rA,rc,rfl,-⟩:=hr.slice;(iterate 2 rw [bT] at *);have hxz:=oU x;have hcl:=Fy x.text
 have Jt:fD x≤x.text.size+1:=by unfold fD;split <;> omega
 have hE:=NQ (aQ st li rv) body note t x s;refine jI (N:=117) (T:=[(0,_),(1,_),(2,_)]) func95 rfl ntmps95 rfl rfl hO ?_;intro a H;refine dz (fun _ K1=>?_);refine fC (cs:=[_,_,_,_,_,_,_,_,_,_,_]) H wn rfl rfl rfl ?_;clear H;intro b4 a w hb4 H;refine fC (cs:=[_,_,_]) H wn rfl rfl rfl ?_;clear H;intro b5 a w hb5 H;refine kH H (ak K1 rfl (SQ fun _ K2=>SR fun _ K3=>?_));clear H K1;intro a H;refine bJ dL (cs:=[_,_,_,_,_,_,_,_,_,_,_]) H wn rfl rfl (H.hp.dZ 1 rfl rfl) rfl ?_;clear H;intro a H;refine s_call aaH H wn rfl (adl _ _ H.ro x _ _ _ _ _ _ _ (by omega)) rfl ?_;clear H;rintro v15 _ a w ⟨rfl,rfl⟩ - H;refine kH H (ak K3 rfl (SR fun _ K4=>Rm rfl (Rc rfl (Kz K4 (Cd rfl ?_ ?_))))) <;> clear H K3 K4
 ·intro dO a H
  try have lN:=dT dO
  rw [Ig (r:=(jX x,s)) lN] at hE;exact kP H (SR fun _ K5=>Rm rfl (ak K5 rfl (LR results95 rfl fun H=>H.hp.gJ (L':=fu b ms ml mr mb mu s.n :: (mb,eH (fB s.aZ)) :: L) (by repeat (first|exact iA _|apply List.Sublist.cons)) ⟨s,by rw [hE],rfl,fun h=>by rw [hE]⟩)))
 intro dO a H
 try have lN:=dF dO
 rw [Fq (r:=(jX x,s)) (mW.1 lN)] at hE;dsimp only at hE;refine kP H (Kc K2 (SR fun _ K6=>Rm rfl (Rk rfl (aV Cb aD 2 rfl rfl (Rd rfl (Rk rfl (Rf Cb rfl ?_)))))));clear H K2;intro a H;refine bE aD 2 (vs:=[_]) _ H wn rfl rfl rfl rfl rfl rfl rfl rfl ?_;clear H;intro w H;dsimp only [List.set,setRow] at H;refine K6 _ _ ?_;clear K6;refine sP (ι:=CS × GH) (Tc:=[(0,_),(4,_),(5,_)]) (Lc:=[(_,_),(_,_)]) (fun gh=>[]) (fun gh=>[fu b ms ml mr mb mu gh.1.n,(mb,eH (fB gh.1.aZ))]++L) (fun gh=>gh.2) (fun gh=>jT body note t x.kind x.id ⟨s.n+(fD x:Nat),s.aZ⟩=(0,gh.1)∧(∀ b o,Gt b=some o→gh.2 b=some o)∧gh.1.n=s.n+(fD x:Nat)∧(x.kind=7→t < 4)) (by exact (H).sub ⟨rfl,rfl,rfl,aF⟩) ?_ ?_
 ·skip;refine kP H (SR fun _ K7=>aV jJ aD 1 rfl rfl (Kz K7 (SB (SR fun _ K8=>Rc rfl (ak K8 rfl (Cd rfl ?_ ?_)))))) <;> clear H K7 K8
  ·intro eP a H
   try have p28:=dT eP
   have hu:((fD x:Nat):Int)=uZ x.text:=by rw [fD,au p28]
   refine kP H (SR fun _ K9=>aV vv gG 1 rfl rfl ?_);clear H;intro a H;refine s_call Si H wn rfl (RD _ _ H.ro x.text (by omega)) rfl ?_;clear H;rintro v33 _ a w ⟨rfl,rfl⟩ - H;refine kH H (Rm rfl ?_);clear H;intro a H;(iterate 2 refine lQ H wn rfl rfl rfl ?_;clear H;intro a H);refine kH H (Ra rfl (ak K9 rfl (SC (Rm rfl (Rk rfl (aV Cb aD 2 rfl rfl (Rm rfl (Rs rfl (Rd rfl ?_)))))))));clear H K9;intro a H;rw [show s.n+1+((uZ x.text:Int) - 1)=s.n+(fD x:Nat) by omega] at H;refine kH H (Rk rfl (Rf Cb rfl ?_));clear H;intro a H;refine bE aD 2 (vs:=[_]) _ H wn rfl rfl rfl rfl rfl rfl rfl rfl ?_;clear H;intro w H;dsimp only [List.set,setRow] at H;refine aH ?_;refine ⟨(⟨s.n+(fD x:Nat),s.aZ⟩,Gt),by exact (H).sub ⟨rfl,rfl,rfl,aF⟩,?_⟩;(try dsimp only)
   first
   | exact ⟨by simp_all [jT,bP,fG,jE],fun _ _ h=>h,rfl,fun h7=>by first|omega|(exfalso;simp_all)⟩
   | exact ⟨by simp_all [jT,bP,fG,jE],tC,rfl,fun h7=>by first|omega|(exfalso;simp_all)⟩
  intro eP a H
  try have p28:=dF eP
  have hu:((fD x:Nat):Int)=1:=by rw [fD,ah p28];rfl
  rw [show s.n+1=s.n+((fD x:Nat):Int) by omega] at H;refine kP H (SR fun _ aT=>Rc rfl (ak aT rfl (Cd rfl ?_ ?_))) <;> clear H aT
  ·intro h45 a H
   try have p45:=dT h45
   refine kP H (SR fun _ bC=>aV acy wY 0 rfl rfl (Rn rfl (Kz bC (Cd rfl ?_ ?_)))) <;> clear H bC
   ·intro IZ a H
    try have p49:=dT IZ
    refine bg (fun _ bF=>?_)
    have hF1:(eG (aQ st li rv) body note t x s).1=19:=by rw [hE];simp [fG,jT,p45,bP,IZ]
    have hF2:(eG (aQ st li rv) body note t x s).1=0→(⟨s.n+(fD x:Nat),s.aZ⟩:CS)=(eG (aQ st li rv) body note t x s).2:=fun h=>absurd (hF1.symm.trans h) (by decide);exact kP H (SC (aU bF rfl (LR results95 rfl fun H=>H.hp.gJ (L':=fu b ms ml mr mb mu (s.n+(fD x:Nat)) :: (mb,eH (fB (s.aZ))) :: L) (by repeat (first|exact iA _|apply List.Sublist.cons)) ⟨⟨s.n+(fD x:Nat),s.aZ⟩,ay vi hF1.symm,rfl,hF2⟩)))
   intro IZ a H
   try have p49:=dF IZ
   refine gI ?_;refine ⟨(⟨s.n+(fD x:Nat),s.aZ⟩,Gt),by exact (H).sub ⟨rfl,rfl,rfl,aF⟩,?_⟩;(try dsimp only)
   first
   | exact ⟨by simp_all [jT,bP,fG,jE],fun _ _ h=>h,rfl,fun h7=>by first|omega|(exfalso;simp_all)⟩
   | exact ⟨by simp_all [jT,bP,fG,jE],tC,rfl,fun h7=>by first|omega|(exfalso;simp_all)⟩
  intro h45 a H
  try have p45:=dF h45
  refine kP H (SR fun _ bN=>Rc rfl (ak bN rfl (Cd rfl ?_ ?_))) <;> clear H bN
  ·intro h50 a H
   try have p50:=dT h50
   refine kP H (SQ fun _ bQ=>SR fun _ dJ=>aV LX wY 0 rfl rfl ?_);clear H;intro a H;refine s_call iP H wn rfl (iR _ _ H.ro _ 19) rfl ?_;clear H;rintro v54 _ a w ⟨rfl,rfl⟩ - H;refine gP nJ fV [_] [_] H wn rfl rfl rfl rfl rfl (by intro i q h;match i,h with|0,h=>exact h|n+1,h=>simp at h) rfl rfl ?_;clear H;intro b55 a w ajM H;obtain ⟨Hy,tC,adV,H⟩:=H.dM;refine s_call oI H wn rfl (oK _ _ H.ro _ _ (agq adV)) rfl ?_;clear H;rintro v56 _ a w ⟨rfl,rfl⟩ - H;refine kH H (ak dJ rfl (SR fun _ dG=>Rm rfl (Rc rfl (Kz dG (Cd rfl ?_ ?_))))) <;> clear H dJ dG
   ·intro jr a H
    try have p58:=dT jr
    have e58:bP note 19≠0:=fun h=>p58 (by rw [h];rfl)
    have afb:cO [bP note 19]=bP note 19:=by simp [cO,e58]
    rw [afb] at H
    have hF1:(eG (aQ st li rv) body note t x s).1=bP note 19:=by rw [hE];simp [fG,jT,p50,e58]
    have hF2:(eG (aQ st li rv) body note t x s).1=0→(⟨s.n+(fD x:Nat),s.aZ⟩:CS)=(eG (aQ st li rv) body note t x s).2:=fun h=>absurd (hF1.symm.trans h) (e58);exact kP H (SR fun _ dh=>Rm rfl (ak dh rfl (LR results95 rfl fun H=>H.hp.gJ (L':=fu b ms ml mr mb mu (s.n+(fD x:Nat)) :: (mb,eH (fB (s.aZ))) :: L) (by repeat (first|exact iA _|apply List.Sublist.cons)) ⟨⟨s.n+(fD x:Nat),s.aZ⟩,ay vi hF1.symm,rfl,hF2⟩)))
   intro jr a H
   try have p58:=dF jr
   have e58:bP note 19=0:=Decidable.byContradiction fun h=>p58 (by simp [cO,h]);refine kP H (Kc bQ (SR fun _ dX=>Rm rfl (aV Ch aD 1 rfl rfl ?_)));clear H bQ;intro a H;refine gK LC (Li:=[_,_]) (L:=fu b ms ml mr mb mu _ :: (mb,eH (fB s.aZ)) :: L) H wn rfl (KY _ _ _ st li rv b ms ml mr mb mu _ s.aZ x.id (hck.mono tC) (Hp.owns (Li:=[_,_]) H.hp)) rfl ?_;clear H;rintro v63 _ _ a w ⟨rfl,rfl,rfl⟩ - H;dsimp only [lca,bq] at H;refine kH H (ak dX rfl (SR fun _ gy=>Rm rfl (Rc rfl (Kz gy (Cd rfl ?_ ?_))))) <;> clear H dX gy
   ·intro qj a H
    try have p65:=dT qj
    have hF1:(eG (aQ st li rv) body note t x s).1=oM s.aZ x.id:=by rw [hE];simp [fG,jT,p50,e58,jE,p65]
    have hF2:(eG (aQ st li rv) body note t x s).1=0→(⟨s.n+(fD x:Nat),jD s.aZ x.id⟩:CS)=(eG (aQ st li rv) body note t x s).2:=fun h=>absurd (hF1.symm.trans h) (p65);exact kP H (SR fun _ eY=>Rm rfl (ak eY rfl (LR results95 rfl fun H=>H.hp.gJ (L':=fu b ms ml mr mb mu (s.n+(fD x:Nat)) :: (mb,eH (fB (jD s.aZ x.id))) :: L) (by repeat (first|exact iA _|apply List.Sublist.cons)) ⟨⟨s.n+(fD x:Nat),jD s.aZ x.id⟩,ay vi hF1.symm,rfl,hF2⟩)))
   intro qj a H
   try have p65:=dF qj
   have e65:oM s.aZ x.id=0:=mW.1 p65;refine gI ?_;refine ⟨(⟨s.n+(fD x:Nat),jD s.aZ x.id⟩,Hy),by exact (H).sub ⟨rfl,rfl,rfl,aF⟩,?_⟩;(try dsimp only)
   first
   | exact ⟨by simp_all [jT,bP,fG,jE],fun _ _ h=>h,rfl,fun h7=>by first|omega|(exfalso;simp_all)⟩
   | exact ⟨by simp_all [jT,bP,fG,jE],tC,rfl,fun h7=>by first|omega|(exfalso;simp_all)⟩
  intro h50 a H
  try have p50:=dF h50
  refine kP H (SR fun _ gD=>Rc rfl (ak gD rfl (Cd rfl ?_ ?_))) <;> clear H gD
  ·intro Mv a H
   try have p67:=dT Mv
   refine kP H (SQ fun _ ig=>SR fun _ jF=>aV FH aD 0 rfl rfl (Rc rfl (Kz jF (Cd rfl ?_ ?_)))) <;> clear H jF
   ·intro Mw a H
    try have p71:=dT Mw
    refine bg (fun _ iW=>?_)
    have hF1:(eG (aQ st li rv) body note t x s).1=17:=by rw [hE];simp [fG,jT,p67,bP,p71]
    have hF2:(eG (aQ st li rv) body note t x s).1=0→(⟨s.n+(fD x:Nat),s.aZ⟩:CS)=(eG (aQ st li rv) body note t x s).2:=fun h=>absurd (hF1.symm.trans h) (by decide);exact kP H (SC (aU iW rfl (LR results95 rfl fun H=>H.hp.gJ (L':=fu b ms ml mr mb mu (s.n+(fD x:Nat)) :: (mb,eH (fB (s.aZ))) :: L) (by repeat (first|exact iA _|apply List.Sublist.cons)) ⟨⟨s.n+(fD x:Nat),s.aZ⟩,ay vi hF1.symm,rfl,hF2⟩)))
   intro Mw a H
   try have p71:=dF Mw
   have e71:¬ 4≤t:=by omega
   refine kP H (Kc ig (SR fun _ jd=>Rm rfl (aV Ch aD 1 rfl rfl ?_)));clear H ig;intro a H;refine gK LC (Li:=[_,_]) (L:=fu b ms ml mr mb mu _ :: (mb,eH (fB s.aZ)) :: L) H wn rfl (KY _ _ _ st li rv b ms ml mr mb mu _ s.aZ x.id hck (Hp.owns (Li:=[_,_]) H.hp)) rfl ?_;clear H;rintro v75 _ _ a w ⟨rfl,rfl,rfl⟩ - H;dsimp only [lca,bq] at H;refine kH H (ak jd rfl (SR fun _ jP=>Rm rfl (Rc rfl (Kz jP (Cd rfl ?_ ?_))))) <;> clear H jd jP
   ·intro Cn a H
    try have Ew:=dT Cn
    have hF1:(eG (aQ st li rv) body note t x s).1=oM s.aZ x.id:=by rw [hE];simp [fG,jT,p67,bP,e71,jE,Ew]
    have hF2:(eG (aQ st li rv) body note t x s).1=0→(⟨s.n+(fD x:Nat),jD s.aZ x.id⟩:CS)=(eG (aQ st li rv) body note t x s).2:=fun h=>absurd (hF1.symm.trans h) (Ew);exact kP H (SR fun _ jQ=>Rm rfl (ak jQ rfl (LR results95 rfl fun H=>H.hp.gJ (L':=fu b ms ml mr mb mu (s.n+(fD x:Nat)) :: (mb,eH (fB (jD s.aZ x.id))) :: L) (by repeat (first|exact iA _|apply List.Sublist.cons)) ⟨⟨s.n+(fD x:Nat),jD s.aZ x.id⟩,ay vi hF1.symm,rfl,hF2⟩)))
   intro Cn a H
   try have Ew:=dF Cn
   have e77:oM s.aZ x.id=0:=mW.1 Ew;refine gI ?_;refine ⟨(⟨s.n+(fD x:Nat),jD s.aZ x.id⟩,Gt),by exact (H).sub ⟨rfl,rfl,rfl,aF⟩,?_⟩;(try dsimp only)
   first
   | exact ⟨by simp_all [jT,bP,fG,jE],fun _ _ h=>h,rfl,fun h7=>by first|omega|(exfalso;simp_all)⟩
   | exact ⟨by simp_all [jT,bP,fG,jE],tC,rfl,fun h7=>by first|omega|(exfalso;simp_all)⟩
  intro Mv a H
  try have p67:=dF Mv
  refine kP H (SR fun _ iL=>Rc rfl (ak iL rfl (Cd rfl ?_ ?_))) <;> clear H iL
  ·intro AO a H
   try have Oi:=dT AO
   refine kP H (SR fun _ mQ=>aV Ch aD 1 rfl rfl ?_);clear H;intro a H;refine s_call um H wn rfl (uI _ _ H.ro x.id 1 1073741824) rfl ?_;clear H;rintro v83 _ a w ⟨rfl,rfl⟩ - H;refine kH H (Rn rfl (Kz mQ (Cd rfl ?_ ?_))) <;> clear H mQ
   ·intro h84 a H
    try have p84:=dT h84
    refine bg (fun _ om=>?_)
    have e84:¬ (1≤x.id∧x.id≤1073741824):=by have h0:=h84;simp at h0;omega
    have hF1:(eG (aQ st li rv) body note t x s).1=18:=by rw [hE];simp [fG,jT,Oi,bP,e84]
    have hF2:(eG (aQ st li rv) body note t x s).1=0→(⟨s.n+(fD x:Nat),s.aZ⟩:CS)=(eG (aQ st li rv) body note t x s).2:=fun h=>absurd (hF1.symm.trans h) (by decide);exact kP H (SC (aU om rfl (LR results95 rfl fun H=>H.hp.gJ (L':=fu b ms ml mr mb mu (s.n+(fD x:Nat)) :: (mb,eH (fB (s.aZ))) :: L) (by repeat (first|exact iA _|apply List.Sublist.cons)) ⟨⟨s.n+(fD x:Nat),s.aZ⟩,ay vi hF1.symm,rfl,hF2⟩)))
   intro h84 a H
   try have p84:=dF h84
   refine gI ?_;refine ⟨(⟨s.n+(fD x:Nat),s.aZ⟩,Gt),by exact (H).sub ⟨rfl,rfl,rfl,aF⟩,?_⟩;(try dsimp only)
   first
   | exact ⟨by simp_all [jT,bP,fG,jE],fun _ _ h=>h,rfl,fun h7=>by first|omega|(exfalso;simp_all)⟩
   | exact ⟨by simp_all [jT,bP,fG,jE],tC,rfl,fun h7=>by first|omega|(exfalso;simp_all)⟩
  intro AO a H
  try have Oi:=dF AO
  refine gI ?_;refine ⟨(⟨s.n+(fD x:Nat),s.aZ⟩,Gt),by exact (H).sub ⟨rfl,rfl,rfl,aF⟩,?_⟩;(try dsimp only)
  first
  | exact ⟨by simp_all [jT,bP,fG,jE],fun _ _ h=>h,rfl,fun h7=>by first|omega|(exfalso;simp_all)⟩
  | exact ⟨by simp_all [jT,bP,fG,jE],tC,rfl,fun h7=>by first|omega|(exfalso;simp_all)⟩
 clear H;intro gh a w hI H;obtain ⟨s1,g⟩:=gh;dsimp only at hI H;obtain ⟨hP,uF,akj,ht7⟩:=hI;rw [hP,Fq rfl] at hE;dsimp only at hE;replace hck:=hck.mono uF;replace hh:=hh.mono uF;replace hf:=hf.mono uF;replace hr:=hr.mono uF;dsimp only [lca,bq] at H;refine kP H (SQ fun _ oV=>SR fun _ pY=>Rm rfl (aV jJ aD 1 rfl rfl (Rf Aw rfl ?_)));clear H;intro a H;refine bJ pV (cs:=[_,_,_,_,_]) H wn rfl rfl (H.hp.dZ 1 rfl rfl) rfl ?_;clear H;intro a H;refine gK DW (Li:=[_,_]) (L:=fu b ms ml mr mb mu s1.n :: (mb,eH (fB s1.aZ)) :: L) H wn rfl (Eh _ _ _ st li rv b ms ml mr mb mu _ hck (Hp.owns (Li:=[_,_]) H.hp) x.kind x.head _ _ _ hh (by omega)) rfl ?_;clear H;rintro v90 _ _ a w ⟨rfl,rfl,rfl⟩ - H;dsimp only [lca,bq] at H;refine kH H (ak pY rfl (SR fun _ oW=>Rm rfl (Rc rfl (Kz oW (Cd rfl ?_ ?_))))) <;> clear H pY oW
 ·intro MF a H
  try have JD:=dT MF
  have hF1:(eG (aQ st li rv) body note t x s).1=iw (aQ st li rv) x.kind x.head:=by rw [hE,Ig (r:=(iw (aQ st li rv) x.kind x.head,s1)) JD]
  have hF2:(eG (aQ st li rv) body note t x s).1=0→s1=(eG (aQ st li rv) body note t x s).2:=fun h=>absurd (hF1.symm.trans h) JD;exact kP H (SR fun _ rz=>Rm rfl (ak rz rfl (LR results95 rfl fun H=>H.hp.gJ (L':=fu b ms ml mr mb mu (s1.n) :: (mb,eH (fB (s1.aZ))) :: L) (by repeat (first|exact iA _|apply List.Sublist.cons)) ⟨s1,ay vi hF1.symm,rfl,hF2⟩)))
 intro MF a H
 try have JD:=dF MF
 rw [Fq (r:=(iw (aQ st li rv) x.kind x.head,s1)) (mW.1 JD)] at hE;dsimp only at hE;refine kP H (Kc oV (SQ fun _ tV=>SR fun _ qD=>aV jJ aD 1 rfl rfl (Kz qD (SB (SR fun _ vV=>Rc rfl (ak vV rfl (Cd rfl ?_ ?_))))))) <;> clear H oV qD vV
 ·intro ql a H
  try have GL:=dT ql
  rw [au GL] at hE;refine kP H (SR fun _ BI=>Rm rfl (aV ze iH 1 rfl rfl (aV FH aD 0 rfl rfl ?_)));clear H;intro a H;refine jZ Bp [_,_,_] H wn rfl rfl rfl rfl ?_;clear H;intro a H;refine gK FD (Li:=[_,_]) (L:=fu b ms ml mr mb mu s1.n :: (mb,eH (fB s1.aZ)) :: L) H wn rfl (ih _ _ _ st li rv b ms ml mr mb mu s1 x.flow _ false true t hck (Hp.owns (Li:=[_,_]) H.hp) hf (by omega) ht0 Cz (by omega) (by omega)) rfl ?_;clear H;rintro akw _ _ a w ⟨rfl,s3,rfl,rfl,h3⟩ - H;dsimp only [lca,bq] at H
  have hF1:(eG (aQ st li rv) body note t x s).1=(iZ (aQ st li rv) false true t x.flow s1).1:=by rw [hE]
  have hF2:(eG (aQ st li rv) body note t x s).1=0→s3=(eG (aQ st li rv) body note t x s).2:=by rw [hE];exact h3
  exact kH H (ak BI rfl (LR results95 rfl fun H=>H.hp.gJ (L':=fu b ms ml mr mb mu (s3.n) :: (mb,eH (fB (s3.aZ))) :: L) (by repeat (first|exact iA _|apply List.Sublist.cons)) ⟨s3,ay vi hF1.symm,rfl,hF2⟩))
 intro ql a H
 try have GL:=dF ql
 rw [ah GL] at hE;refine kP H (SR fun _ BJ=>Rc rfl (ak BJ rfl (Cd rfl ?_ ?_))) <;> clear H BJ
 ·intro oL a H
  try have Ev:=dT oL
  rw [au Ev] at hE;refine kP H (SR fun _ oo=>Rm rfl (aV uw uQ 1 rfl rfl (aV LX wY 0 rfl rfl (aV FH aD 0 rfl rfl (Rd rfl ?_)))));clear H;intro a H;refine jZ Bp [_,_,_] H wn rfl rfl rfl rfl ?_;clear H;intro a H;refine gK aaI (Li:=[_,_]) (L:=fu b ms ml mr mb mu s1.n :: (mb,eH (fB s1.aZ)) :: L) H wn rfl (rows_ok ih hm _ _ _ st li rv b ms ml mr mb mu s1 x.rows _ note (t+1) hck (Hp.owns (Li:=[_,_]) H.hp) hr (by omega) (by omega) (by have:=ht7 Ev;omega) (by omega) (by omega)) rfl ?_;clear H;rintro akx _ _ a w ⟨s3,rfl,rfl,h3⟩ - H;dsimp only [lca,bq] at H
  have hF1:(eG (aQ st li rv) body note t x s).1=(kR x.rows.length (fun s=>iD (aQ st li rv) note (t+1) x.rows s) s1).1:=by rw [hE]
  have hF2:(eG (aQ st li rv) body note t x s).1=0→s3=(eG (aQ st li rv) body note t x s).2:=by rw [hE];exact h3
  exact kH H (ak oo rfl (LR results95 rfl fun H=>H.hp.gJ (L':=fu b ms ml mr mb mu (s3.n) :: (mb,eH (fB (s3.aZ))) :: L) (by repeat (first|exact iA _|apply List.Sublist.cons)) ⟨s3,ay vi hF1.symm,rfl,hF2⟩))
 intro oL a H
 try have Ev:=dF oL
 rw [ah Ev] at hE
 have hF1:(eG (aQ st li rv) body note t x s).1=0:=by rw [hE]
 have hF2:(eG (aQ st li rv) body note t x s).1=0→s1=(eG (aQ st li rv) body note t x s).2:=fun h=>by rw [hE]
 exact kP H (Kc tV (SR fun _ DC=>ak DC rfl (LR results95 rfl fun H=>H.hp.gJ (L':=fu b ms ml mr mb mu (s1.n) :: (mb,eH (fB (s1.aZ))) :: L) (by repeat (first|exact iA _|apply List.Sublist.cons)) ⟨s1,ay vi hF1.symm,rfl,hF2⟩)))
end
section
open Go.RowKit
theorem abW:∀ args w,(callFunc 95 args).run prog w=.ok (.enter 95 args) w:=enters func95 rfl (by kernel_rfl)
theorem abV:∀ args w,(callFunc 94 args).run prog w=.ok (.enter 94 args) w:=enters func94 rfl (by kernel_rfl)
def P9 (fv:aj) (Gi:GH) (n:Nat) (E:Nat→Int) {σ:Type} (B:σ→OL) (S:Nat→σ):Prop:=∀ i,i < n→∀ (G1:GH) (w1:World),(∀ b o,Gi b=some o→G1 b=some o)→gL G1 (B (S i)) w1 →
 sw prog fv [vi i] w1 (fZ w1 G1 (B (S i)) fun u G' L'=>∃ s,u=vi (E i)∧L'=B s∧(E i=0→s=S (i+1)))
theorem YG (G:GH) (w0:World) {σ:Type} (B:σ→OL) (S:Nat→σ) (n:Nat) (E:Nat→Int) (fv:aj) (hO:gL G (B (S 0)) w0) (hn:n≤4611686018427387904) (hf:P9 fv G n E B S) :
  Calls prog 84 #[vi n,fv] w0 (fZ w0 G (B (S 0)) fun u G' L'=>∃ s,u=vi (jR E n)∧L'=B s∧(jR E n=0→s=S n)):=by
 refine jI (N:=18) (T:=[(0,_),(1,_)]) func84 rfl ntmps84 rfl rfl hO ?_;intro a H;refine kP H (SR fun _ K1=>ak K1 rfl (SQ fun _ K2=>SR fun _ K3=>Rm rfl (Rm rfl (Kz K3 (SB ?_)))));clear H K1 K3;intro a H;skip;refine fH (ι:=Nat × GH) (Tc:=[(1,_),(7,_)]) (Lc:=[]) (fun gh=>[(8,vi gh.1)]) (fun gh=>[]++B (S gh.1)) (fun gh=>gh.2) (fun gh=>gh.1≤n∧cO (((List.range n).map E).drop gh.1)=jR E n∧(∀ b o,G b=some o→gh.2 b=some o)) (fun gh=>n - gh.1) ((0,G)) (by exact (H).sub ⟨rfl,rfl,rfl,aF⟩) ?_ ?_
 ·exact ⟨iY _,rfl,fun _ _ h=>h⟩
 clear H;intro gh a w hI H;obtain ⟨k,g⟩:=gh;dsimp only at hI H;obtain ⟨hk,he,hgm⟩:=hI;dsimp only [lca,bq] at H;refine kP H (SR fun _ K4=>Rc rfl (Kz K4 (SQ fun _ K5=>Cd rfl ?_ ?_))) <;> clear H K4
 ·intro h9 a H
  try have p9:=dT h9
  have hk2:k < n:=by omega
  refine kP H (Kc K5 (SQ fun _ K6=>SB (SR fun _ K7=>Rm rfl (ak K7 rfl (SR fun _ K8=>Rm rfl (Rm rfl ?_))))));clear H K5 K7;intro a H;refine EB (Li:=[]) (L:=B (S k)) H wn rfl rfl (hf k hk2 _ _ hgm (Hp.owns (Li:=[]) H.hp)) rfl ?_;clear H;rintro v13 ET L13 a w ⟨s3,rfl,rfl,h3⟩ Jg H;refine kH H (ak K8 rfl (SR fun _ K9=>Rm rfl (Rc rfl (Kz K9 (Cd rfl ?_ ?_))))) <;> clear H K8 K9
  ·intro nE a H
   try have rV:=dT nE
   have hE:jR E n=E k:=by rw [BS hk2,au rV] at he;exact he.symm
   exact kP H (SR fun _ aT=>Rm rfl (ak aT rfl (LR results84 rfl fun H=>H.hp.dW ⟨s3,by rw [hE],rfl,fun h=>absurd (hE.symm.trans h) rV⟩)))
  intro nE a H
  try have rV:=dF nE
  have hS:=h3 (mW.1 rV);subst hS;refine kP H (Kc K6 (SC (Rd rfl (Rm rfl ?_))));clear H K6;intro a H;refine aH ?_;refine dD ((k+1,ET)) (by exact (H).sub ⟨rfl,rfl,rfl,aF⟩) ?_ ?_
  ·(try dsimp only);exact ⟨by omega,by rw [BS hk2,ah rV] at he;exact he,fun b o h=>Jg b o (hgm b o h)⟩
  first|omega|(dsimp only;omega)
 intro h9 a H
 try have p9:=dF h9
 refine dV ?_;refine K2 _ _ ?_;clear K2;exact kP H (SR fun _ bC=>ak bC rfl (LR results84 rfl fun H=>H.hp.dW ⟨S n,ay vi (by rw [iO (by simp;omega)] at he;exact he),by rw [show k=n by omega],fun _=>rfl⟩))
abbrev Ip (b ms ml mr mb mu:Nat) (L:OL) (s:CS):OL:=fu b ms ml mr mb mu s.n :: (mb,eH (fB s.aZ)) :: L
theorem afq {m:Nat} (ih:Dy m) (hm:m≤4294967296) {G:GH} {L:OL} {st:List bG} {li:List fK} {rv:List eU} {b ms ml mr mb mu:Nat} {s:CS} {l:List aA} {v:aj} {body note:Bool} {t:Int} {x3 x4 x5:Nat}
  (hck:sD G st li rv ms ml mr mu) (h3:aI G x3 0=some (aJ b 0)) (h4:aI G x4 0=some v) (h5:∀ (j:Nat) (u:aj),[.bool body,.bool note,vi t][j]?=some u→aI G x5 (0+j)=some u)
  (hv:av G (.sl 11 (l.map aA.dat)) v) (hz:bA l≤m) (ht0:0≤t) (Cz:t≤4) (hs0:0≤s.n) (hs1:s.n+(bA l:Nat)≤1099511627776) :
  P9 (.func (.func 94) #[] #[(aJ x3 0),(aJ x4 0),(aJ x5 0)]) G l.length (yY (eG (aQ st li rv) body note t) l s) (Ip b ms ml mr mb mu L) (nY (eG (aQ st li rv) body note t) l s):=by
 intro k hk G1 w0 F9 hO;refine lV (caps:=[(aJ x3 0),(aJ x4 0),(aJ x5 0)]) abV ?_;replace h3:=aK F9 h3;replace h4:=aK F9 h4;replace h5:=fun j u hj=>aK F9 (h5 j u hj);replace hck:=hck.mono F9;replace hv:=hv.mono F9;obtain ⟨A,c,rfl,hc1,hc2,hg⟩:=hv.slice;rw [bT] at *;obtain ⟨o,xo,pA,pn,pc,dA,dn,dc,yA,yn,yc,fA,fn,fc,rA,rn,rc,rfl,hrow,hhd,hfl,hrw⟩:=AA hk hg;obtain ⟨hn0,hn1⟩:=Xe (aQ st li rv) body note t l s k (by omega)
 have hdz:bA (l.drop k)=1+cu l[k].dat+bA (l.drop (k+1)):=by
  simp only [bA];rw [mV hk,dY,eB]
 have UG:=Km (jo hk)
 have hE:yY (eG (aQ st li rv) body note t) l s k=(eG (aQ st li rv) body note t l[k] (nY (eG (aQ st li rv) body note t) l s k)).1:=by unfold yY;rw [gM hk]
 have hS:nY (eG (aQ st li rv) body note t) l s (k+1)=(eG (aQ st li rv) body note t l[k] (nY (eG (aQ st li rv) body note t) l s k)).2:=by rw [nY,gM hk]
 rw [hE,hS]
 generalize nY (eG (aQ st li rv) body note t) l s k=s1 at *
 refine jI (N:=13) (T:=[(0,_),(1,_),(2,_),(3,_)]) func94 rfl ntmps94 rfl rfl hO ?_;intro a H;refine kP H (SR fun _ K1=>ak K1 rfl (SQ fun _ K2=>?_));clear H K1;intro a H;refine dI hmx [[],[],[],[1,2],[1,2,3],[],(ra 0 6),(ra 0 7)] [6,7] (by kernel_rfl) [_,_,_,_,.agg #[vi l[k].kind,vi l[k].code,vi l[k].id,.string l[k].text,.slice pA pn pc,vi l[k].head.marks.ins,vi l[k].head.marks.move,.slice dA dn dc,.slice yA yn yc,.slice fA fn fc,.slice rA rn rc],.agg #[.bool body,.bool note,vi t]] H (aB (X0 rfl fun hG=>Rg EH rfl (aK hG h3)) (X0 rfl fun hG=>Rg iH rfl (aK hG h4)) (Z0 rfl (Rm rfl)) (Z2 1 7 2 8 rfl (Ri gQ dL rfl rfl)) (aB ?_ ?_ (bH rfl) (bH rfl) bW)) ?_
 ·refine dw 3 9 rfl rfl fun _ a w G1 hG HT H fin=>?_;refine bJ dL (cs:=[_,_,_,_,_,_,_,_,_,_,_]) H wn rfl rfl (fun j v hj=>H.hp.aI (aK hG (hrow j v hj))) rfl ?_;clear H;intro a H;exact fin H iJ rfl
 ·refine yM rfl fun _ a w G1 hG HT H fin=>?_;refine bJ J3 (cs:=[.bool body,.bool note,vi t]) H wn rfl rfl (fun j v hj=>H.hp.aI (aK hG (h5 j v hj))) rfl ?_;clear H;intro a H;exact fin H iJ rfl
 clear H;intro a w G mH H hv;have H:=H.aS (hv 0 6 rfl rfl) rfl;have H:=H.aS (hv 4 10 rfl rfl) rfl;have H:=H.aS (hv 5 11 rfl rfl) rfl;clear hv;refine gK abW (Li:=[]) (L:=Ip b ms ml mr mb mu L s1) H wn rfl (afr ih hm _ _ _ st li rv b ms ml mr mb mu s1 l[k] _ _ _ _ _ body note t (hck.mono mH) (Hp.owns (Li:=[]) H.hp) (hhd.mono mH) (hfl.mono mH) (hrw.mono mH) (by omega) ht0 Cz (by omega) (by omega)) rfl ?_;clear H;rintro v12 _ _ a w ⟨s3,rfl,rfl,h12⟩ - H;dsimp only [List.nil_append] at H;refine kH H (Ra rfl ?_);clear H;intro a H;refine aH ⟨rfl,?_⟩;refine K2 _ _ ?_;clear K2;refine lr H results94 rfl ?_;exact H.hp.dW ⟨s3,rfl,rfl,h12⟩
theorem afv {m:Nat} (ih:Dy m) (hm:m≤4294967296):Dy (m+1):=by
 intro G L w0 st li rv b ms ml mr mb mu s l v body note t hck hO hv hz ht0 Cz hs0 hs1;obtain ⟨hA1,hA2⟩:=UQ (aQ st li rv) body note t l s;refine Calls.Y0 (R:=fun u G' L'=>Hg b ms ml mr mb mu L (iZ (aQ st li rv) body note t l s) u L') ?_ fun _ _ _ h=>h;obtain ⟨A,c,rfl,hc1,hc2,-⟩:=hv.slice;rw [bT] at *;have hll:=Dr l;refine jI (N:=11) (T:=[(0,_),(1,_),(2,_)]) func60 rfl ntmps60 rfl rfl hO ?_;intro a H;refine dz (fun _ K1=>?_);refine fC (cs:=[_]) H wn rfl rfl rfl ?_;clear H;intro b3 a w hb3 H;refine fC (cs:=[_]) H wn rfl rfl rfl ?_;clear H;intro b4 a w hb4 H;refine fC (cs:=[_,_,_]) H wn rfl rfl rfl ?_;clear H;intro b5 a w hb5 H;refine kH H (ak K1 rfl (SQ fun _ K2=>?_));clear H K1;intro a H;obtain ⟨Yd,Jj,xQ,H⟩:=H.dM;obtain ⟨Yc,Em,wG,H⟩:=H.dM;obtain ⟨Ga,Bb,zD,H⟩:=H.dM;replace xQ:=Bb _ _ (Em _ _ xQ);replace wG:=Bb _ _ wG;have hma:∀ b o,G b=some o→Ga b=some o:=fun b o h=>Bb _ _ (Em _ _ (Jj _ _ h))
 have g3:aI Ga b3 0=some (aJ b 0):=by unfold aI;rw [zD];rfl
 have g4:aI Ga b4 0=some (.slice A l.length c):=by unfold aI;rw [wG];rfl
 have g5:∀ (j:Nat) (u:aj),[.bool body,.bool note,vi t][j]?=some u→aI Ga b5 (0+j)=some u:=by
  intro j u hj;unfold aI;rw [xQ];simpa using hj
 have hcb:=afq (mb:=mb) (L:=L) (s:=s) ih hm (hck.mono hma) g3 g4 g5 (hv.mono hma) (by omega) ht0 Cz hs0 hs1;refine kP H (SC (Rg iH rfl (by assumption) ?_));clear H;intro a H;refine kH H (Rl gQ rfl ?_);clear H;intro a H;refine pU H wn rfl rfl ?_;clear H;intro a H;refine gK DY (Li:=[]) (L:=Ip b ms ml mr mb mu L s) H wn rfl (YG _ _ (Ip b ms ml mr mb mu L) (nY (eG (aQ st li rv) body note t) l s) l.length (yY (eG (aQ st li rv) body note t) l s) _ (Hp.owns (Li:=[]) H.hp) (by omega) hcb) rfl ?_;clear H;rintro v10 _ _ a w ⟨s3,rfl,rfl,h10⟩ - H;dsimp only [List.nil_append] at H;exact kH H (aU K2 rfl (LR results60 rfl fun H=>H.hp.dW ⟨s3,by rw [hA1],rfl,fun h=>by rw [hA1] at h;exact (h10 h).trans (hA2 (hA1.trans h)).symm⟩))
theorem Jw:∀ m:Nat,m≤4294967297→Dy m
 | 0,_=>fun _ _ _ _ _ _ _ _ _ _ _ _ _ _ _ _ _ _ _ _ _ h=>absurd h (by omega)
 | m+1,hm=>afv (Jw m (by omega)) (by omega)
end
section
open Go.RowKit
theorem acB:bM prog 176 1 1:=⟨by kernel_rfl⟩
theorem acC:bM prog 176 2 2:=⟨by kernel_rfl⟩
theorem abS:∀ args w,(callFunc 87 args).run prog w=.ok (.enter 87 args) w:=enters func87 rfl (by kernel_rfl)
theorem abR:∀ args w,(callFunc 85 args).run prog w=.ok (.enter 85 args) w:=enters func85 rfl (by kernel_rfl)
theorem ahk {G:GH} {bl:Nat} {l:List eU} {A:Option Addr} {n c:Nat} (hb:aI G bl 0=some (.slice A n c)) (hv:av G (.sl 3 (l.map eU.dat)) (.slice A n c)):qC (.func (.func 87) #[] #[(aJ bl 0)]) G l.length fun k=>(l[k]?.map eU.id).getD 0:=by
 intro k hk G1 w0 hm hG;refine lV (caps:=[(aJ bl 0)]) abS ?_;replace hb:=aK hm hb
 obtain rfl:n=l.length:=by have:=hv.len;simpa using this
 obtain ⟨b,o,rfl,hrow⟩:=OH (hv.mono hm) hk;have hq:=hrow 0 _ rfl;refine eN [(0,_),(1,_)] func87 rfl ntmps87 rfl rfl hG ?_;intro a H;refine kP H (SR fun _ K1=>ak K1 rfl (SR fun _ K2=>Rg Bt rfl (by assumption) ?_));clear H K1;intro a H;refine kH H (Rm rfl (Ri Bw Dh rfl rfl (Rf SE rfl (Rg aD rfl (by assumption) ?_))));clear H;intro a H;exact kH H (ak K2 rfl (LR results87 rfl fun H=>H.rt (by dsimp only;rw [gM hk];rfl)))
def Ou (l:List eU) (i:Nat) (x:eU):Int:=cO [nV (fun k=>(l[k]?.map eU.id).getD 0) i,bP (!uX x.author) 39,bP (!decide (0≤x.time∧x.time≤1099511627776)) 40]
def C9 (l:List eU) (i:Nat):Int:=match l[i]? with|some x=>Ou l i x|none=>0
theorem agX {G:GH} {bl:Nat} {l:List eU} {A:Option Addr} {n c:Nat} (hb:aI G bl 0=some (.slice A n c)) (hv:av G (.sl 3 (l.map eU.dat)) (.slice A n c)) (hl:l.length≤4294967296) (ht:∀ x∈l,x.author.size < 4611686018427387904):qC (.func (.func 85) #[] #[(aJ bl 0)]) G l.length (C9 l):=by
 intro k hk G1 w0 hm hG;refine lV (caps:=[(aJ bl 0)]) abR ?_;replace hb:=aK hm hb;replace hv:=hv.mono hm;have hcb:=ahk hb hv
 obtain rfl:n=l.length:=by have:=hv.len;simpa using this
 obtain ⟨b,o,rfl,hrow⟩:=OH hv hk;have hte:=ht _ (jo hk)
 have he:C9 l k=Ou l k l[k]:=by unfold C9;rw [gM hk]
 obtain ⟨x,hx⟩:∃ x,x=l[k]:=⟨_,rfl⟩;rw [← hx] at hrow hte he;refine eN [(0,_),(1,_)] func85 rfl ntmps85 rfl rfl hG ?_;intro a H;refine kP H (SR fun _ K1=>ak K1 rfl (SQ fun _ K2=>?_));clear H K1;intro a H;have H:=H.sub (T':=[(0,_),(1,_)]) ⟨rfl,rfl,aF⟩;refine dI hmx [[],[],[0,1],[],[],[3,4],[3,4,5],(ra 3 4),(ra 0 8),(ra 0 9),(ra 0 10),[],[],[11,12],[11,12,13],(ra 11 4),(ra 0 16),(ra 0 17),(ra 0 18),(ra 0 19),(ra 0 20),(ra 0 21)] [19,20,21] (by kernel_rfl) [_,.func (.func 87) #[] #[(aJ bl 0)],vi (nV (fun k=>(l[k]?.map eU.id).getD 0) k),_,_,_,_,_,.bool (uX x.author),_,vi (bP (!uX x.author) 39),_,_,_,_,_,.bool (decide (0≤x.time∧x.time≤1099511627776)),_,vi (bP (!decide (0≤x.time∧x.time≤1099511627776)) 40)] H (aB (Z0 rfl (Rm rfl)) ?_ ?_ (X0 rfl fun hG=>Rg Bt rfl (aK hG hb)) (aB (Z0 rfl (Rm rfl)) (Z2 3 7 4 8 rfl (Ri Bw Dh rfl rfl)) (Z1 5 9 rfl (Rf acB rfl)) (X1 6 10 rfl fun hG=>Rg gG rfl (aK hG (hrow 1 _ rfl))) (aB ?_ (Z1 8 12 rfl (Rn rfl)) ?_ (X0 rfl fun hG=>Rg Bt rfl (aK hG hb)) (aB (Z0 rfl (Rm rfl)) (Z2 11 15 12 16 rfl (Ri Bw Dh rfl rfl)) (Z1 13 17 rfl (Rf acC rfl)) (X1 14 18 rfl fun hG=>Rg aD rfl (aK hG (hrow 2 _ rfl))) (aB ?_ (Z1 16 20 rfl (Rn rfl)) ?_ (bH rfl) (aW (bH rfl) (aW (bH rfl) bW))))))) ?_
 ·refine yM rfl fun _ a w G1 hG HT H fin=>?_;refine pU H wn rfl rfl ?_;clear H;intro a H;exact fin H iJ rfl
 ·refine cB 0 4 1 5 rfl rfl fun _ a w G1 hG HT H fin=>?_;refine s_call LQ H wn rfl (NM _ _ H.ro k _ _ (by omega) (fun i hi=>(hcb.mono hG) i (by omega))) rfl ?_;clear H;rintro v6 G6 a w rfl iV H;exact fin H iV (rfl)
 ·refine dw 7 11 rfl rfl fun _ a w G1 hG HT H fin=>?_;refine s_call Sl H wn rfl (QO _ _ H.ro x.author hte) rfl ?_;clear H;rintro v12 Ai a w ⟨rfl,-⟩ pF H;exact fin H pF (rfl)
 ·refine dw 9 13 rfl rfl fun _ a w G1 hG HT H fin=>?_;refine s_call iP H wn rfl (iR _ _ H.ro _ 39) rfl ?_;clear H;rintro v14 Du a w ⟨rfl,-⟩ FR H;exact fin H FR (rfl)
 ·refine dw 15 19 rfl rfl fun _ a w G1 hG HT H fin=>?_;refine s_call um H wn rfl (uI _ _ H.ro x.time 0 1099511627776) rfl ?_;clear H;rintro v20 Dx a w ⟨rfl,-⟩ adq H;exact fin H adq (rfl)
 ·refine dw 17 21 rfl rfl fun _ a w G1 hG HT H fin=>?_;refine s_call iP H wn rfl (iR _ _ H.ro _ 40) rfl ?_;clear H;rintro v22 XP a w ⟨rfl,-⟩ MJ H;exact fin H MJ (rfl)
 clear H;intro a w G mH H hv;have H:=H.aS (hv 2 6 rfl rfl) rfl;have H:=H.aS (hv 10 14 rfl rfl) rfl;have H:=H.aS (hv 18 22 rfl rfl) rfl;clear hv;refine gP nJ fV [_,_,_] [_,_,_] H wn rfl rfl rfl rfl rfl (by intro i q h;match i,h with|0,h=>exact h|1,h=>exact h|2,h=>exact h|n+3,h=>simp at h) rfl rfl ?_;clear H;intro b23 a w ajG H;obtain ⟨Kw,pO,adR,H⟩:=H.dM;refine s_call oI H wn rfl (oK _ _ H.ro _ _ (CG [nV (fun k=>(l[k]?.map eU.id).getD 0) k,bP (!uX x.author) 39,bP (!decide (0≤x.time∧x.time≤1099511627776)) 40] adR (show 3≤maxLen by decide))) rfl ?_;clear H;rintro v24 _ a w ⟨rfl,rfl⟩ - H;refine kH H (Ra rfl ?_);clear H;intro a H;refine aH ⟨rfl,?_⟩;refine K2 _ _ ?_;clear K2;refine lr H results85 rfl ?_;exact H.rt (by rw [he,Ou])
def Fw (l:List eU):Int:=cO [bP (decide (256 < (l.length:Int))) 9,jR (C9 l) (min l.length 256)]
theorem Zy (G:GH) (w0:World) (hG:Hold G w0) (l:List eU) (v:aj) (hv:av G (.sl 3 (l.map eU.dat)) v) (hl:l.length≤4294967296) (ht:∀ x∈l,x.author.size < 4611686018427387904) :
  Calls prog 56 #[v] w0 (bD w0 G fun u G'=>u=vi (Fw l)):=by
 obtain ⟨A,c,rfl,hc1,hc2,-⟩:=hv.slice;rw [bT] at *;refine eN [(0,_)] func56 rfl ntmps56 rfl rfl hG ?_;intro a H;refine dz (fun _ K1=>?_);refine fC (cs:=[_]) H wn rfl rfl rfl ?_;clear H;intro b1 a w hb1 H;refine kH H (ak K1 rfl (SQ fun _ K2=>?_));clear H K1;intro a H;have H:=H.sub (T':=[(1,_)]) ⟨rfl,aF⟩;obtain ⟨Ga,hma,hb1',H⟩:=H.dM
 have hbl:aI Ga b1 0=some (.slice A l.length c):=by unfold aI;rw [hb1'];rfl
 have hcb:=agX hbl (hv.mono hma) hl ht;refine dI hmx [[],[0],[0,1],[0,1,2],[],[4],[4,5],[],(ra 0 8),(ra 0 9),(ra 0 10),(ra 0 11)] [9,10,11] (by kernel_rfl) [_,_,_,vi (bP (decide (256 < (l.length:Int))) 9),_,_,vi ((min l.length 256:Nat):Int),.func (.func 85) #[] #[(aJ b1 0)],vi (jR (C9 l) (min l.length 256))] H (aB (X0 rfl fun hG=>Rg Bt rfl (aK hG hbl)) (Z1 0 3 rfl (Rl Bw rfl)) (Z1 1 4 rfl (Rc rfl)) ?_ (aB (X0 rfl fun hG=>Rg Bt rfl (aK hG hbl)) (Z1 4 7 rfl (Rl Bw rfl)) ?_ ?_ (aB ?_ (bH rfl) (bH rfl) (bH rfl) bW))) ?_
 ·refine dw 2 5 rfl rfl fun _ a w G1 hG HT H fin=>?_;refine s_call iP H wn rfl (iR _ _ H.ro _ 9) rfl ?_;clear H;rintro v6 G6 a w ⟨rfl,-⟩ iV H;exact fin H iV (rfl)
 ·refine dw 5 8 rfl rfl fun _ a w G1 hG HT H fin=>?_;refine JV H wn rfl rfl rfl ?_;clear H;intro a H;exact fin H iJ (ay vi (by omega))
 ·refine yM rfl fun _ a w G1 hG HT H fin=>?_;refine pU H wn rfl rfl ?_;clear H;intro a H;exact fin H iJ rfl
 ·refine cB 6 9 7 10 rfl rfl fun _ a w G1 hG HT H fin=>?_;refine s_call DY H wn rfl (Fp _ _ H.ro (min l.length 256) (C9 l) _ (by omega) ((hcb.mono hG).le (Nat.min_le_left _ _))) rfl ?_;clear H;rintro v11 vU a w rfl jv H;exact fin H jv (rfl)
 clear H;intro a w G mH H hv;have H:=H.aS (hv 3 6 rfl rfl) rfl;have H:=H.aS (hv 8 11 rfl rfl) rfl;clear hv;refine gP nJ fV [_,_] [_,_] H wn rfl rfl rfl rfl rfl (by intro i q h;match i,h with|0,h=>exact h|1,h=>exact h|n+2,h=>simp at h) rfl rfl ?_;clear H;intro b12 a w AV H;obtain ⟨Ai,Cu,Cr,H⟩:=H.dM;refine s_call oI H wn rfl (oK _ _ H.ro _ _ (vO Cr)) rfl ?_;clear H;rintro v13 _ a w ⟨rfl,rfl⟩ - H;refine kH H (Ra rfl ?_);clear H;intro a H;refine aH ⟨rfl,?_⟩;refine K2 _ _ ?_;clear K2;refine lr H results56 rfl ?_;exact H.rt rfl
theorem oJ:∀ {l:List Int},cO l=0→∀ x∈l,x=0
 | [],_,_,h=>by cases h
 | e :: r,h,x,hx=>by
  unfold cO at h
  by_cases he:e=0
  ·rw [ah (fun h'=>h' he)] at h
   rcases nC.1 hx with rfl|hx
   ·exact he
   exact oJ h x hx
  rw [au he] at h;exact absurd h he
theorem KP {E:Nat→Int} {n:Nat} (h:jR E n=0) (i:Nat) (hi:i < n):E i=0:=oJ h _ (by simp;exact ⟨i,hi,rfl⟩)
theorem NK {id:Nat→Int} {i:Nat} (h:nV id i=0):1≤id i∧id i≤1073741824∧(0 < i→id (i - 1) < id i):=by
 unfold nV at h
 by_cases h1:1≤id i∧id i≤1073741824
 ·rw [ah (fun h'=>h' h1)] at h
  by_cases h2:0 < i∧id i=id (i - 1)
  ·rw [au h2] at h;cases h
  rw [ah h2] at h
  by_cases h3:0 < i∧id i < id (i - 1)
  ·rw [au h3] at h;cases h
  exact ⟨h1.1,h1.2,fun h0=>by omega⟩
 rw [au h1] at h;cases h
theorem UL {l:List Int} (h:∀ i (h:i+1 < l.length),l[i] < l[i+1]):yL l:=by
 have hlt:∀ (j i:Nat) (hj:j < l.length) (hi:i < j),l[i] < l[j]:=by
  intro j
  induction j with
  | zero=>intro i _ hi;omega
  | succ j ih =>
   intro i hj hi;have h1:=h j hj
   by_cases e:i=j
   ·subst e;exact h1
   have:=ih i (by omega) (by omega);omega
 intro k hk hm;obtain ⟨i,hi,he⟩:=List.getElem_of_mem hm;rw [List.length_take] at hi;have:=hlt k i hk (by omega);rw [List.getElem_take] at he
 omega
theorem agY {l:List eU} (h:Fw l=0):yL (l.map eU.id):=by
 have h1:=oJ h _ (gV);have h2:=oJ h _ (kr _ gV)
 have hl:l.length≤256:=by
  unfold bP at h1
  by_cases hd:256 < (l.length:Int)
  ·rw [au (aC hd)] at h1;cases h1
  omega
 refine UL fun i hi=>?_;rw [bT] at hi;have h3:=KP h2 (i+1) (by omega)
 unfold C9 at h3
 rw [gM hi] at h3;have h4:=(NK (oJ h3 _ gV)).2.2 (by omega);rw [Nat.add_sub_cancel,gM hi,gM (show i < l.length by omega)] at h4
 simpa using h4
theorem afP {l:List fK} (h:Fv l=0):yL (l.map fK.id):=by
 have h1:=oJ h _ (gV);have h2:=oJ h _ (kr _ gV)
 have hl:l.length≤64:=by
  unfold bP at h1
  by_cases hd:64 < (l.length:Int)
  ·rw [au (aC hd)] at h1;cases h1
  omega
 refine UL fun i hi=>?_;rw [bT] at hi;have h3:=KP h2 (i+1) (by omega)
 unfold CQ at h3
 have h4:=(NK (oJ h3 _ gV)).2.2 (by omega);rw [Nat.add_sub_cancel,gM hi,gM (show i < l.length by omega)] at h4
 simpa using h4
theorem aiu {l:List bG} (h:fQ l=0):yL (l.map bG.id):=by
 unfold fQ at h
 by_cases h1:128 < l.length
 ·rw [au h1] at h;cases h
 rw [ah h1] at h
 by_cases h2:qI (wU l) 0 l.length≠0
 ·rw [au h2] at h;exact absurd h h2
 intro k hk;rw [bT] at hk;have:=VB (mW.1 h2) k hk;rw [← List.map_take,List.getElem_map];exact this
end
section
open Go.RowKit
theorem abE:∀ args w,(callFunc 57 args).run prog w=.ok (.enter 57 args) w:=enters func57 rfl (by kernel_rfl)
theorem J6:Ty prog 36 4 96 [.slice none 0 0,.slice none 0 0,.slice none 0 0,.slice none 0 0] true:=⟨by kernel_rfl,by kernel_rfl⟩
theorem abC:∀ args w,(callFunc 55 args).run prog w=.ok (.enter 55 args) w:=enters func55 rfl (by kernel_rfl)
theorem abD:∀ args w,(callFunc 56 args).run prog w=.ok (.enter 56 args) w:=enters func56 rfl (by kernel_rfl)
theorem IJ:bM prog 38 1 1:=⟨by kernel_rfl⟩
theorem Mg (e:Int):cO [e]=e:=by
 by_cases h:e=0 <;> simp [cO,h]
structure vS where
 flow:List aA
 fin:gZ
 revs:List eU
 kD:yN
structure BF (G:GH) (D:nA) (d:vS):Prop where
 fl:av G (.sl 11 (d.flow.map aA.dat)) (fq D.f)
 hd:jm G d.fin (fq D.p) (fq D.d) (fq D.y)
 ins:D.ins=d.fin.marks.ins
 mv:D.move=d.fin.marks.move
 rv:av G (.sl 3 (d.revs.map eU.dat)) (fq D.r)
 st:DJ G d.kD (fq D.s1) (fq D.s2) (fq D.s3) (fq D.s4)
theorem DJ.mono {G G':GH} (hm:∀ b o,G b=some o→G' b=some o) {s:yN} {a b c d:aj} (h:DJ G s a b c d):DJ G' s a b c d:=⟨h.st.mono hm,h.li.mono hm,h.cm.mono hm,h.va.mono hm⟩
theorem BF.mono {G G':GH} (hm:∀ b o,G b=some o→G' b=some o) {D:nA} {d:vS} (h:BF G D d):BF G' D d:=⟨h.fl.mono hm,h.hd.mono hm,h.ins,h.mv,h.rv.mono hm,h.st.mono hm⟩
structure Ho (d:vS):Prop where
 fl:bA d.flow≤1073741824
 hd:oQ d.fin≤4294967296
 rn:d.revs.length≤4294967296
 rt:∀ x∈d.revs,x.author.size < 4611686018427387904
 sn:d.kD.styles.length≤4294967296
 st:KL d.kD
abbrev vS.rF (d:vS):gH:=aQ d.kD.styles d.kD.lists d.revs
def uL (m:uS):Bool:=decide ((m.ins≠0∨m.move≠0)∨0 < (m.bX.length:Int))
def mE (d:vS):Int:=cO [cO [Im d.kD,Fw d.revs],cO [iw d.rF 3 d.fin,bP (uL d.fin.marks) 21],(iZ d.rF true false 0 d.flow ⟨0,[]⟩).1,bP (decide (16384 < (iZ d.rF true false 0 d.flow ⟨0,[]⟩).2.n)) 9]
theorem ZB (G:GH) (w0:World) (hG:Hold G w0) (D:nA) (d:vS) (hR:BF G D d) (hz:Ho d) :
  Calls prog 33 #[D.val] w0 (bD w0 G fun u G'=>u=vi (mE d)):=by
 obtain ⟨df,dp,dd,dy,dr,d1,d2,d3,d4,ins,mv⟩:=D;obtain ⟨hfl,hhd,hin,hmv,uG,hst⟩:=hR;dsimp only at hfl hhd hin hmv uG hst;subst hin;subst hmv;obtain ⟨zf,zh,zr,zt,zs,zg⟩:=hz;have hdl:=hhd.bX.len;rw [bT] at hdl
 have hdn:d.fin.marks.bX.length≤4294967296:=by
  have h1:=GZ d.fin;have h2:=qW (d.fin.marks.bX.map jh.dat);rw [bT] at h2;omega
 refine eN [(0,_)] func33 rfl ntmps33 rfl rfl hG ?_;intro a H;refine dz (fun _ K1=>?_);refine fC (cs:=[_,_,_,_,_,_,_,_,_,_,_]) H wn rfl rfl rfl ?_;clear H;intro b1 a w hb1 H;refine kH H (ak K1 rfl (SQ fun _ K2=>SQ fun _ K3=>?_));clear H K1;intro a H;refine dI hmx [[],[0],[0,1],[],[3],(ra 0 5),(ra 0 6),(ra 0 7),(ra 0 8)] [6,7,8] (by kernel_rfl) [_,.agg #[fq d1,fq d2,fq d3,fq d4],vi (Im d.kD),_,fq dr,vi (Fw d.revs)] H (aB (Z0 rfl (Rf D9 rfl)) ?_ ?_ (Z0 rfl (Rf Ma rfl)) (aB (Z1 3 11 rfl (Ro Bt 0 rfl)) ?_ (bH rfl) (bH rfl) (aW (bH rfl) bW))) ?_
 ·refine dw 0 8 rfl rfl fun _ a w G1 hG HT H fin=>?_;refine bJ J6 (cs:=[_,_,_,_]) H wn rfl rfl (H.hp.dZ 0 rfl rfl) rfl ?_;clear H;intro a H;exact fin H iJ rfl
 ·refine dw 1 9 rfl rfl fun _ a w G1 hG HT H fin=>?_;refine s_call abC H wn rfl (Zz _ _ H.ro d.kD _ _ _ _ (hst.mono hG) zg) rfl ?_;clear H;rintro v10 vT a w rfl lZ H;exact fin H lZ (rfl)
 ·refine dw 4 12 rfl rfl fun _ a w G1 hG HT H fin=>?_;refine s_call abD H wn rfl (Zy _ _ H.ro d.revs _ (uG.mono hG) zr zt) rfl ?_;clear H;rintro v13 ET a w rfl I4 H;exact fin H I4 (rfl)
 clear H;intro a w G mH H hv;have H:=H.aS (hv 2 10 rfl rfl) rfl;have H:=H.aS (hv 5 13 rfl rfl) rfl;clear hv;refine gP nJ fV [_,_] [_,_] H wn rfl rfl rfl rfl rfl (by intro i q h;match i,h with|0,h=>exact h|1,h=>exact h|n+2,h=>simp at h) rfl rfl ?_;clear H;intro b14 a w FY H;obtain ⟨Du,Ej,adO,H⟩:=H.dM;have hg1:=fun b o h=>Ej b o (mH b o h);replace hfl:=hfl.mono hg1;replace hhd:=hhd.mono hg1;replace uG:=uG.mono hg1;replace hst:=hst.mono hg1;refine s_call oI H wn rfl (oK _ _ H.ro _ _ (vO adO)) rfl ?_;clear H;rintro v15 _ a w ⟨rfl,rfl⟩ - H;refine kH H (Ra rfl ?_);clear H;intro a H;refine aH ⟨rfl,?_⟩;refine K3 _ _ ?_;clear K3;refine kP H (SR fun _ K4=>Rm rfl (Rc rfl (Kz K4 (Cd rfl ?_ ?_)))) <;> clear H K4
 ·intro dO a H
  try have lN:=dT dO
  have hE:mE d=cO [Im d.kD,Fw d.revs]:=by rw [mE,cO,au lN]
  exact kP H (SR fun _ K5=>Rm rfl (ak K5 rfl (LR results33 rfl fun H=>H.rt (by rw [hE]))))
 intro dO a H
 try have lN:=dF dO
 have e1:=mW.1 lN;have s1:=oJ e1 _ gV;have s2:=oJ e1 _ (kr _ gV);have t1:=oJ s1 _ gV;have t2:=oJ s1 _ (kr _ gV);refine gI ?_;refine K2 _ _ ?_;clear K2;refine dz (fun _ K6=>?_);refine bJ uP (cs:=[_,_,_,_,_,_,_,_,_,_,_]) H wn rfl rfl (H.hp.dZ 0 rfl rfl) rfl ?_;clear H;intro a H;refine gK abE (Li:=[_]) (L:=[]) H wn rfl (agk _ _ (Hp.owns (Li:=[_]) H.hp) ⟨df,dp,dd,dy,dr,d1,d2,d3,d4,d.fin.marks.ins,d.fin.marks.move⟩ d.kD.styles d.kD.lists d.revs hst.st hst.li uG (aiu t1) (afP t2) (agY s2) zs zg.ln zr) rfl ?_;clear H;rintro v20 Dx _ a w ⟨b,ms,ml,mr,mb,mu,rfl,rfl,hck⟩ AY H;dsimp only [lca,bq] at H;replace hfl:=hfl.mono AY;replace hhd:=hhd.mono AY;refine kH H (ak K6 rfl (SR fun _ K7=>Rf IJ rfl (Rf sV rfl ?_)));clear H K6;intro a H;refine bJ EK (cs:=[_,_,_,_]) H wn rfl rfl (H.hp.dZ 0 rfl rfl) rfl ?_;clear H;intro a H;refine eX EK H wn rfl ?_;clear H;intro b5 a w hb5 H;refine bE EK 0 (vs:=[_,_,_,_]) _ H wn rfl rfl rfl rfl rfl rfl rfl rfl ?_;clear H;intro w H;dsimp only [List.set,setRow] at H;refine K7 _ _ ?_;clear K7;refine bg (fun _ K8=>?_);refine bg (fun _ K9=>?_)
 by_cases c0:d.fin.marks.ins≠0
 ·skip;have c1:d.fin.marks.ins≠0∨d.fin.marks.move≠0:=Or.inl c0;refine dI hmx [[],[],[1],[0,1,2],[],[4],[4,5],(ra 0 7),(ra 0 8),(ra 0 9),(ra 0 10),(ra 0 11),(ra 0 12),(ra 0 13),(ra 0 14),(ra 0 15),(ra 0 16),(ra 0 17),(ra 0 18),(ra 0 19),(ra 0 20),(ra 0 21)] [19,20,21] (by kernel_rfl) [_,_,xS d.fin (fq dp) (fq dd) (fq dy),vi (iw d.rF 3 d.fin),_,vi d.fin.marks.ins,_,_,undef,undef,undef,.bool (decide (d.fin.marks.ins≠0∨d.fin.marks.move≠0)),_,undef,undef,undef,undef,.bool (uL d.fin.marks),vi (bP (uL d.fin.marks) 21)] H (aB (Z0 rfl (Rm rfl)) (Z0 rfl (Rf IJ rfl)) ?_ ?_ (aB (Z0 rfl (Rf vk rfl)) (Z1 4 28 rfl (Ro aD 0 rfl)) (Z1 5 29 rfl (Rc rfl)) (Z1 6 30 rfl (Rm rfl)) (aB (aN (j:=7) (by kernel_rfl) (fun _ _ _ _ _ h=>h) rfl rfl rfl rfl rfl (fun _ _ h=>aO h (aG (aC c0))) rfl (fun _=>rfl)) (aN (j:=7) (by kernel_rfl) (fun _ _ _ _ _ h=>h) rfl rfl rfl rfl rfl (fun _ _ h=>aO h (aG (aC c0))) rfl (fun _=>rfl)) (aN (j:=7) (by kernel_rfl) (fun _ _ _ _ _ h=>h) rfl rfl rfl rfl rfl (fun _ _ h=>aO h (aG (aC c0))) rfl (fun _=>rfl)) ?_ (aB (Z1 11 35 rfl (Rm rfl)) (aN (j:=12) (by kernel_rfl) (fun _ _ _ _ _ h=>h) rfl rfl rfl rfl rfl (fun _ _ h=>aO h (aG (aC c1))) rfl (fun _=>rfl)) (aN (j:=12) (by kernel_rfl) (fun _ _ _ _ _ h=>h) rfl rfl rfl rfl rfl (fun _ _ h=>aO h (aG (aC c1))) rfl (fun _=>rfl)) (aN (j:=12) (by kernel_rfl) (fun _ _ _ _ _ h=>h) rfl rfl rfl rfl rfl (fun _ _ h=>aO h (aG (aC c1))) rfl (fun _=>rfl)) (aB (aN (j:=12) (by kernel_rfl) (fun _ _ _ _ _ h=>h) rfl rfl rfl rfl rfl (fun _ _ h=>aO h (aG (aC c1))) rfl (fun _=>rfl)) ?_ ?_ (bH rfl) (aW (bH rfl) (aW (bH rfl) bW))))))) ?_
  ·refine dw 1 25 rfl rfl fun _ a w G1 hG HT H fin=>?_;refine bJ pV (cs:=[_,_,_,_,_]) H wn rfl rfl (H.hp.dZ 1 rfl rfl) rfl ?_;clear H;intro a H;exact fin H iJ rfl
  ·refine cB 0 24 2 26 rfl rfl fun _ a w G1 hG HT H fin=>?_;refine gK DW (Li:=[_,_]) (L:=fu b ms ml mr mb mu 0 :: (mb,eH []) :: []) H wn rfl (Eh _ _ _ d.kD.styles d.kD.lists d.revs b ms ml mr mb mu _ (hck.mono hG) (Hp.owns (Li:=[_,_]) H.hp) 3 d.fin _ _ _ (hhd.mono hG) zh) rfl ?_;clear H;rintro v27 _ _ a w ⟨rfl,rfl,rfl⟩ FT H;dsimp only [lca,bq] at H;exact fin H FT (rfl)
  ·refine cB 7 31 10 34 rfl rfl fun _ a w G1 hG HT H fin=>?_;refine kH H (Pt (aC c0) rfl ?_);clear H;intro a H;exact fin H iJ (by show _=_;first|exact aG (aC c1).symm|exact aG (by simp [c0]))
  ·refine cB 12 36 16 40 rfl rfl fun _ a w G1 hG HT H fin=>?_;refine kH H (Pt (aC c1) rfl ?_);clear H;intro a H;exact fin H iJ (by show _=_;first|exact aG (jV (Or.inl c1)).symm|exact aG (by simp [uL,c1]))
  ·refine dw 17 41 rfl rfl fun _ a w G1 hG HT H fin=>?_;refine s_call iP H wn rfl (iR _ _ H.ro _ 21) rfl ?_;clear H;rintro v42 KC a w ⟨rfl,-⟩ FU H;exact fin H FU (rfl)
  clear H;intro a w G iV H hv;have H:=H.aS (hv 3 27 rfl rfl) rfl;have H:=H.aS (hv 18 42 rfl rfl) rfl;clear hv;refine gP nJ fV [_,_] [_,_] H wn rfl rfl rfl rfl rfl (by intro i q h;match i,h with|0,h=>exact h|1,h=>exact h|n+2,h=>simp at h) rfl rfl ?_;clear H;intro QT a w TD H;obtain ⟨Hw,Ba,FZ,H⟩:=H.dM;have AX:=fun b o h=>Ba b o (iV b o h);replace hfl:=hfl.mono AX;replace hck:=hck.mono AX;refine s_call oI H wn rfl (oK _ _ H.ro _ _ (vO FZ)) rfl ?_;clear H;rintro v44 _ a w ⟨rfl,rfl⟩ - H;refine kH H (Ra rfl ?_);clear H;intro a H;refine aH ⟨rfl,?_⟩;refine K9 _ _ ?_;clear K9;refine kP H (SR fun _ aT=>Rm rfl (Rc rfl (Kz aT (Cd rfl ?_ ?_)))) <;> clear H aT
  ·intro h46 a H
   try have p46:=dT h46
   have hE:mE d=cO [iw d.rF 3 d.fin,bP (uL d.fin.marks) 21]:=by rw [mE,cO,ah (by simpa using e1),cO,au p46]
   exact kP H (SR fun _ bC=>Rm rfl (ak bC rfl (LR results33 rfl fun H=>H.rt (by rw [hE]))))
  intro h46 a H
  try have p46:=dF h46
  have e2:=mW.1 p46;refine kP H (Kc K8 (SQ fun _ bF=>SR fun _ bN=>Rm rfl (aV D8 iH 1 rfl rfl ?_)));clear H K8;intro a H;refine jZ Bp [_,_,_] H wn rfl rfl rfl rfl ?_;clear H;intro a H;refine gK FD (Li:=[_,_]) (L:=fu b ms ml mr mb mu 0 :: (mb,eH []) :: []) H wn rfl (Jw 4294967297 (by omega) _ _ _ d.kD.styles d.kD.lists d.revs b ms ml mr mb mu ⟨0,[]⟩ d.flow _ true false 0 hck (Hp.owns (Li:=[_,_]) H.hp) hfl (by omega) (by omega) (by omega) (by decide) (by dsimp only;omega)) rfl ?_;clear H;rintro v52 _ _ a w ⟨rfl,s3,rfl,rfl,h3⟩ - H;dsimp only [lca,bq] at H;refine kH H (ak bN rfl (SR fun _ bQ=>Rm rfl (Rc rfl (Kz bQ (Cd rfl ?_ ?_))))) <;> clear H bN bQ
  ·intro gT a H
   try have p54:=dT gT
   have hE:mE d=(iZ d.rF true false 0 d.flow ⟨0,[]⟩).1:=by rw [mE,cO,ah (by simpa using e1),cO,ah (by simpa using e2),cO,au p54]
   exact kP H (SR fun _ dJ=>Rm rfl (ak dJ rfl (LR results33 rfl fun H=>H.rt (by rw [hE]))))
  intro gT a H
  try have p54:=dF gT
  have e3:=mW.1 p54;have hs3:=h3 e3;subst hs3;refine kP H (Kc bF (SR fun _ dG=>Rm rfl (Rk rfl (aV Cb aD 2 rfl rfl (Rc rfl ?_)))));clear H bF;intro a H;refine s_call iP H wn rfl (iR _ _ H.ro _ 9) rfl ?_;clear H;rintro v61 _ a w ⟨rfl,rfl⟩ - H
  have hE:mE d=bP (decide (16384 < (iZ d.rF true false 0 d.flow ⟨0,[]⟩).2.n)) 9:=by rw [mE,cO,ah (by simpa using e1),cO,ah (by simpa using e2),cO,ah (by simpa using e3)];exact Mg _
  exact kH H (ak dG rfl (LR results33 rfl fun H=>H.rt (by rw [hE])))
 skip
 by_cases c1:d.fin.marks.ins≠0∨d.fin.marks.move≠0
 ·skip;refine dI hmx [[],[],[1],[0,1,2],[],[4],[4,5],(ra 0 7),(ra 0 8),(ra 0 9),(ra 0 10),(ra 0 11),(ra 0 12),(ra 0 13),(ra 0 14),(ra 0 15),(ra 0 16),(ra 0 17),(ra 0 18),(ra 0 19),(ra 0 20),(ra 0 21)] [19,20,21] (by kernel_rfl) [_,_,xS d.fin (fq dp) (fq dd) (fq dy),vi (iw d.rF 3 d.fin),_,vi d.fin.marks.ins,_,_,_,vi d.fin.marks.move,_,.bool (decide (d.fin.marks.ins≠0∨d.fin.marks.move≠0)),_,undef,undef,undef,undef,.bool (uL d.fin.marks),vi (bP (uL d.fin.marks) 21)] H (aB (Z0 rfl (Rm rfl)) (Z0 rfl (Rf IJ rfl)) ?_ ?_ (aB (Z0 rfl (Rf vk rfl)) (Z1 4 28 rfl (Ro aD 0 rfl)) (Z1 5 29 rfl (Rc rfl)) (Z1 6 30 rfl (Rm rfl)) (aB (Z1 7 31 rfl (YF Au (aM c0) rfl)) (Z2 8 32 7 31 rfl (YO aD 0 (aM c0) rfl)) (Z2 9 33 7 31 rfl (YC (aM c0) rfl)) ?_ (aB (Z1 11 35 rfl (Rm rfl)) (aN (j:=12) (by kernel_rfl) (fun _ _ _ _ _ h=>h) rfl rfl rfl rfl rfl (fun _ _ h=>aO h (aG (aC c1))) rfl (fun _=>rfl)) (aN (j:=12) (by kernel_rfl) (fun _ _ _ _ _ h=>h) rfl rfl rfl rfl rfl (fun _ _ h=>aO h (aG (aC c1))) rfl (fun _=>rfl)) (aN (j:=12) (by kernel_rfl) (fun _ _ _ _ _ h=>h) rfl rfl rfl rfl rfl (fun _ _ h=>aO h (aG (aC c1))) rfl (fun _=>rfl)) (aB (aN (j:=12) (by kernel_rfl) (fun _ _ _ _ _ h=>h) rfl rfl rfl rfl rfl (fun _ _ h=>aO h (aG (aC c1))) rfl (fun _=>rfl)) ?_ ?_ (bH rfl) (aW (bH rfl) (aW (bH rfl) bW))))))) ?_
  ·refine dw 1 25 rfl rfl fun _ a w G1 hG HT H fin=>?_;refine bJ pV (cs:=[_,_,_,_,_]) H wn rfl rfl (H.hp.dZ 1 rfl rfl) rfl ?_;clear H;intro a H;exact fin H iJ rfl
  ·refine cB 0 24 2 26 rfl rfl fun _ a w G1 hG HT H fin=>?_;refine gK DW (Li:=[_,_]) (L:=fu b ms ml mr mb mu 0 :: (mb,eH []) :: []) H wn rfl (Eh _ _ _ d.kD.styles d.kD.lists d.revs b ms ml mr mb mu _ (hck.mono hG) (Hp.owns (Li:=[_,_]) H.hp) 3 d.fin _ _ _ (hhd.mono hG) zh) rfl ?_;clear H;rintro v27 _ _ a w ⟨rfl,rfl,rfl⟩ FT H;dsimp only [lca,bq] at H;exact fin H FT (rfl)
  ·refine cB 7 31 10 34 rfl rfl fun _ a w G1 hG HT H fin=>?_;refine kH H (Pf (aM c0) rfl ?_);clear H;intro a H;exact fin H iJ (by show _=_;first|exact aG (aC c1).symm|exact aG (by simp [c0]))
  ·refine cB 12 36 16 40 rfl rfl fun _ a w G1 hG HT H fin=>?_;refine kH H (Pt (aC c1) rfl ?_);clear H;intro a H;exact fin H iJ (by show _=_;first|exact aG (jV (Or.inl c1)).symm|exact aG (by simp [uL,c1]))
  ·refine dw 17 41 rfl rfl fun _ a w G1 hG HT H fin=>?_;refine s_call iP H wn rfl (iR _ _ H.ro _ 21) rfl ?_;clear H;rintro v42 KC a w ⟨rfl,-⟩ FU H;exact fin H FU (rfl)
  clear H;intro a w G iV H hv;have H:=H.aS (hv 3 27 rfl rfl) rfl;have H:=H.aS (hv 18 42 rfl rfl) rfl;clear hv;refine gP nJ fV [_,_] [_,_] H wn rfl rfl rfl rfl rfl (by intro i q h;match i,h with|0,h=>exact h|1,h=>exact h|n+2,h=>simp at h) rfl rfl ?_;clear H;intro QT a w TD H;obtain ⟨Hw,Ba,FZ,H⟩:=H.dM;have AX:=fun b o h=>Ba b o (iV b o h);replace hfl:=hfl.mono AX;replace hck:=hck.mono AX;refine s_call oI H wn rfl (oK _ _ H.ro _ _ (vO FZ)) rfl ?_;clear H;rintro v44 _ a w ⟨rfl,rfl⟩ - H;refine kH H (Ra rfl ?_);clear H;intro a H;refine aH ⟨rfl,?_⟩;refine K9 _ _ ?_;clear K9;refine kP H (SR fun _ dh=>Rm rfl (Rc rfl (Kz dh (Cd rfl ?_ ?_)))) <;> clear H dh
  ·intro h46 a H
   try have p46:=dT h46
   have hE:mE d=cO [iw d.rF 3 d.fin,bP (uL d.fin.marks) 21]:=by rw [mE,cO,ah (by simpa using e1),cO,au p46]
   exact kP H (SR fun _ dX=>Rm rfl (ak dX rfl (LR results33 rfl fun H=>H.rt (by rw [hE]))))
  intro h46 a H
  try have p46:=dF h46
  have e2:=mW.1 p46;refine kP H (Kc K8 (SQ fun _ gy=>SR fun _ eY=>Rm rfl (aV D8 iH 1 rfl rfl ?_)));clear H K8;intro a H;refine jZ Bp [_,_,_] H wn rfl rfl rfl rfl ?_;clear H;intro a H;refine gK FD (Li:=[_,_]) (L:=fu b ms ml mr mb mu 0 :: (mb,eH []) :: []) H wn rfl (Jw 4294967297 (by omega) _ _ _ d.kD.styles d.kD.lists d.revs b ms ml mr mb mu ⟨0,[]⟩ d.flow _ true false 0 hck (Hp.owns (Li:=[_,_]) H.hp) hfl (by omega) (by omega) (by omega) (by decide) (by dsimp only;omega)) rfl ?_;clear H;rintro v52 _ _ a w ⟨rfl,s3,rfl,rfl,h3⟩ - H;dsimp only [lca,bq] at H;refine kH H (ak eY rfl (SR fun _ gD=>Rm rfl (Rc rfl (Kz gD (Cd rfl ?_ ?_))))) <;> clear H eY gD
  ·intro gT a H
   try have p54:=dT gT
   have hE:mE d=(iZ d.rF true false 0 d.flow ⟨0,[]⟩).1:=by rw [mE,cO,ah (by simpa using e1),cO,ah (by simpa using e2),cO,au p54]
   exact kP H (SR fun _ ig=>Rm rfl (ak ig rfl (LR results33 rfl fun H=>H.rt (by rw [hE]))))
  intro gT a H
  try have p54:=dF gT
  have e3:=mW.1 p54;have hs3:=h3 e3;subst hs3;refine kP H (Kc gy (SR fun _ jF=>Rm rfl (Rk rfl (aV Cb aD 2 rfl rfl (Rc rfl ?_)))));clear H gy;intro a H;refine s_call iP H wn rfl (iR _ _ H.ro _ 9) rfl ?_;clear H;rintro v61 _ a w ⟨rfl,rfl⟩ - H
  have hE:mE d=bP (decide (16384 < (iZ d.rF true false 0 d.flow ⟨0,[]⟩).2.n)) 9:=by rw [mE,cO,ah (by simpa using e1),cO,ah (by simpa using e2),cO,ah (by simpa using e3)];exact Mg _
  exact kH H (ak jF rfl (LR results33 rfl fun H=>H.rt (by rw [hE])))
 skip;refine dI hmx [[],[],[1],[0,1,2],[],[4],[4,5],(ra 0 7),(ra 0 8),(ra 0 9),(ra 0 10),(ra 0 11),(ra 0 12),(ra 0 13),(ra 0 14),(ra 0 15),(ra 0 16),(ra 0 17),(ra 0 18),(ra 0 19),(ra 0 20),(ra 0 21)] [19,20,21] (by kernel_rfl) [_,_,xS d.fin (fq dp) (fq dd) (fq dy),vi (iw d.rF 3 d.fin),_,vi d.fin.marks.ins,_,_,_,vi d.fin.marks.move,_,.bool (decide (d.fin.marks.ins≠0∨d.fin.marks.move≠0)),_,_,fq dd,vi d.fin.marks.bX.length,_,.bool (uL d.fin.marks),vi (bP (uL d.fin.marks) 21)] H (aB (Z0 rfl (Rm rfl)) (Z0 rfl (Rf IJ rfl)) ?_ ?_ (aB (Z0 rfl (Rf vk rfl)) (Z1 4 28 rfl (Ro aD 0 rfl)) (Z1 5 29 rfl (Rc rfl)) (Z1 6 30 rfl (Rm rfl)) (aB (Z1 7 31 rfl (YF Au (aM c0) rfl)) (Z2 8 32 7 31 rfl (YO aD 0 (aM c0) rfl)) (Z2 9 33 7 31 rfl (YC (aM c0) rfl)) ?_ (aB (Z1 11 35 rfl (Rm rfl)) (Z1 12 36 rfl (YF vo (aM c1) rfl)) (Z2 13 37 12 36 rfl (YO vP 0 (aM c1) rfl)) ?_ (aB (Z2 15 39 12 36 rfl (YC (aM c1) rfl)) ?_ ?_ (bH rfl) (aW (bH rfl) (aW (bH rfl) bW))))))) ?_
 ·refine dw 1 25 rfl rfl fun _ a w G1 hG HT H fin=>?_;refine bJ pV (cs:=[_,_,_,_,_]) H wn rfl rfl (H.hp.dZ 1 rfl rfl) rfl ?_;clear H;intro a H;exact fin H iJ rfl
 ·refine cB 0 24 2 26 rfl rfl fun _ a w G1 hG HT H fin=>?_;refine gK DW (Li:=[_,_]) (L:=fu b ms ml mr mb mu 0 :: (mb,eH []) :: []) H wn rfl (Eh _ _ _ d.kD.styles d.kD.lists d.revs b ms ml mr mb mu _ (hck.mono hG) (Hp.owns (Li:=[_,_]) H.hp) 3 d.fin _ _ _ (hhd.mono hG) zh) rfl ?_;clear H;rintro v27 _ _ a w ⟨rfl,rfl,rfl⟩ FT H;dsimp only [lca,bq] at H;exact fin H FT (rfl)
 ·refine cB 7 31 10 34 rfl rfl fun _ a w G1 hG HT H fin=>?_;refine kH H (Pf (aM c0) rfl ?_);clear H;intro a H;exact fin H iJ (by show _=_;first|exact aG (aC c1).symm|exact aG (by simp [c0]))
 ·refine cB 14 38 12 36 rfl rfl fun _ a w G1 hG HT H fin=>?_;refine kH H (YL pX (aM c1) rfl ?_);clear H;intro a H;exact fin H iJ (by show _=_;first|rfl|exact ay (fun n:Nat=>vi n) hdl)
 ·refine cB 12 36 16 40 rfl rfl fun _ a w G1 hG HT H fin=>?_;refine kH H (Pf (aM c1) rfl ?_);clear H;intro a H;exact fin H iJ (by show _=_;first|exact aG (jV (Or.inl c1)).symm|exact aG (by simp [uL,c1]))
 ·refine dw 17 41 rfl rfl fun _ a w G1 hG HT H fin=>?_;refine s_call iP H wn rfl (iR _ _ H.ro _ 21) rfl ?_;clear H;rintro v42 KC a w ⟨rfl,-⟩ FU H;exact fin H FU (rfl)
 clear H;intro a w G iV H hv;have H:=H.aS (hv 3 27 rfl rfl) rfl;have H:=H.aS (hv 18 42 rfl rfl) rfl;clear hv;refine gP nJ fV [_,_] [_,_] H wn rfl rfl rfl rfl rfl (by intro i q h;match i,h with|0,h=>exact h|1,h=>exact h|n+2,h=>simp at h) rfl rfl ?_;clear H;intro QT a w TD H;obtain ⟨Hw,Ba,FZ,H⟩:=H.dM;have AX:=fun b o h=>Ba b o (iV b o h);replace hfl:=hfl.mono AX;replace hck:=hck.mono AX;refine s_call oI H wn rfl (oK _ _ H.ro _ _ (vO FZ)) rfl ?_;clear H;rintro v44 _ a w ⟨rfl,rfl⟩ - H;refine kH H (Ra rfl ?_);clear H;intro a H;refine aH ⟨rfl,?_⟩;refine K9 _ _ ?_;clear K9;refine kP H (SR fun _ iW=>Rm rfl (Rc rfl (Kz iW (Cd rfl ?_ ?_)))) <;> clear H iW
 ·intro h46 a H
  try have p46:=dT h46
  have hE:mE d=cO [iw d.rF 3 d.fin,bP (uL d.fin.marks) 21]:=by rw [mE,cO,ah (by simpa using e1),cO,au p46]
  exact kP H (SR fun _ jd=>Rm rfl (ak jd rfl (LR results33 rfl fun H=>H.rt (by rw [hE]))))
 intro h46 a H
 try have p46:=dF h46
 have e2:=mW.1 p46;refine kP H (Kc K8 (SQ fun _ jP=>SR fun _ jQ=>Rm rfl (aV D8 iH 1 rfl rfl ?_)));clear H K8;intro a H;refine jZ Bp [_,_,_] H wn rfl rfl rfl rfl ?_;clear H;intro a H;refine gK FD (Li:=[_,_]) (L:=fu b ms ml mr mb mu 0 :: (mb,eH []) :: []) H wn rfl (Jw 4294967297 (by omega) _ _ _ d.kD.styles d.kD.lists d.revs b ms ml mr mb mu ⟨0,[]⟩ d.flow _ true false 0 hck (Hp.owns (Li:=[_,_]) H.hp) hfl (by omega) (by omega) (by omega) (by decide) (by dsimp only;omega)) rfl ?_;clear H;rintro v52 _ _ a w ⟨rfl,s3,rfl,rfl,h3⟩ - H;dsimp only [lca,bq] at H;refine kH H (ak jQ rfl (SR fun _ iL=>Rm rfl (Rc rfl (Kz iL (Cd rfl ?_ ?_))))) <;> clear H jQ iL
 ·intro gT a H
  try have p54:=dT gT
  have hE:mE d=(iZ d.rF true false 0 d.flow ⟨0,[]⟩).1:=by rw [mE,cO,ah (by simpa using e1),cO,ah (by simpa using e2),cO,au p54]
  exact kP H (SR fun _ mQ=>Rm rfl (ak mQ rfl (LR results33 rfl fun H=>H.rt (by rw [hE]))))
 intro gT a H
 try have p54:=dF gT
 have e3:=mW.1 p54;have hs3:=h3 e3;subst hs3;refine kP H (Kc jP (SR fun _ om=>Rm rfl (Rk rfl (aV Cb aD 2 rfl rfl (Rc rfl ?_)))));clear H jP;intro a H;refine s_call iP H wn rfl (iR _ _ H.ro _ 9) rfl ?_;clear H;rintro v61 _ a w ⟨rfl,rfl⟩ - H
 have hE:mE d=bP (decide (16384 < (iZ d.rF true false 0 d.flow ⟨0,[]⟩).2.n)) 9:=by rw [mE,cO,ah (by simpa using e1),cO,ah (by simpa using e2),cO,ah (by simpa using e3)];exact Mg _
 exact kH H (ak om rfl (LR results33 rfl fun H=>H.rt (by rw [hE])))
end
section
open Go.RowKit
theorem LJ:∀ args w,(callFunc 32 args).run prog w=.ok (.enter 32 args) w:=enters func32 rfl (by kernel_rfl)
theorem abt:∀ args w,(callFunc 33 args).run prog w=.ok (.enter 33 args) w:=enters func33 rfl (by kernel_rfl)
abbrev yR (b:Nat) (n:Int):Nat × Obj:=(b,.cells #[vi n] 3 (0,0))
def Yq (bl:Nat) (left:Int) (z:Nat) (u:aj) (_:GH) (L':OL):Prop:=∃ b lf,u=.bool b∧L'=[yR bl lf]∧left - (z:Int)≤lf∧lf≤left
def KI (n:Nat):Prop:=∀ (G:GH) (w0:World) (l:List aA) (v:aj) (Et left:Int) (bl:Nat),gL G [yR bl left] w0→av G (.sl 11 (l.map aA.dat)) v→bA l < n→0≤Et→Et≤1000→left≤1000→-1000000000000≤left - (bA l:Int) →
 Calls prog 32 #[v,vi Et,(aJ bl 0)] w0 (fZ w0 G [yR bl left] (Yq bl left (bA l)))
theorem Xy (l m:List bS):gU (l++m)=gU l+gU m:=by simp [gU,O6]
theorem Xu (l m:List bR):jc (l++m)=jc l+jc m:=by simp [jc,O6]
theorem ajo {l:List aA} {k:Nat} (h:k < l.length):bA (l.take (k+1))=bA (l.take k)+(1+cu l[k].dat):=by rw [jB h,ajm];simp [bA,eB]
theorem ajq {l:List bS} {k:Nat} (h:k < l.length):gU (l.take (k+1))=gU (l.take k)+(1+cu l[k].dat):=by rw [jB h,Xy];simp [gU,eB]
theorem ajl {l:List bR} {k:Nat} (h:k < l.length):jc (l.take (k+1))=jc (l.take k)+(1+cu l[k].dat):=by rw [jB h,Xu];simp [jc,eB]
theorem Xx (l:List aA) (k:Nat):bA (l.take k)≤bA l:=He (List.take_sublist k l)
theorem Xz (l:List bS) (k:Nat):gU (l.take k)≤gU l:=by
 have:=Xy (l.take k) (l.drop k);rw [List.take_append_drop] at this;omega
theorem Xv (l:List bR) (k:Nat):jc (l.take k)≤jc l:=by
 have:=Xu (l.take k) (l.drop k);rw [List.take_append_drop] at this;omega
set_option maxHeartbeats 4000000 in
theorem ahY {n:Nat} (ih:KI n) (hn:n≤4294967296):KI (n+1):=by
 intro G w0 l v Et left bl hO hv hz hl0 hl1 hf1 hf0;obtain ⟨A,c,rfl,hc1,hc2,hg⟩:=hv.slice;rw [bT] at *;have hll:=Dr l;refine jI (N:=133) (T:=[(0,_),(1,_),(2,_)]) func32 rfl ntmps32 rfl rfl hO ?_;intro a H;refine kP H (SR fun _ K1=>ak K1 rfl (SQ fun _ K2=>SR fun _ K3=>ak K3 rfl (SB ?_)));clear H K1 K3;intro a H;skip;refine fH (ι:=Nat × Int × GH) (Tc:=[(0,_),(1,_),(2,_)]) (Lc:=[]) (fun gh=>[(7,vi gh.1)]) (fun gh=>[yR bl gh.2.1]) (fun gh=>gh.2.2) (fun gh=>gh.1≤l.length∧left - (bA (l.take gh.1):Int)≤gh.2.1∧gh.2.1≤left∧(∀ b o,G b=some o→gh.2.2 b=some o)) (fun gh=>l.length - gh.1) ((0,left,G)) (by exact (H).sub ⟨rfl,rfl,rfl,rfl,aF⟩) ?_ ?_
 ·exact ⟨by omega,by show left - ((0:Nat):Int)≤left;omega,Int.le_refl _,fun _ _ h=>h⟩
 clear H;intro gh a w hI H;obtain ⟨k,lf,g⟩:=gh;dsimp only at hI H;obtain ⟨hk,hlo,hhi,hgm⟩:=hI;have hzk:=Xx l k;dsimp only [lca,bq] at H;refine kP H (SQ fun _ K4=>SR fun _ K5=>Rm rfl (Rm rfl (Rl gQ rfl (Rc rfl (Kz K5 (Cd rfl ?_ ?_)))))) <;> clear H K5
 ·intro fM a H
  try have pQ:=dT fM
  have hk2:k < l.length:=by omega
  obtain ⟨b,o,pA,pn,pc,dA,dn,dc,yA,yn,yc,fA,fn,fc,rA,rn,rc,rfl,hrow,hhd,hfl,hrw⟩:=AA hk2 hg;have hrn:=hrw.len;rw [bT] at hrn;subst hrn;have r3:aI g b (o+k*11+3)=some (.string l[k].text):=aK hgm (hrow 3 _ rfl);have r4:aI g b (o+k*11+4+0)=some (.slice pA pn pc):=aK hgm (hrow 4 _ rfl);have r9:aI g b (o+k*11+9)=some (.slice fA fn fc):=aK hgm (hrow 9 _ rfl);have Ot:aI g b (o+k*11+10)=some (.slice rA l[k].rows.length rc):=aK hgm (hrow 10 _ rfl);have hzi:=oU l[k];have hzs:=ajo hk2;have hzt:=Xx l (k+1);refine kP H (Kc K4 (SQ fun _ K6=>SB (SR fun _ K7=>Rm rfl (Rk rfl (Ro aD 0 rfl (Rs rfl (Rk rfl ?_)))))));clear H K4;intro a H;refine bE aD 0 (vs:=[_]) _ H wn rfl rfl rfl rfl rfl rfl rfl rfl ?_;clear H;intro w H;dsimp only [List.set,setRow] at H;refine K7 _ _ ?_;clear K7;refine kP H (SQ fun _ K8=>SR fun _ K9=>Rm rfl (Rk rfl (Ro aD 0 rfl (Rc rfl (Rm rfl (Sp 25 rfl ?_ ?_)))))) <;> clear H
  ·intro kY a H
   try have p25:=dT kY
   refine kH H (aP kY rfl (Pt kY rfl (Rm rfl (aY rfl rfl (aP rfl rfl (aP rfl rfl (Pt rfl rfl (Rm rfl (aY rfl rfl (aY rfl rfl (aP rfl rfl (Pt rfl rfl (Rm rfl (aY rfl rfl (aP rfl rfl (aP rfl rfl (Pt rfl rfl (Rm rfl (aY rfl rfl (aY rfl rfl (aP rfl rfl (aP rfl rfl ?_))))))))))))))))))))));clear H;intro a H;exact kH H (Pt rfl rfl (Kz K9 (Ct rfl rfl (SR fun _ aT=>ak aT rfl (LR results32 rfl fun H=>H.hp.dW ⟨_,_,rfl,rfl,by omega,by omega⟩)))))
  intro kY a H
  try have p25:=dF kY
  refine kH H (YM kY rfl (YC kY rfl (Pf kY rfl (Rm rfl (Sp 29 rfl ?_ ?_))))) <;> clear H
  ·intro kM a H
   try have p29:=dT kM
   refine kH H (aY kM rfl (aP kM rfl (aP kM rfl (Pt kM rfl (Rm rfl (aY rfl rfl (aY rfl rfl (aP rfl rfl (Pt rfl rfl (Rm rfl (aY rfl rfl (aP rfl rfl (aP rfl rfl (Pt rfl rfl (Rm rfl (aY rfl rfl (aY rfl rfl (aP rfl rfl (aP rfl rfl (Pt rfl rfl (Kz K9 ?_)))))))))))))))))))));clear H K9;intro a H;refine uf H rfl rfl ?_;exact kP H (SR fun _ bC=>ak bC rfl (LR results32 rfl fun H=>H.hp.dW ⟨_,_,rfl,rfl,by omega,by omega⟩))
  intro kM a H
  try have p29:=dF kM
  refine kH H (YM kM rfl (YM kM rfl (YI gQ dL kM rfl rfl (YF vv kM rfl (YR gG kM rfl (by assumption) ?_)))));clear H;intro a H;refine Bn fP H (wg H rfl rfl kM) rfl rfl ?_;clear H;intro a H;refine kH H (YC kM rfl (Pf kM rfl (Rm rfl (Sp 38 rfl ?_ ?_)))) <;> clear H
  ·intro nS a H
   try have p38:=dT nS
   exact kH H (aY nS rfl (aY nS rfl (aP nS rfl (Pt nS rfl (Rm rfl (aY rfl rfl (aP rfl rfl (aP rfl rfl (Pt rfl rfl (Rm rfl (aY rfl rfl (aY rfl rfl (aP rfl rfl (aP rfl rfl (Pt rfl rfl (Kz K9 (Ct rfl rfl (SR fun _ bF=>ak bF rfl (LR results32 rfl fun H=>H.hp.dW ⟨_,_,rfl,rfl,by omega,by omega⟩)))))))))))))))))))
  intro nS a H
  try have p38:=dF nS
  refine kH H (YM nS rfl (YM nS rfl (YI gQ dL nS rfl rfl (YF Aw nS rfl (YF Ce nS rfl (YR Ab nS rfl (by assumption) ?_))))));clear H;intro a H;refine kH H (YL og nS rfl (YC nS rfl (Pf nS rfl (Rm rfl (Sp 48 rfl ?_ ?_))))) <;> clear H
  ·intro h48 a H
   try have p48:=dT h48
   exact kH H (aY h48 rfl (aP h48 rfl (aP h48 rfl (Pt h48 rfl (Rm rfl (aY rfl rfl (aY rfl rfl (aP rfl rfl (aP rfl rfl (Pt rfl rfl (Kz K9 (Ct rfl rfl (SR fun _ bN=>ak bN rfl (LR results32 rfl fun H=>H.hp.dW ⟨_,_,rfl,rfl,by omega,by omega⟩))))))))))))))
  intro h48 a H
  try have p48:=dF h48
  refine kH H (YM h48 rfl (YM h48 rfl (YI gQ dL h48 rfl rfl (YF uw h48 rfl (YR uQ h48 rfl (by assumption) ?_)))));clear H;intro a H;refine kH H (YL oh h48 rfl (YC h48 rfl (Pf h48 rfl (Rm rfl (Sp 57 rfl ?_ ?_))))) <;> clear H
  ·intro h57 a H
   try have p57:=dT h57
   exact kH H (aY h57 rfl (aY h57 rfl (aP h57 rfl (aP h57 rfl (Pt h57 rfl (Kz K9 (Ct rfl rfl (SR fun _ bQ=>ak bQ rfl (LR results32 rfl fun H=>H.hp.dW ⟨_,_,rfl,rfl,by omega,by omega⟩)))))))))
  intro h57 a H
  try have p57:=dF h57
  refine kH H (YM h57 rfl (YM h57 rfl (YI gQ dL h57 rfl rfl (YF ze h57 rfl (YR iH h57 rfl (by assumption) ?_)))));clear H;intro a H;refine kH H (YM h57 rfl ?_);clear H;intro a H;refine mq _ H (wg H rfl rfl h57) rfl rfl rfl (by omega) (by omega) rfl ?_;clear H;intro a H;refine kH H (YM h57 rfl ?_);clear H;intro a H;refine gK LJ (Li:=[]) (L:=[yR bl _]) H (wg H rfl rfl h57) rfl (ih _ _ l[k].flow _ (Et - 1) _ bl (Hp.owns (Li:=[]) H.hp) (hfl.mono hgm) (by omega) (by omega) (by omega) (by omega) (by omega)) rfl ?_;clear H;rintro v66 Ya L66 a w ⟨b66,lf66,rfl,rfl,ajU,ajS⟩ TS H;dsimp only [List.nil_append] at H;replace Ot:=aK TS Ot;have aej:=fun b o h=>TS b o (hgm b o h);refine kH H (YN h57 rfl (Pf h57 rfl (Kz K9 (Cd rfl ?_ ?_)))) <;> clear H K9
  ·intro h68 a H
   try have p68:=dT h68
   exact kP H (SR fun _ dJ=>ak dJ rfl (LR results32 rfl fun H=>H.hp.dW ⟨_,_,rfl,rfl,by omega,by omega⟩))
  intro h68 a H
  try have p68:=dF h68
  refine kP H (Kc K8 (SR fun _ dG=>ak dG rfl (SB ?_)));clear H K8 dG;intro a H;skip;refine fH (ι:=Nat × Int × GH) (Tc:=[(0,_),(1,_),(2,_),(7,_)]) (Lc:=[]) (fun gh=>[(8,vi gh.1)]) (fun gh=>[yR bl gh.2.1]) (fun gh=>gh.2.2) (fun gh=>gh.1≤l[k].rows.length∧lf66 - (gU (l[k].rows.take gh.1):Int)≤gh.2.1∧gh.2.1≤lf66∧(∀ b o,G b=some o→gh.2.2 b=some o)∧aI gh.2.2 b (o+k*11+10)=some (.slice rA l[k].rows.length rc)) (fun gh=>l[k].rows.length - gh.1) ((0,lf66,Ya)) (by exact (H).sub ⟨rfl,rfl,rfl,rfl,rfl,aF⟩) ?_ ?_
  ·exact ⟨by omega,by show lf66 - ((0:Nat):Int)≤lf66;omega,Int.le_refl _,aej,Ot⟩
  clear H;intro gh a w hI H;obtain ⟨j,lf2,g2⟩:=gh;dsimp only at hI H;obtain ⟨hj,hlo2,hhi2,nU,q10⟩:=hI;have ako:=Xz l[k].rows j;dsimp only [lca,bq] at H;refine kP H (SQ fun _ dh=>SR fun _ dX=>Rm rfl (Rm rfl (Rm rfl (Ri gQ dL rfl rfl (Rf uw rfl (Rg uQ rfl (by assumption) ?_))))));clear H;intro a H;refine kH H (Rl oh rfl (Rc rfl (Kz dX (Cd rfl ?_ ?_)))) <;> clear H dX
  ·intro zu a H
   try have Og:=dT zu
   have hj2:j < l[k].rows.length:=by omega
   obtain ⟨b2,o2,uA,un,uc,eA,en,ec,zA,zn,zc,cA,cn,cc,rfl,hrow2,Cx,hcl⟩:=JK hj2 (hrw.mono nU).at_;have hcn:=hcl.len;rw [bT] at hcn;subst hcn;have t5:aI g2 b2 (o2+j*6+5)=some (.slice cA l[k].rows[j].cells.length cc):=hrow2 5 _ rfl;have akm:=Ah l[k].rows[j];have akq:=ajq hj2;have aks:=Xz l[k].rows (j+1);refine kP H (Kc dh (SQ fun _ gy=>SB (SQ fun _ eY=>SR fun _ gD=>Rm rfl (Rm rfl (Ri gQ dL rfl rfl (Rf uw rfl (Rg uQ rfl (by assumption) ?_)))))));clear H dh;intro a H;refine kH H (Rm rfl (Ri oh kS rfl rfl (Rf zk rfl (Rg Ad rfl (by assumption) ?_))));clear H;intro a H;refine kH H (Rl rZ rfl (Rc rfl (Kz gD (Cd rfl ?_ ?_)))) <;> clear H gD
   ·intro MC a H
    try have p89:=dT MC
    exact kP H (SR fun _ ig=>ak ig rfl (LR results32 rfl fun H=>H.hp.dW ⟨_,_,rfl,rfl,by omega,by omega⟩))
   intro MC a H
   try have p89:=dF MC
   refine kP H (Kc eY (SR fun _ jF=>ak jF rfl (SB ?_)));clear H eY jF;intro a H;skip;refine fH (ι:=Nat × Int × GH) (Tc:=[(0,_),(1,_),(2,_),(7,_),(8,_)]) (Lc:=[]) (fun gh=>[(9,vi gh.1)]) (fun gh=>[yR bl gh.2.1]) (fun gh=>gh.2.2) (fun gh=>gh.1≤l[k].rows[j].cells.length∧lf2 - (jc (l[k].rows[j].cells.take gh.1):Int)≤gh.2.1∧gh.2.1≤lf2∧(∀ b o,G b=some o→gh.2.2 b=some o)∧aI gh.2.2 b (o+k*11+10)=some (.slice (some ⟨b2,o2,none⟩) l[k].rows.length rc)∧aI gh.2.2 b2 (o2+j*6+5)=some (.slice cA l[k].rows[j].cells.length cc)∧(∀ b o,g2 b=some o→gh.2.2 b=some o)) (fun gh=>l[k].rows[j].cells.length - gh.1) ((0,lf2,g2)) (by exact (H).sub ⟨rfl,rfl,rfl,rfl,rfl,rfl,aF⟩) ?_ ?_
   ·exact ⟨by omega,by show lf2 - ((0:Nat):Int)≤lf2;omega,Int.le_refl _,nU,q10,t5,fun _ _ h=>h⟩
   clear H;intro gh a w hI H;obtain ⟨m,lf3,g3⟩:=gh;dsimp only at hI H;obtain ⟨hm,hlo3,hhi3,zG,s10,s5,TJ⟩:=hI;have akp:=Xv l[k].rows[j].cells m;dsimp only [lca,bq] at H;refine kP H (SQ fun _ iW=>SR fun _ jd=>Rm rfl (Rm rfl (Rm rfl (Ri gQ dL rfl rfl (Rf uw rfl (Rg uQ rfl (by assumption) ?_))))));clear H;intro a H;refine kH H (Rm rfl (Ri oh kS rfl rfl (Rf zk rfl (Rg Ad rfl (by assumption) ?_))));clear H;intro a H;refine kH H (Rl rZ rfl (Rc rfl (Kz jd (Cd rfl ?_ ?_)))) <;> clear H jd
   ·intro Mj a H
    try have agu:=dT Mj
    have hm2:m < l[k].rows[j].cells.length:=by omega
    obtain ⟨b3,o3,x1,x2,x3,x4,x5,x6,x7,x8,x9,gA,gn,gc,rfl,hrow3,hch,hcf⟩:=Ik hm2 (hcl.mono TJ).at_;have u6:aI g3 b3 (o3+m*7+6)=some (.slice gA gn gc):=hrow3 6 _ rfl;have akn:=Ag l[k].rows[j].cells[m];have akr:=ajl hm2;have akt:=Xv l[k].rows[j].cells (m+1);refine kP H (Kc iW (SQ fun _ jP=>SB (SR fun _ jQ=>Rm rfl (Rk rfl (Ro aD 0 rfl (Rs rfl (Rk rfl ?_)))))));clear H iW;intro a H;refine bE aD 0 (vs:=[_]) _ H wn rfl rfl rfl rfl rfl rfl rfl rfl ?_;clear H;intro w H;dsimp only [List.set,setRow] at H;refine jQ _ _ ?_;clear jQ;refine kP H (SR fun _ iL=>Rm rfl (Rk rfl (Ro aD 0 rfl (Rc rfl (Rm rfl (Sp 113 rfl ?_ ?_)))))) <;> clear H
    ·intro jY a H
     try have agx:=dT jY
     exact kH H (aY jY rfl (aY jY rfl (aY jY rfl (aY jY rfl (aY jY rfl (aY jY rfl (Pt jY rfl (Kz iL (Ct rfl rfl (SR fun _ mQ=>ak mQ rfl (LR results32 rfl fun H=>H.hp.dW ⟨_,_,rfl,rfl,by omega,by omega⟩)))))))))))
    intro jY a H
    try have agx:=dF jY
    refine kH H (YM jY rfl (YM jY rfl (YI gQ dL jY rfl rfl (YF uw jY rfl (YR uQ jY rfl (by assumption) ?_)))));clear H;intro a H;refine kH H (YM jY rfl (YI oh kS jY rfl rfl (YF zk jY rfl (YR Ad jY rfl (by assumption) ?_))));clear H;intro a H;refine kH H (YM jY rfl (YI rZ mM jY rfl rfl (YF FP jY rfl (YR iH jY rfl (by assumption) ?_))));clear H;intro a H;refine kH H (YM jY rfl ?_);clear H;intro a H;refine mq _ H (wg H rfl rfl jY) rfl rfl rfl (by omega) (by omega) rfl ?_;clear H;intro a H;refine kH H (YM jY rfl ?_);clear H;intro a H;refine gK LJ (Li:=[]) (L:=[yR bl _]) H (wg H rfl rfl jY) rfl (ih _ _ l[k].rows[j].cells[m].flow _ (Et - 1) _ bl (Hp.owns (Li:=[]) H.hp) hcf (by omega) (by omega) (by omega) (by omega) (by omega)) rfl ?_;clear H;rintro v130 XO aju a w ⟨ajw,afK,rfl,rfl,ajT,ajR⟩ Jh H;dsimp only [List.nil_append] at H;refine kH H (YN jY rfl (Pf jY rfl (Kz iL (Cd rfl ?_ ?_)))) <;> clear H iL
    ·intro AB a H
     try have VE:=dT AB
     exact kP H (SR fun _ om=>ak om rfl (LR results32 rfl fun H=>H.hp.dW ⟨_,_,rfl,rfl,by omega,by omega⟩))
    intro AB a H
    try have VE:=dF AB
    refine kP H (Kc jP (SC (Rm rfl (Rd rfl (Ra rfl ?_)))));clear H jP;intro a H;refine aH ?_;refine dD ((m+1,afK,XO)) (by exact (H).sub ⟨rfl,rfl,rfl,rfl,rfl,rfl,aF⟩) ?_ ?_
    ·(try dsimp only);exact ⟨by omega,by omega,by omega,fun b o h=>Jh b o (zG b o h),aK Jh s10,aK Jh s5,fun b o h=>Jh b o (TJ b o h)⟩
    first|omega|(dsimp only;omega)
   intro Mj a H
   try have agu:=dF Mj
   refine dV ?_;refine gy _ _ ?_;clear gy;refine kP H (SC (Rm rfl (Rd rfl (Ra rfl ?_))));clear H;intro a H;refine aH ?_;refine dD ((j+1,lf3,g3)) (by exact (H).sub ⟨rfl,rfl,rfl,rfl,rfl,aF⟩) ?_ ?_
   ·(try dsimp only);exact ⟨by omega,by omega,by omega,zG,s10⟩
   first|omega|(dsimp only;omega)
  intro zu a H
  try have Og:=dF zu
  refine dV ?_;refine K6 _ _ ?_;clear K6;refine kP H (SC (Rm rfl (Rd rfl (Ra rfl ?_))));clear H;intro a H;refine aH ?_;refine dD ((k+1,lf2,g2)) (by exact (H).sub ⟨rfl,rfl,rfl,rfl,aF⟩) ?_ ?_
  ·(try dsimp only);exact ⟨by omega,by omega,by omega,nU⟩
  first|omega|(dsimp only;omega)
 intro fM a H
 try have pQ:=dF fM
 refine dV ?_;refine K2 _ _ ?_;clear K2;exact kP H (SR fun _ oV=>ak oV rfl (LR results32 rfl fun H=>H.hp.dW ⟨_,_,rfl,rfl,by omega,by omega⟩))
theorem Wv:∀ n:Nat,n≤4294967296→KI n
 | 0,_=>fun _ _ _ _ _ _ _ _ _ hz=>absurd hz (Nat.not_lt_zero _)
 | n+1,h=>ahY (Wv n (by omega)) (by omega)
theorem ahX (G:GH) (w0:World) (hG:Hold G w0) (D:nA) (d:vS) (hR:BF G D d) (hz:Ho d) :
  Calls prog 10 #[D.val] w0 (bD w0 G fun u G'=>∃ b,u=.bool b∧(b=true→mE d=0)):=by
 have Gm:=hz.fl;refine eN [(0,_)] func10 rfl ntmps10 rfl rfl hG ?_;intro a H;refine dz (fun _ K1=>?_);refine fC (cs:=[_,_,_,_,_,_,_,_,_,_,_]) H wn rfl rfl rfl ?_;clear H;intro b1 a w hb1 H;refine kH H (ak K1 rfl (SQ fun _ K2=>?_));clear H K1;intro a H;obtain ⟨Ga,hma,hb1',H⟩:=H.dM;have hga:=fun j v hj=>zm hb1' 0 D.cells rfl j v hj;have hgs:=fun j v hj=>zm hb1' 7 [fq D.s1,fq D.s2,fq D.s3,fq D.s4] rfl j v hj
 have hgr:aI Ga b1 6=some (fq D.r):=by unfold aI;rw [hb1'];rfl
 have hgf:aI Ga b1 0=some (fq D.f):=by unfold aI;rw [hb1'];rfl
 replace hR:=hR.mono hma;refine oF ?_;refine eX aD H wn rfl ?_;clear H;intro b3 a w hb3 H;refine bE aD 0 (vs:=[_]) _ H wn rfl rfl rfl rfl rfl rfl rfl rfl ?_;clear H;intro w H;dsimp only [List.set,setRow] at H;refine kH H (Kn K2 (SR fun _ K3=>Rf D9 rfl ?_));clear H K2;intro a H;refine bJ J6 (cs:=[fq D.s1,fq D.s2,fq D.s3,fq D.s4]) H wn rfl rfl (fun j v hj=>H.hp.aI (hgs j v hj)) rfl ?_;clear H;intro a H;refine eX J6 H wn rfl ?_;clear H;intro b4 a w hb4 H;refine bE J6 0 (vs:=[_,_,_,_]) _ H wn rfl rfl rfl rfl rfl rfl rfl rfl ?_;clear H;intro w H;dsimp only [List.set,setRow] at H;refine K3 _ _ ?_;clear K3;refine kP H (SR fun _ K4=>aV II Ac 0 rfl rfl (Rl mD rfl (Rc rfl (Rm rfl (Sp 11 rfl ?_ ?_))))) <;> clear H
 ·intro h11 a H
  try have nW:=dT h11
  refine kH H (YF LZ h11 rfl (YO qZ 0 h11 rfl (YL mO h11 rfl (YC h11 rfl (Pt h11 rfl (Rm rfl (Sp 17 rfl ?_ ?_))))))) <;> clear H
  ·intro dO a H
   try have lN:=dT dO
   refine kH H (YF L8 dO rfl (YO Dj 0 dO rfl (YL Dl dO rfl (YC dO rfl (Pt dO rfl (Rm rfl (Sp 23 rfl ?_ ?_))))))) <;> clear H
   ·intro h23 a H
    try have yj:=dT h23
    refine kH H (YF SX h23 rfl (YO vQ 0 h23 rfl (YL xg h23 rfl (YC h23 rfl (Pt h23 rfl (Rm rfl (Sp 29 rfl ?_ ?_))))))) <;> clear H
    ·intro kM a H
     try have p29:=dT kM
     refine kH H (YF Ma kM rfl (YR Bt kM rfl (by assumption) ?_));clear H;intro a H;refine kH H (YL Bw kM rfl (YC kM rfl (Pt kM rfl (Rm rfl (Sp 35 rfl ?_ ?_))))) <;> clear H
     ·intro mF a H
      try have p35:=dT mF
      refine kH H (YF D8 mF rfl (YR iH mF rfl (by assumption) ?_));clear H;intro a H;refine gK LJ (Li:=[_]) (L:=[yR b3 150]) H (wg H rfl rfl mF) rfl (Wv 4294967296 (bK _) _ _ d.flow _ 12 150 b3 (Hp.owns (Li:=[_]) H.hp) hR.fl (by omega) (by decide) (by decide) (by decide) (by omega)) rfl ?_;clear H;rintro v38 Ky L38 a w ⟨YU,lf38,rfl,rfl,-,-⟩ El H;refine kH H (Pt mF rfl (Rm rfl (Sp 40 rfl ?_ ?_))) <;> clear H
      ·intro kN a H
       try have p40:=dT kN
       refine bJ uP (cs:=D.cells) H (wg H rfl rfl kN) rfl rfl (fun j v hj=>H.hp.aI (aK El (hga j v hj))) rfl ?_;clear H;intro a H;refine s_call abt H (wg H rfl rfl kN) rfl (ZB _ _ H.ro D d (hR.mono El) hz) rfl ?_;clear H;rintro v42 KC a w rfl ajY H;exact kH H (YC kN rfl (Pt kN rfl (ak K4 rfl (LR results10 rfl fun H=>H.rt ⟨_,rfl,fun h=>by first|assumption|(simp_all;done)⟩))))
      intro kN a H
      try have p40:=dF kN
      exact kH H (aY kN rfl (Pf kN rfl (ak K4 rfl (LR results10 rfl fun H=>H.rt ⟨_,rfl,fun h=>by first|assumption|(simp_all;done)⟩))))
     intro mF a H
     try have p35:=dF mF
     exact kH H (aY mF rfl (Pf mF rfl (Rm rfl (aY rfl rfl (Pf rfl rfl (ak K4 rfl (LR results10 rfl fun H=>H.rt ⟨_,rfl,fun h=>by first|assumption|(simp_all;done)⟩)))))))
    intro kM a H
    try have p29:=dF kM
    exact kH H (aP kM rfl (aP kM rfl (Pf kM rfl (Rm rfl (aY rfl rfl (Pf rfl rfl (Rm rfl (aY rfl rfl (Pf rfl rfl (ak K4 rfl (LR results10 rfl fun H=>H.rt ⟨_,rfl,fun h=>by first|assumption|(simp_all;done)⟩)))))))))))
   intro h23 a H
   try have yj:=dF h23
   exact kH H (aP h23 rfl (aP h23 rfl (Pf h23 rfl (Rm rfl (aP rfl rfl (aP rfl rfl (Pf rfl rfl (Rm rfl (aY rfl rfl (Pf rfl rfl (Rm rfl (aY rfl rfl (Pf rfl rfl (ak K4 rfl (LR results10 rfl fun H=>H.rt ⟨_,rfl,fun h=>by first|assumption|(simp_all;done)⟩)))))))))))))))
  intro dO a H
  try have lN:=dF dO
  exact kH H (aP dO rfl (aP dO rfl (Pf dO rfl (Rm rfl (aP rfl rfl (aP rfl rfl (Pf rfl rfl (Rm rfl (aP rfl rfl (aP rfl rfl (Pf rfl rfl (Rm rfl (aY rfl rfl (Pf rfl rfl (Rm rfl (aY rfl rfl (Pf rfl rfl (ak K4 rfl (LR results10 rfl fun H=>H.rt ⟨_,rfl,fun h=>by first|assumption|(simp_all;done)⟩)))))))))))))))))))
 intro h11 a H
 try have nW:=dF h11
 exact kH H (aP h11 rfl (aP h11 rfl (Pf h11 rfl (Rm rfl (aP rfl rfl (aP rfl rfl (Pf rfl rfl (Rm rfl (aP rfl rfl (aP rfl rfl (Pf rfl rfl (Rm rfl (aP rfl rfl (aP rfl rfl (Pf rfl rfl (Rm rfl (aY rfl rfl (Pf rfl rfl (Rm rfl (aY rfl rfl (Pf rfl rfl (ak K4 rfl (LR results10 rfl fun H=>H.rt ⟨_,rfl,fun h=>by first|assumption|(simp_all;done)⟩)))))))))))))))))))))))
end
section
open Go.RowKit
def iI (l:List bU) (i:Nat):Int:=(l[i]?.map bU.id).getD 0
def jy (l:List bU) (i:Nat):Int:=(l[i]?.map bU.parent).getD 0
structure mP (l:List bU):Prop where
 few:l.length≤1024
 pos:∀ i,i < l.length→1≤iI l i
 up:∀ i,i+1 < l.length→iI l i < iI l (i+1)
 aZ:∀ i,i < l.length→jy l i=0∨∃ k,k < i∧iI l k=jy l i
theorem mP.lt {l:List bU} (h:mP l):∀ {j i:Nat},j < l.length→i < j→iI l i < iI l j
 | 0,_,_,hi=>by omega
 | j+1,i,hj,hi=>by
  have h1:=h.up j hj
  by_cases e:i=j
  ·subst e;exact h1
  have:=h.lt (j:=j) (i:=i) (by omega) (by omega);omega
theorem mP.inj {l:List bU} (h:mP l) {i j:Nat} (hi:i < l.length) (hj:j < l.length) (e:iI l i=iI l j):i=j:=by
 rcases Nat.lt_trichotomy i j with h1|h1|h1
 ·have:=h.lt hj h1;omega
 ·exact h1
 have:=h.lt hi h1;omega
def rU (l:List bU) (p:Int):Nat→Option Nat
 | 0=>none
 | k+1=>if iI l k=p then some k else rU l p k
theorem Jy {l:List bU} {p:Int}:∀ {n k:Nat},rU l p n=some k→k < n∧iI l k=p
 | 0,_,h=>by cases h
 | n+1,k,h=>by
  unfold rU at h
  split at h
  ·injection h with h;subst h;exact ⟨by omega,by assumption⟩
  have:=Jy h;exact ⟨by omega,this.2⟩
theorem U0 {l:List bU} {p:Int}:∀ {n:Nat},rU l p n=none→∀ k,k < n→iI l k≠p
 | 0,_,_,hk=>by omega
 | n+1,h,k,hk=>by
  unfold rU at h
  split at h
  ·cases h
  by_cases e:k=n
  ·subst e;assumption
  exact U0 h k (by omega)
def rt (l:List bU) (i:Nat):Int :=
 match _h:rU l (jy l i) i with
 | some k=>rt l k
 | none=>iI l i
termination_by i
decreasing_by exact (Jy _h).1
theorem OA {l:List bU} {i k:Nat} (h:rU l (jy l i) i=some k):rt l i=rt l k:=by
 rw [rt];split
 ·rename_i k' h';rw [h] at h';injection h' with e;rw [e]
 rename_i h';rw [h] at h';cases h'
theorem Oy {l:List bU} {i:Nat} (h:rU l (jy l i) i=none):rt l i=iI l i:=by
 rw [rt];split
 ·rename_i k' h';rw [h] at h';cases h'
 rfl
theorem VW {l:List bU} {i:Nat} (h:mP l) (hi:i < l.length) (hp:jy l i=0):rt l i=iI l i:=by
 refine Oy ?_
 cases e:rU l (jy l i) i with
 | none=>rfl
 | some k =>
  obtain ⟨h1,h2⟩:=Jy e;have:=h.pos k (by omega)
  omega
theorem Oz {l:List bU} {i k:Nat} (h:mP l) (hi:i < l.length) (hk:k < i) (he:iI l k=jy l i):rt l i=rt l k:=by
 cases e:rU l (jy l i) i with
 | none=>exact absurd he (U0 e k hk)
 | some k' =>
  obtain ⟨h1,h2⟩:=Jy e;rw [OA e,h.inj (i:=k') (j:=k) (by omega) (by omega) (by omega)]
def gX (l:List bU) (n:Nat):List Int:=((List.range n).filter fun j=>decide (jy l j=0)).map (iI l)
def kZ (l:List bU) (r:Int) (n:Nat):List Int:=((List.range n).filter fun j=>decide (jy l j≠0∧rt l j=r)).map (iI l)
theorem vK (l:List bU) (n:Nat):gX l (n+1)=gX l n++if jy l n=0 then [iI l n] else []:=by
 unfold gX
 rw [List.range_succ,List.filter_append,mX]
 by_cases h:jy l n=0
 ·rw [au h];simp [h]
 rw [ah h];simp [h]
theorem Db (l:List bU) (r:Int) (n:Nat):kZ l r (n+1)=kZ l r n++if jy l n≠0∧rt l n=r then [iI l n] else []:=by
 unfold kZ
 rw [List.range_succ,List.filter_append,mX]
 by_cases h:jy l n≠0∧rt l n=r
 ·rw [au h];simp [h]
 rw [ah h];simp only [List.filter_cons,iN h];simp
theorem Ox {l:List bU} (h:mP l):∀ (i:Nat),i < l.length→rt l i≤iI l i∧rt l i∈gX l (i+1)
 | i,hi=>by
  rcases h.aZ i hi with hp|⟨k,hk,he⟩
  ·rw [VW h hi hp,vK,au hp];exact ⟨Int.le_refl _,by simp⟩
  have ih:=Ox h k (by omega);have hlt:=h.lt hi hk;rw [Oz h hi hk he];refine ⟨by omega,?_⟩
  have hmono:∀ (m:Nat),∀ x∈gX l (k+1),x∈gX l (k+1+m):=by
   intro m
   induction m with
   | zero=>exact fun x hx=>hx
   | succ m ihm=>intro x hx;rw [← Nat.add_assoc,vK];exact List.mem_append_left _ (ihm x hx)
  have:=hmono (i - k) _ ih.2
  rwa [show k+1+(i - k)=i+1 by omega] at this
theorem Ov {l:List bU} (h:mP l):∀ {n:Nat},n≤l.length→(gX l n).Nodup∧∀ x∈gX l n,∀ j,n≤j→j < l.length→x < iI l j
 | 0,_=>⟨by simp [gX],fun x hx=>by simp [gX] at hx⟩
 | n+1,hn=>by
  obtain ⟨h1,h2⟩:=Ov h (n:=n) (by omega);rw [vK]
  split
  ·refine ⟨List.nodup_append.2 ⟨h1,by simp,fun x hx y hy e=>?_⟩,fun x hx j hj hl=>?_⟩
   ·simp only [oC] at hy
    have:=h2 x hx n (bK _) (by omega)
    omega
   rcases oZ.1 hx with hx|hx
   ·exact h2 x hx j (by omega) hl
   simp only [oC] at hx
   subst hx;exact h.lt hl (by omega)
  rw [nO];exact ⟨h1,fun x hx j hj hl=>h2 x hx j (by omega) hl⟩
theorem Ow (l:List bU) (n m:Nat):∃ t,gX l (n+m)=gX l n++t:=by
 induction m with
 | zero=>exact ⟨[],by simp⟩
 | succ m ih=>obtain ⟨t,ht⟩:=ih;exact ⟨_,by rw [← Nat.add_assoc,vK,ht,lU]⟩
theorem ahe (l:List bU) (r:Int) (n m:Nat):∃ t,kZ l r (n+m)=kZ l r n++t:=by
 induction m with
 | zero=>exact ⟨[],by simp⟩
 | succ m ih=>obtain ⟨t,ht⟩:=ih;exact ⟨_,by rw [← Nat.add_assoc,Db,ht,lU]⟩
def fO (l:List bU) (j:Nat):Nat:=(gX l l.length).idxOf (rt l j)
theorem afh {x:Int} {u t:List Int} (h:x∈u):(u++t).idxOf x=u.idxOf x:=by
 rw [List.idxOf_append,au h]
theorem UU {l:List bU} (h:mP l) {j n:Nat} (hj:j < n) (hn:n≤l.length):fO l j < (gX l n).length∧(gX l n)[fO l j]?=some (rt l j):=by
 obtain ⟨t1,h1⟩:=Ow l (j+1) (n - (j+1));obtain ⟨t2,h2⟩:=Ow l n (l.length - n);rw [show j+1+(n - (j+1))=n by omega] at h1;rw [show n+(l.length - n)=l.length by omega] at h2
 have hm:rt l j∈gX l n:=by rw [h1];exact List.mem_append_left _ (Ox h j (by omega)).2
 have e:fO l j=(gX l n).idxOf (rt l j):=by unfold fO;rw [h2,afh hm]
 have hl:=List.idxOf_lt_length_of_mem hm;rw [e];refine ⟨hl,?_⟩;rw [gM hl,List.getElem_idxOf]
theorem afx {l:List bU} (h:mP l) {n:Nat} (hn:n < l.length) (hp:jy l n=0):fO l n=(gX l n).length:=by
 obtain ⟨h1,h2⟩:=UU h (j:=n) (n:=n+1) (by omega) (by omega);have hd:=(Ov h (n:=n+1) (by omega)).1;rw [vK,au hp] at h1 h2 hd;rw [VW h hn hp] at h2
 simp only [kU,List.length_singleton] at h1
 apply Classical.byContradiction
 intro hne;rw [tY (by omega)] at h2;have:=(List.nodup_append.1 hd).2.2 _ (kI h2) (iI l n) (by simp);exact this rfl
theorem UW {l:List bU} (h:mP l) {n k:Nat} (hn:n < l.length) (hk:k < n) (he:iI l k=jy l n):fO l n=fO l k:=by
 unfold fO;rw [Oz h hn hk he]
def lq (l:List bU) (n:Nat):List (Int × List Int):=(gX l n).map fun r=>(r,kZ l r n)
theorem Dg (l:List bU) (n:Nat):(lq l n).length=(gX l n).length:=by simp [lq]
theorem JM (l:List bU):∀ (n:Nat),(gX l n).length≤n
 | 0=>by simp [gX]
 | n+1=>by rw [vK,kU];have:=JM l n;split <;> simp <;> omega
theorem JL (l:List bU) (r:Int):∀ (n:Nat),(kZ l r n).length≤n
 | 0=>by simp [kZ]
 | n+1=>by rw [Db,kU];have:=JL l r n;split <;> simp <;> omega
theorem ahd {l:List bU} (h:mP l) {n:Nat} (hn:n < l.length):kZ l (iI l n) n=[]:=by
 unfold kZ
 rw [List.map_eq_nil_iff,List.filter_eq_nil_iff];intro j hj hc;rw [oz] at hj;have h1:=(Ox h j (by omega)).1;have h2:=h.lt hn hj;have h3:=(qg hc).2
 omega
theorem WT {l:List bU} (h:mP l) {n:Nat} (hn:n < l.length) (hp:jy l n=0):lq l (n+1)=lq l n++[(iI l n,[])]:=by
 unfold lq
 rw [vK,au hp,mX]
 congr 1
 ·refine List.map_congr_left fun r _=>?_;rw [Db,ah (fun h'=>h'.1 hp),nO]
 rw [List.map_singleton,Db,ah (fun h'=>h'.1 hp),nO,ahd h hn]
theorem WS {l:List bU} (h:mP l) {n:Nat} (hn:n < l.length) (hp:jy l n≠0) :
  ∃ hi:fO l n < (lq l n).length,(lq l n)[fO l n].1=rt l n∧lq l (n+1)=(lq l n).set (fO l n) (rt l n,(lq l n)[fO l n].2++[iI l n]):=by
 obtain ⟨k,hk,he⟩:=(h.aZ n hn).resolve_left hp;obtain ⟨h1,h2⟩:=UU h hk (n:=n) (by omega);rw [← UW h hn hk he] at h1 h2;rw [← Oz h hn hk he] at h2;rw [gM h1] at h2
 injection h2 with h2
 have hd:=(Ov h (n:=n) (by omega)).1;refine ⟨by rw [Dg];exact h1,by simp [lq,h2],?_⟩;refine List.ext_getElem ?_ fun j hj1 hj2=>?_
 ·rw [List.length_set,Dg,Dg,vK,ah hp,nO]
 rw [List.length_set,Dg] at hj2;rw [List.getElem_set]
 have e:gX l (n+1)=gX l n:=by rw [vK,ah hp,nO]
 have e1:(lq l (n+1))[j]=((gX l n)[j],kZ l ((gX l n)[j]) (n+1)):=by simp only [lq,List.getElem_map,e]
 rw [e1,Db]
 by_cases hj:fO l n=j
 ·subst hj;rw [au rfl,h2,au ⟨hp,rfl⟩]
  simp [lq,h2]
 rw [ah hj,ah,nO]
 ·simp [lq]
 rintro ⟨_,e2⟩;rw [← h2] at e2;exact hj ((List.getElem_inj hd).1 e2)
def oG (t:List (Int × List Int)):Nat:=(t.map fun p=>p.2.length+1).sum
theorem RB (t:List (Int × List Int)) (p:Int × List Int):oG (t++[p])=oG t+(p.2.length+1):=by simp [oG]
theorem ZV {t:List (Int × List Int)} {i:Nat} (hi:i < t.length) {r:Int} {x:Int}:oG (t.set i (r,t[i].2++[x]))=oG t+1:=by
 have e:t=t.take i++t[i] :: t.drop (i+1):=by simp
 rw [List.set_eq_take_append_cons_drop,au hi]
 conv=>rhs;rw [e]
 simp only [oG,mX,dY,List.sum_append,List.sum_cons,kU,List.length_singleton]
 omega
theorem Rz {l:List bU} (h:mP l):∀ {n:Nat},n≤l.length→oG (lq l n)=n
 | 0,_=>by simp [lq,gX,oG]
 | n+1,hn=>by
  have ih:=Rz h (n:=n) (by omega)
  by_cases hp:jy l n=0
  ·rw [WT h (by omega) hp,RB,ih];rfl
  obtain ⟨hi,_,e⟩:=WS h (n:=n) (by omega) hp;rw [e,ZV hi,ih]
theorem mP.of {d:vS} (h:mE d=0):mP d.kD.comments:=by
 have h1:=oJ h _ gV;have h2:=oJ h1 _ gV;have h3:=oJ h2 _ (kr _ (kr _ gV));have h4:=oJ h3 _ gV;have h5:=oJ h3 _ (kr _ gV)
 have hl:d.kD.comments.length≤1024:=by
  unfold bP at h4
  by_cases hc:1024 < (d.kD.comments.length:Int)
  ·rw [jV hc] at h4;cases h4
  omega
 generalize d.kD.comments=l at h5 hl
 have h6:∀ i (hi:i < l.length),Ir l i l[i]=0:=fun i hi=>by
  have:=KP h5 i (by omega)
  unfold Ca at this
  rwa [gM hi] at this
 have h7:∀ i,i < l.length→_:=fun i hi=>NK (oJ (h6 i hi) _ gV);refine ⟨hl,fun i hi=>(h7 i hi).1,fun i hi=>(h7 (i+1) hi).2.2 (by omega),fun i hi=>?_⟩;have h8:=oJ (h6 i hi) _ (kr _ gV)
 have h9:yS l i l[i]=true:=by
  cases e:yS l i l[i] with
  | true=>rfl
  | false=>rw [e] at h8;cases h8
 have hp:jy l i=l[i].parent:=by simp [jy,hi]
 rw [hp]
 unfold yS at h9
 rw [Bool.or_eq_true] at h9
 rcases h9 with h10|h10
 ·exact .inl (qg h10)
 rw [List.findIdx?_isSome,List.any_eq_true] at h10;obtain ⟨x,hx,hxe⟩:=h10;obtain ⟨k,hk,rfl⟩:=List.getElem_of_mem hx;rw [List.length_take] at hk;refine .inr ⟨k,by omega,?_⟩;have e:=qg hxe;rw [List.getElem_take] at e;rw [← e]
 simp [iI,show k < l.length by omega]
theorem U6 (x:Int):∀ (a b:List (Int × aj)),kQ x (a++b)=(kQ x a).or (kQ x b)
 | [],b=>by simp [kQ]
 | (k,v) :: r,b=>by
  rw [nN,kQ,kQ]
  split
  ·rfl
  exact U6 x r b
def tK (l:List bU) (n:Nat):List (Int × aj):=(List.range n).map fun j=>(iI l j,vi (fO l j))
theorem Vn (l:List bU) (n:Nat):tK l (n+1)=tK l n++[(iI l n,vi (fO l n))]:=by unfold tK;rw [List.range_succ,mX];rfl
theorem Vm {l:List bU} (h:mP l) {n:Nat} (hn:n < l.length):kQ (iI l n) (tK l n)=none:=by
 refine GA fun hm=>?_;rw [tK,List.map_map] at hm;obtain ⟨j,hj,e⟩:=List.mem_map.1 hm;rw [oz] at hj;have h1:=h.lt hn hj;dsimp only [Function.comp] at e
 omega
theorem Vl {l:List bU} (h:mP l):∀ {n k:Nat},k < n→n≤l.length→kQ (iI l k) (tK l n)=some (vi (fO l k))
 | 0,_,hk,_=>by omega
 | n+1,k,hk,hn=>by
  rw [Vn,U6]
  by_cases e:k=n
  ·subst e;rw [Vm h (by omega)];simp [kQ]
  rw [Vl h (n:=n) (by omega) (by omega)];rfl
end
section
open Go.RowKit
theorem LH:∀ args w,(callFunc 21 args).run prog w=.ok (.enter 21 args) w:=enters func21 rfl (by kernel_rfl)
theorem xk:prog.underlying 64=some (.slice 70):=by kernel_rfl
theorem Bu:Ty prog 70 2 32 [.int .i64 0,.slice none 0 0] true:=⟨by kernel_rfl,by kernel_rfl⟩
theorem GU:Ty prog 68 1 24 [.slice none 0 0] false:=⟨by kernel_rfl,by kernel_rfl⟩
theorem aio:ou prog 70 [(0,1),(1,1)] [.int .i64 0,.slice none 0 0]:=⟨by kernel_rfl,by kernel_rfl⟩
theorem FN:bM prog 70 1 1:=⟨by kernel_rfl⟩
theorem wP {l:List bU} {k:Nat} (h:k < l.length):iI l k=l[k].id:=by simp [iI,h]
theorem yu {l:List bU} {k:Nat} (h:k < l.length):jy l k=l[k].parent:=by simp [jy,h]
theorem afF {l:List bU} {p:Int} {k:Nat} (h:¬ iI l k=p):rU l p (k+1)=rU l p k:=ah h
theorem U1 {l:List bU} {p:Int} {k:Nat} (h:iI l k=p):rU l p (k+1)=some k:=au h
theorem VR:∀ (i:Nat) (G:GH) (w0:World) (_:Hold G w0) (l:List bU) (v:aj) (_:av G (.sl 6 (l.map bU.dat)) v) (_:i < l.length) (_:l.length≤1024),
  Calls prog 21 #[v,vi i] w0 (bD w0 G fun u G'=>u=vi (rt l i)):=by
 intro i
 induction i using Nat.strongRecOn with
 | _ i ih =>
 intro G w0 hG l v hv hi hl;obtain ⟨A,n,c,rfl⟩:=hv.form;have hn:=hv.len;rw [bT] at hn;subst hn;obtain ⟨b,o,rfl,Gg,-⟩:=Aq hv hi;refine eN [(0,_),(1,_)] func21 rfl ntmps21 rfl rfl hG ?_;intro a H;refine kP H (SR fun _ K1=>ak K1 rfl (SQ fun _ K2=>SR fun _ K3=>Rm rfl (Rs rfl (ak K3 rfl (SB ?_)))));clear H K1 K3;intro a H;skip;refine fH (ι:=Nat × GH) (Tc:=[(0,_),(1,_)]) (Lc:=[]) (fun gh=>[(5,vi ((gh.1:Int) - 1))]) (fun gh=>[]) (fun gh=>gh.2) (fun gh=>gh.1≤i∧rU l (jy l i) i=rU l (jy l i) gh.1∧(∀ b o,G b=some o→gh.2 b=some o)) (fun gh=>gh.1) ((i,G)) (by exact (H).sub ⟨rfl,rfl,rfl,aF⟩) ?_ ?_
 ·exact ⟨bK _,rfl,fun _ _ h=>h⟩
 clear H;intro gh a w hI H;obtain ⟨k,g⟩:=gh;dsimp only at hI H;obtain ⟨hk,hlp,hgm⟩:=hI;dsimp only [lca,bq] at H;refine kP H (SQ fun _ K4=>SR fun _ K5=>Rm rfl (Rc rfl (Kz K5 (Cd rfl ?_ ?_)))) <;> clear H K5
 ·intro h9 a H
  try have p9:=dT h9
  have hk3:k - 1 < l.length:=by omega
  obtain ⟨b',o',e',aeP,-⟩:=Aq hv hk3
  injection e' with e';injection e' with e1 e2 e3;subst e1;subst e2
  clear e3
  have ek:(k:Int) - 1=((k - 1:Nat):Int):=by omega
  rw [ek] at H;refine kP H (Kc K4 (SQ fun _ K6=>SB (SQ fun _ K7=>?_)));clear H K4;intro a H;refine dI hmx [[],[],[0,1],[0,1,2],(ra 0 4),[],[],[5,6],[5,6,7],(ra 5 4),(ra 0 10)] [] (by kernel_rfl) [_,_,_,_,_,_,_,_,_,_,_] H (aB (Z0 rfl (Rm rfl)) (Z0 rfl (Rm rfl)) (Z2 0 12 1 13 rfl (Ri mD mK rfl rfl)) (Z1 2 14 rfl (Rf vw rfl)) (aB (X1 3 15 rfl fun hG=>Rg aD rfl (aK hG (aK hgm (aeP 0 _ rfl)))) (Z0 rfl (Rm rfl)) (Z0 rfl (Rm rfl)) (Z2 5 17 6 18 rfl (Ri mD mK rfl rfl)) (aW (Z1 7 19 rfl (Rf zi rfl)) (aW (X1 8 20 rfl fun hG=>Rg aD rfl (aK hG (aK hgm (Gg 1 _ rfl)))) (aW (Z2 4 16 9 21 rfl (Rc rfl)) bW))))) ?_
  clear H;intro a w G vE H hv;have H:=H.aS (hv 10 22 rfl rfl) rfl;clear hv;refine aH ⟨rfl,?_⟩;refine K7 _ _ ?_;clear K7;refine kW H rfl ?_ ?_
  ·intro h22
   try have iK:=dT h22
   refine kP H (SR fun _ K8=>Rm rfl (Rm rfl ?_));clear H;intro a H;refine s_call LH H wn rfl (ih (k - 1) (by omega) _ _ H.ro l _ (hv.mono fun b o h=>vE b o (hgm b o h)) hk3 hl) rfl ?_;clear H;rintro v25 PX a w rfl AZ H;refine kH H (ak K8 rfl ?_);clear H K8;intro a H;refine lr H results21 rfl ?_
   first
   | exact H.rt (ay vi (by
     rw [← wP hi,Oy];rw [hlp,show k=0 by omega]
     rfl))
   | exact H.rt (ay vi (OA (by
     have e:=U1 (l:=l) (p:=jy l i) (k:=k - 1) (by rw [wP hk3,yu hi];assumption);rw [show k - 1+1=k by omega] at e
     rw [hlp,e])).symm)
  intro h22
  try have iK:=dF h22
  refine kP H (Kc K6 (SC (Rm rfl (Rs rfl (Ra rfl ?_)))));clear H K6;intro a H;refine aH ?_;refine dD ((k - 1,_)) (by exact (H).sub ⟨rfl,rfl,rfl,aF⟩) ?_ ?_
  ·(try dsimp only);exact ⟨by omega,by rw [hlp,← afF (k:=k - 1) (by rw [wP hk3,yu hi];assumption),show k - 1+1=k by omega],fun b o h=>vE b o (hgm b o h)⟩
  first|omega|(dsimp only;omega)
 intro h9 a H
 try have p9:=dF h9
 refine dV ?_;refine K2 _ _ ?_;clear K2;refine kP H (SR fun _ K9=>Rm rfl (Rm rfl (Ri mD mK rfl rfl (Rf vw rfl (Rg aD rfl (aK hgm (Gg 0 _ rfl)) (ak K9 rfl ?_))))));clear H K9;intro a H;refine lr H results21 rfl ?_
 first
 | exact H.rt (ay vi (by
   rw [← wP hi,Oy];rw [hlp,show k=0 by omega]
   rfl))
 | exact H.rt (ay vi (OA (by
   have e:=U1 (l:=l) (p:=jy l i) (k:=k - 1) (by rw [wP hk3,yu hi];assumption);rw [show k - 1+1=k by omega] at e
   rw [hlp,e])).symm)
structure ji where
 r:Int
 rep:List Int
 v:aj
 lo:OL
def ji.pr (x:ji):Int × List Int:=(x.r,x.rep)
def ji.cells (x:ji):List aj:=[vi x.r,x.v]
def ji.ok (x:ji):Prop:=cK 3 1 x.v x.rep.length (x.rep.map vi) x.lo
def jg (ts:List ji):OL:=(ts.map ji.lo).flatten
def vN (ts:List ji):List aj:=(ts.map ji.cells).flatten
def Bq (p:Int × List Int):List Dat:=[li p.1,.sl 1 (p.2.map fun x=>[li x])]
theorem Pb (a b:List ji):jg (a++b)=jg a++jg b:=by simp [jg]
theorem Pg (x:ji) (b:List ji):jg (x :: b)=x.lo++jg b:=by simp [jg]
theorem aiA (a b:List ji):vN (a++b)=vN a++vN b:=by simp [vN]
theorem WR:∀ (ts:List ji) (i:Nat) (hi:i < ts.length) (y:ji) (_:y.r=ts[i].r),(vN ts).set (i*2+1) y.v=vN (ts.set i y)
 | x :: ts,0,_,y,hr=>by
  have hr:y.r=x.r:=hr
  simp [vN,ji.cells,hr]
 | x :: ts,i+1,hi,y,hr=>by
  have ih:=WR ts i (by simpa using hi) y (by simpa using hr);rw [show (i+1)*2+1=(i*2+1)+1+1 by omega,List.set_cons_succ]
  unfold vN at ih ⊢
  rw [dY,List.flatten_cons,dY,List.flatten_cons,← ih]
  rfl
theorem WQ:∀ (ts:List ji) (i:Nat) (hi:i < ts.length),(vN ts)[i*2]?=some (vi ts[i].r)∧(vN ts)[i*2+1]?=some ts[i].v
 | x :: ts,0,_=>⟨rfl,rfl⟩
 | x :: ts,i+1,hi=>by
  have ih:=WQ ts i (by simpa using hi);rw [show (i+1)*2+1=(i*2+1)+1+1 by omega,show (i+1)*2=i*2+1+1 by omega];exact ih
theorem Om (A x C:OL):(A++(x++C)).Perm ((A++C)++x):=by
 rw [lU];exact List.Perm.append_left A xD
theorem aiB (A:OL) (ts:List ji) {i:Nat} (hi:i < ts.length) (Lo:OL):(A++(jg ts++Lo)).Perm ((A++(jg (ts.take i)++(jg (ts.drop (i+1))++Lo)))++ts[i].lo):=by
 have e:jg ts=jg (ts.take i)++(ts[i].lo++jg (ts.drop (i+1))):=by
  rw [← Pg,← Pb];congr 1;simp
 have h:=Om (A++jg (ts.take i)) ts[i].lo (jg (ts.drop (i+1))++Lo);rw [e]
 simpa only [lU] using h
theorem aiz (A:OL) (ts:List ji) {i:Nat} (hi:i < ts.length) (y:ji) (Lo:OL):((A++(jg (ts.take i)++(jg (ts.drop (i+1))++Lo)))++y.lo).Perm (A++(jg (ts.set i y)++Lo)):=by
 have e:jg (ts.set i y)=jg (ts.take i)++(y.lo++jg (ts.drop (i+1))):=by
  rw [← Pg,← Pb,List.set_eq_take_append_cons_drop,au hi]
 have h:=Om (A++jg (ts.take i)) y.lo (jg (ts.drop (i+1))++Lo);rw [e];exact (by simpa only [lU] using h.symm)
theorem afi (A B:OL) (x:Nat × Obj):(A++(B++[x]))[A.length+B.length]?=some x:=by
 rw [rD (by omega),Fh,rD (bK _),Nat.sub_self];rfl
theorem ahF (A B:OL) (x y:Nat × Obj):(A++(B++[x])).set (A.length+B.length) y=A++(B++[y]):=by
 rw [List.set_append_right _ _ (by omega),Fh,List.set_append_right _ _ (bK _),Nat.sub_self];rfl
theorem cK.set1 {e sz n cap b o:Nat} {xs:List aj} {Lo:OL} (h:cK e sz (.slice (some ⟨b,o,none⟩) n cap) n xs Lo) :
  ∃ cur:List aj,o=0∧Lo=[(b,.cells cur.toArray e (0,0))]∧n*sz≤cur.length∧∀ j v,cK e sz (.slice (some ⟨b,0,none⟩) n cap) n (xs.set j v) [(b,.cells (cur.set j v).toArray e (0,0))]:=by
 rcases h.2 with ⟨h1,_⟩|⟨b',cap',cur',h1,h2,h3,h4,h5,h6⟩
 ·cases h1
 cases h1
 refine ⟨cur'.toList,rfl,h2,?_,fun j v=>⟨by rw [List.length_set];exact h.1,.inr ⟨b,cap,_,rfl,rfl,h3,h4,by simpa using h5,?_⟩⟩⟩
 ·rw [sJ,h5];exact Nat.mul_le_mul_right _ h3
 rw [List.toList_toArray,← h6,List.take_set]
theorem aiE {G:GH} {x:Int} {l:List Int} {v:aj} (h:av G (.sl 1 (l.map fun x=>[li x])) v):aX G (Bq (x,l)) [vi x,v]:=⟨_,_,rfl,⟨rfl,rfl⟩,_,_,rfl,h,rfl⟩
theorem St.Tn {N:Nat} {D:List Deferred} {w0:World} {F:Nat→Prop} {G0:GH} {T:List (Nat × aj)} {a:Act} {w:World}:∀ (ts:List ji) {G:GH} {Li Lo:OL} (_:St N D w0 F G0 G (Li++(jg ts++Lo)) T a w) (_:∀ x∈ts,x.ok),
  ∃ G',(∀ k o,G k=some o→G' k=some o)∧fF G' 2 ((ts.map ji.pr).map Bq) (vN ts)∧St N D w0 F G0 G' (Li++Lo) T a w
 | [],G,Li,Lo,H,_=>⟨G,fun _ _ h=>h,fF.nil,H⟩
 | x :: ts,G,Li,Lo,H,hok=>by
  have H:=H.perm (L':=(Li++(jg ts++Lo))++x.lo) (by
   rw [Pg,lU]
   exact Om _ _ _)
  obtain ⟨G1,hm1,hr1,H⟩:=St.uy H (hok x gV) (rows:=x.rep.map fun x=>[li x]) (by simp) (eF _ _);obtain ⟨G2,hm2,hc2,H⟩:=St.Tn ts H fun y hy=>hok y (kr _ hy);refine ⟨G2,fun k o h=>hm2 k o (hm1 k o h),?_,H⟩
  have h1:fF G2 2 [Bq x.pr] x.cells:=by
   have:=(fF.nil (G:=G2) (sz:=2)).snoc (q:=Bq x.pr) (cs:=x.cells) (aiE (hr1.mono hm2)) rfl
   simpa using this
  rw [dY,dY,← List.singleton_append];exact h1.append hc2
set_option maxHeartbeats 2000000 in
theorem aiF (G:GH) (w0:World) (hG:Hold G w0) (D:nA) (cm:List bU) (hcm:av G (.sl 6 (cm.map bU.dat)) (fq D.s3)) (hok:mP cm) :
  Calls prog 20 #[D.val] w0 (bD w0 G fun u G'=>av G' (.sl 2 ((lq cm cm.length).map Bq)) u):=by
 have hml:maxLen=9223372036854775807:=rfl;have hcl:=hok.few;obtain ⟨⟨sA,sn,sc⟩,hs3⟩:∃ s,s=D.s3:=⟨_,rfl⟩;have hcm0:=hcm;rw [← hs3] at hcm0
 have hsn:sn=cm.length:=by have:=hcm0.len;rwa [bT] at this
 subst hsn;refine eN [(0,_)] func20 rfl ntmps20 rfl rfl hG ?_;intro a H;refine dz (fun _ K1=>?_);refine fC (cs:=[_,_,_,_,_,_,_,_,_,_,_]) H wn rfl rfl rfl ?_;clear H;intro b1 a w hb1 H;refine kH H (ak K1 rfl (SQ fun _ K2=>?_));clear H K1;intro a H;obtain ⟨Ga,hma,hb',H⟩:=H.dM;have hga:=fun j v hj=>zm hb' 0 D.cells rfl j v hj;replace hcm0:=hcm0.mono hma;refine kP H (SC (aU K2 rfl (SR fun _ K3=>?_)));clear H K2;intro a H;refine Bo H wn rfl ?_;clear H;intro b8 a w F3 H;refine kH H (ak K3 rfl (SQ fun _ K4=>SR fun _ K5=>Rf D9 rfl (Rf II rfl (Rg Ac rfl (hga 9 (.slice sA cm.length sc) (by show some (fq D.s3)=_;rw [← hs3])) (Rl mD rfl (Rm rfl (Kz K5 (SB ?_))))))));clear H K3 K5;intro a H;skip;refine fH (ι:=Nat × aj × List ji × OL × GH) (Tc:=[(4,_),(11,_),(12,_)]) (Lc:=[]) (fun gh=>[(3,gh.2.1),(13,vi gh.1)]) (fun gh=>[(b8,eH (tK cm gh.1))]++(jg gh.2.2.1++gh.2.2.2.1)) (fun gh=>gh.2.2.2.2) (fun gh=>gh.1≤cm.length∧gh.2.2.1.map ji.pr=lq cm gh.1∧(∀ x∈gh.2.2.1,x.ok)∧cK 70 2 gh.2.1 gh.2.2.1.length (vN gh.2.2.1) gh.2.2.2.1∧(∀ b o,Ga b=some o→gh.2.2.2.2 b=some o)) (fun gh=>cm.length - gh.1) ((0,.slice none 0 0,[],[],Ga)) (by exact (H).sub ⟨rfl,rfl,rfl,rfl,rfl,aF⟩) ?_ ?_
 ·exact ⟨iY _,rfl,fun x hx=>(by cases hx),cK.nil,fun _ _ h=>h⟩
 clear H;intro gh a w hI H;obtain ⟨n,v3,ts,Lo,g⟩:=gh;dsimp only at hI H;obtain ⟨hk,hpr,hall,hrw,hgm⟩:=hI;obtain ⟨v3A,EP,rfl,-,-⟩:=hrw.shape
 have htl:ts.length=(gX cm n).length:=by rw [← Dg,← hpr,bT]
 have akl:=JM cm n;dsimp only [lca,bq] at H;refine kP H (SR fun _ K6=>Rc rfl (Kz K6 (SQ fun _ K7=>Cd rfl ?_ ?_))) <;> clear H K6
 ·intro dP a H
  try have mo:=dT dP
  have hk2:n < cm.length:=by omega
  obtain ⟨b,o,rfl,hrow,-⟩:=Aq (hcm0.mono hgm) hk2;have hnew:=Vm hok hk2;rw [wP hk2] at hnew;have Jl:=Vn cm n;rw [wP hk2] at Jl;refine kP H (Kc K7 (SQ fun _ K8=>SB (SR fun _ K9=>Ri mD mK rfl rfl ?_)));clear H K7;intro a H;refine bJ mK (cs:=cm[n].cells) H wn rfl rfl (fun i v hi=>H.hp.aI (hrow i v hi)) rfl ?_;clear H;intro a H;refine eX mK H wn rfl ?_;clear H;intro b6 a w hb6 H;refine bE mK 0 (vs:=[_,_,_,_,_,_]) _ H wn rfl rfl rfl rfl rfl rfl rfl rfl ?_;clear H;intro w H;dsimp only [List.set,setRow] at H;refine K9 _ _ ?_;clear K9;refine kP H (SQ fun _ aT=>SR fun _ bC=>aV zi aD 0 rfl rfl (Rc rfl (Kz bC (Cd rfl ?_ ?_)))) <;> clear H bC
  ·intro h19 a H
   try have rW:=dT h19
   refine kP H (SR fun _ bF=>Rm rfl (aV vw aD 0 rfl rfl (Rm rfl (Rl xk rfl ?_))));clear H;intro a H;refine ED (i:=1) (l:=tK cm n) (ky:=cm[n].id) yG lu H wn rfl rfl rfl rfl hnew ?_;clear H;intro w H;dsimp only [List.set] at H;have hix:=afx hok hk2 (by rw [yu hk2];assumption);rw [← htl] at hix;rw [hix] at Jl;rw [← Jl] at H;refine bF _ _ ?_;clear bF;refine kP H (SR fun _ bN=>Rm rfl (aV vw aD 0 rfl rfl ?_));clear H;intro a H;refine jZ aio [_,_] H wn rfl rfl rfl rfl ?_;clear H;intro a H;refine gP xk Bu [_,_] [_,_] H wn rfl rfl rfl rfl rfl (by intro i q h;match i,h with|0,h=>exact h|n+1,h=>simp at h) rfl rfl ?_;clear H;intro b29 a w ajI H;refine pR (Li:=[_,_,_]++jg ts) (Lo:=Lo) (news:=[vi cm[n].id,.slice none 0 0]) xk Bu rfl rfl (St.un H) wn rfl rfl hrw rfl (H.hp.dZ 0 rfl rfl) rfl (by omega) (by omega) rfl ?_;clear H;intro v30 Yg a w aeQ H;have H:=H.assoc;dsimp only [lca,bq] at H;rw [show jg ts=jg (ts++[⟨cm[n].id,[],.slice none 0 0,[]⟩]) by rw [Pb];simp [jg]] at H;refine kH H (ak bN rfl ?_);clear H bN;intro a H;refine dV ?_;refine K8 _ _ ?_;clear K8;refine kP H (SC (Rd rfl (Rm rfl ?_)));clear H;intro a H;refine aH ?_;refine dD ((n+1,_,ts++[⟨cm[n].id,[],.slice none 0 0,[]⟩],Yg,g)) (by exact (H.dU (Pl:=[_,_,_]) (dx:=[_]) [2] (by decide) rfl).sub ⟨rfl,rfl,rfl,rfl,rfl,aF⟩) ?_ ?_
   ·(try dsimp only);exact ⟨by omega,by rw [mX,hpr,WT hok hk2 (by rw [yu hk2];assumption),wP hk2];rfl,fun x hx=>(oZ.1 hx).elim (hall x) (fun e=>by rw [oC.1 e];exact cK.nil),by rw [aiA,kU];exact aeQ,hgm⟩
   first|omega|(dsimp only;omega)
  intro h19 a H
  try have rW:=dF h19
  refine kP H (Kc aT (SR fun _ bQ=>Rm rfl (aV zi aD 0 rfl rfl ?_)));clear H aT;intro a H;refine vL (ky:=cm[n].parent) (zv:=vi 0) (l:=tK cm n) yG lu (by kernel_rfl) H wn rfl rfl (H.hp.own (b8,eH (tK cm n)) (by simp)) rfl ?_;clear H;intro a H
  have hp0:jy cm n≠0:=by rw [yu hk2];assumption
  obtain ⟨k,hkn,hke⟩:=(hok.aZ n hk2).resolve_left hp0
  have hlk:kQ cm[n].parent (tK cm n)=some (vi (fO cm n)):=by rw [← yu hk2,← hke,Vl hok hkn (by omega),← UW hok hk2 hkn hke]
  rw [hlk] at H;dsimp only [Option.getD] at H;obtain ⟨hi0,hir,hth⟩:=WS hok hk2 hp0
  have hi:fO cm n < ts.length:=by rw [← hpr,bT] at hi0;exact hi0
  have aek:ts[fO cm n].r=rt cm n:=by
   rw [← hir];simp only [← hpr,List.getElem_map];rfl
  have Uj:(lq cm n)[fO cm n].2=ts[fO cm n].rep:=by
   simp only [← hpr,List.getElem_map];rfl
  obtain ⟨b3,rfl⟩:=hrw.ptr (by omega);obtain ⟨cur,-,rfl,hcur,hset⟩:=hrw.set1;have hgt:=WQ ts (fO cm n) hi;have Je:=hall _ (jo hi);obtain ⟨Pq,Pv,UA,-,-⟩:=cK.shape Je
  have hrl:ts[fO cm n].rep.length≤n:=by rw [← Uj];simp only [lq,List.getElem_map];exact JL _ _ _
  refine kH H (ak bQ rfl (SR fun _ dJ=>Rm rfl (aV vw aD 0 rfl rfl (Rm rfl ?_))));clear H bQ;intro a H;refine ED (i:=1) (l:=tK cm n) (ky:=cm[n].id) yG lu H wn rfl rfl rfl rfl hnew ?_;clear H;intro w H;dsimp only [List.set] at H;rw [← Jl] at H;refine dJ _ _ ?_;clear dJ
  have zJ:∀ (eZ:Nat) (bO:ji) (dB:Nat) (v:aj) (G G':GH),(∀ k o,G k=some o→G' k=some o)→(fun (eZ:Nat) (bO:ji) (dB:Nat) (v:aj) (G:GH)=>match dB with|0=>v=.slice (some ⟨b3,0,none⟩) ts.length EP|1=>v=vi (fO cm n)|2=>v=.slice (some ⟨b3,0,none⟩) ts.length EP|3=>v=vi (fO cm n)|4=>v=(aJ b3 (0+fO cm n*2))|5=>v=(aJ b3 (0+fO cm n*2+1))|6=>v=.slice Pq ts[fO cm n].rep.length Pv|7=>v=(aJ b6 0)|8=>v=vi cm[n].id|9=>v=.slice (some ⟨eZ,0,none⟩) 1 1|10=>v=bO.v∧bO.ok∧bO.r=rt cm n∧bO.rep=ts[fO cm n].rep++[cm[n].id]∧∃ m A c,bO.v=.slice A m c|_=>True) eZ bO dB v G→(fun (eZ:Nat) (bO:ji) (dB:Nat) (v:aj) (G:GH)=>match dB with|0=>v=.slice (some ⟨b3,0,none⟩) ts.length EP|1=>v=vi (fO cm n)|2=>v=.slice (some ⟨b3,0,none⟩) ts.length EP|3=>v=vi (fO cm n)|4=>v=(aJ b3 (0+fO cm n*2))|5=>v=(aJ b3 (0+fO cm n*2+1))|6=>v=.slice Pq ts[fO cm n].rep.length Pv|7=>v=(aJ b6 0)|8=>v=vi cm[n].id|9=>v=.slice (some ⟨eZ,0,none⟩) 1 1|10=>v=bO.v∧bO.ok∧bO.r=rt cm n∧bO.rep=ts[fO cm n].rep++[cm[n].id]∧∃ m A c,bO.v=.slice A m c|_=>True) eZ bO dB v G':=by
   intro eZ bO dB v G G' hm h
   match dB,h with
   | 0,h=>exact h
   | 1,h=>exact h
   | 2,h=>exact h
   | 3,h=>exact h
   | 4,h=>exact h
   | 5,h=>exact h
   | 6,h=>exact h
   | 7,h=>exact h
   | 8,h=>exact h
   | 9,h=>exact h
   | 10,h=>exact h
   | 11,h=>exact trivial
   | 12,h=>exact trivial
   | 13,h=>exact trivial
   | _+14,h=>exact trivial
  refine Q7 (κ:=ji) (ts[fO cm n]) (hmx) [[],[],[],[],[2,3],[2,3,4],(ra 2 4),[],[7],[7,8],(ra 2 8),(ra 0 11),(ra 0 12),(ra 0 13)] [11,12,13] (by kernel_rfl) (by kernel_rfl) 8 9 10 (by decide) (by decide) (by decide) (by decide) (by decide) (by decide) (by decide) (by decide) (by decide) [(b3,.cells cur.toArray 70 (0,0))] ((b6,.cells cm[n].cells.toArray 67 (0,0)) :: (b8,eH (tK cm (n+1))) :: (jg ts++[(b3,.cells cur.toArray 70 (0,0))])) (.cells [vi cm[n].id].toArray 3 (0,0)) (fun b_ k_=>(b_,.cells [vi cm[n].id].toArray 3 (0,0)) :: (b6,.cells cm[n].cells.toArray 67 (0,0)) :: (b8,eH (tK cm (n+1))) :: (jg (ts.set (fO cm n) k_)++[(b3,.cells cur.toArray 70 (0,0))])) (fun x hx=>by rw [oC.1 hx];exact kr _ (kr _ (List.mem_append_right _ gV))) (fun x hx=>by rw [oC.1 hx];exact kr _ (kr _ (List.mem_append_right _ gV))) (fun _ _ x hx=>by rw [oC.1 hx];exact kr _ (kr _ (kr _ (List.mem_append_right _ gV)))) (fun (eZ:Nat) (bO:ji) (dB:Nat) (v:aj) (G:GH)=>match dB with|0=>v=.slice (some ⟨b3,0,none⟩) ts.length EP|1=>v=vi (fO cm n)|2=>v=.slice (some ⟨b3,0,none⟩) ts.length EP|3=>v=vi (fO cm n)|4=>v=(aJ b3 (0+fO cm n*2))|5=>v=(aJ b3 (0+fO cm n*2+1))|6=>v=.slice Pq ts[fO cm n].rep.length Pv|7=>v=(aJ b6 0)|8=>v=vi cm[n].id|9=>v=.slice (some ⟨eZ,0,none⟩) 1 1|10=>v=bO.v∧bO.ok∧bO.r=rt cm n∧bO.rep=ts[fO cm n].rep++[cm[n].id]∧∃ m A c,bO.v=.slice A m c|_=>True) (fun b b' k i v G hi hc h=>by match i,hi,hc,h with|0,_,_,h=>exact h|1,_,_,h=>exact h|2,_,_,h=>exact h|3,_,_,h=>exact h|4,_,_,h=>exact h|5,_,_,h=>exact h|6,_,_,h=>exact h|7,_,_,h=>exact h|8,_,_,h=>exact h|9,hi,_,_=>exact absurd hi (by decide)|10,_,hc,_=>exact absurd hc (by decide)|11,_,hc,_=>exact absurd hc (by decide)|12,_,hc,_=>exact absurd hc (by decide)|13,_,hc,_=>exact absurd hc (by decide)|_+14,_,_,_=>exact trivial) (fun b k k' i v G hi hc h=>by match i,hi,hc,h with|0,_,_,h=>exact h|1,_,_,h=>exact h|2,_,_,h=>exact h|3,_,_,h=>exact h|4,_,_,h=>exact h|5,_,_,h=>exact h|6,_,_,h=>exact h|7,_,_,h=>exact h|8,_,_,h=>exact h|9,_,_,h=>exact h|10,hi,_,_=>exact absurd hi (by decide)|11,_,hc,_=>exact absurd hc (by decide)|12,_,hc,_=>exact absurd hc (by decide)|13,_,hc,_=>exact absurd hc (by decide)|_+14,_,_,_=>exact trivial) H ?_ ?_ ?_ ?_ ?_ (by kernel_rfl) (by kernel_rfl)
  ·clear H;refine aB ?_ ?_ ?_ ?_ (aB ?_ ?_ ?_ ?_ (aB ?_ ?_ ?_ ?_ (aW ?_ (aW ?_ bW))))
   ·intro eZ bO qE dQ a w G1 pG _ _ _ _ bY hc hG HT hv;have H:=HT;clear bY;have Hb:=H.full;have H:=Hb;clear hc;refine kH H (Rm rfl ?_);clear H;intro a H;refine aH ⟨rfl,?_⟩;exact lH (by kernel_rfl) (zJ eZ bO) rfl rfl HT Hb hG hv (fun _ _ h=>h) (rfl) H
   ·intro eZ bO qE dQ a w G1 pG _ _ _ _ bY hc hG HT hv;have H:=HT;clear bY;have Hb:=H.full;have H:=Hb;clear hc;refine kH H (Rm rfl ?_);clear H;intro a H;refine aH ⟨rfl,?_⟩;exact lH (by kernel_rfl) (zJ eZ bO) rfl rfl HT Hb hG hv (fun _ _ h=>h) (rfl) H
   ·intro eZ bO qE dQ a w G1 pG _ _ _ _ bY hc hG HT hv;have H:=HT;clear bY;have Hb:=H.full;have H:=Hb;clear hc;refine kH H (Rm rfl ?_);clear H;intro a H;refine aH ⟨rfl,?_⟩;exact lH (by kernel_rfl) (zJ eZ bO) rfl rfl HT Hb hG hv (fun _ _ h=>h) (rfl) H
   ·intro eZ bO qE dQ a w G1 pG _ _ _ _ bY hc hG HT hv;have H:=HT;clear bY;have Hb:=H.full;have H:=Hb;clear hc;refine kH H (Rm rfl ?_);clear H;intro a H;refine aH ⟨rfl,?_⟩;exact lH (by kernel_rfl) (zJ eZ bO) rfl rfl HT Hb hG hv (fun _ _ h=>h) (rfl) H
   ·intro eZ bO qE dQ a w G1 pG _ _ _ _ bY hc hG HT hv;have H:=HT;clear bY;have H:=H.aS (hv 2 41 (hc 2 (by decide)) rfl) rfl;have H:=H.aS (hv 3 42 (hc 3 (by decide)) rfl) rfl;have Hb:=H.full;have H:=Hb;clear hc;refine kH H (Ri xk Bu rfl rfl ?_);clear H;intro a H;refine aH ⟨rfl,?_⟩;exact lH (by kernel_rfl) (zJ eZ bO) rfl rfl HT Hb hG hv (fun _ _ h=>h) (rfl) H
   ·intro eZ bO qE dQ a w G1 pG _ _ _ _ bY hc hG HT hv;have H:=HT;clear bY;have H:=H.aS (hv 4 43 (hc 4 (by decide)) rfl) rfl;have Hb:=H.full;have H:=Hb;clear hc;refine kH H (Rf FN rfl ?_);clear H;intro a H;refine aH ⟨rfl,?_⟩;exact lH (by kernel_rfl) (zJ eZ bO) rfl rfl HT Hb hG hv (fun _ _ h=>h) (rfl) H
   ·intro eZ bO qE dQ a w G1 pG _ _ _ _ bY hc hG HT hv;have H:=HT;clear bY;have H:=H.aS (hv 5 44 (hc 5 (by decide)) rfl) rfl;have Hb:=H.full;have H:=Hb;clear hc;refine nX GU H wn rfl (hrw.at H.hp (fun x hx=>pG _ hx) (by rw [ko];exact hgt.2.trans (ay some UA))) rfl ?_;clear H;intro a H;refine aH ⟨rfl,?_⟩;exact lH (by kernel_rfl) (zJ eZ bO) rfl rfl HT Hb hG hv (fun _ _ h=>h) (rfl) H
   ·intro eZ bO qE dQ a w G1 pG _ _ _ _ bY hc hG HT hv;have H:=HT;clear bY;have Hb:=H.full;have H:=Hb;clear hc;refine kH H (Rf vw rfl ?_);clear H;intro a H;refine aH ⟨rfl,?_⟩;exact lH (by kernel_rfl) (zJ eZ bO) rfl rfl HT Hb hG hv (fun _ _ h=>h) (rfl) H
   ·intro _ _ _ _ _ _ _ _ _ hB;exact absurd hB (by decide)
   ·intro _ _ _ _ _ _ _ _ _ _ hB;exact absurd hB (by decide)
   ·intro _ _ _ _ _ _ _ _ _ _ _ hB;exact absurd hB (by decide)
   ·intro _ _ _ _ _ _ _ _ hB;exact absurd hB (by decide)
   ·intro _ _ _ _ _ _ _ _ hB;exact absurd hB (by decide)
   intro _ _ _ _ _ _ _ _ hB;exact absurd hB (by decide)
  ·clear H;intro o_ eZ bO dQ a w G1 qo _ hc hG HT hv;obtain rfl:_=o_:=Option.some.inj qo;clear qo;have H:=HT;have H:=H.aS (hv 7 46 (by decide) (hc 7 (by decide)) rfl) rfl;have Hb:=H.full;have H:=Hb;clear hc;have FV:∀ k o,G1 k=some o→G1 k=some o:=fun _ _ h=>h;refine nX aD H wn rfl (H.hp.NZ gV rfl) rfl ?_;clear H;intro a H;refine aH ⟨rfl,?_⟩;exact RQ (by kernel_rfl) (zJ eZ bO) rfl HT Hb hG (fun j e h1 h2 h3=>hv j e h1 h2 h3) FV (rfl) H
  ·clear H;intro o_ bO dQ a w G1 qo _ hc hG HT hv;obtain rfl:_=o_:=Option.some.inj qo;clear qo;have H:=HT;have H:=H.aS (hv 0 8 47 (by decide) (hc 8 (by decide)) rfl) rfl;have Hb:=H.full;have H:=Hb;clear hc;refine gP ru aD [_] [_] H wn rfl rfl rfl rfl rfl (by intro i q h;match i,h with|0,h=>exact h|n+1,h=>simp at h) rfl rfl ?_;clear H;intro QU a w hb48 H;refine aH ⟨rfl,QU,?_⟩;exact Iu (by kernel_rfl) rfl HT Hb hG (fun j e h1 h2 h3=>hv _ j e h1 h2 h3) (rfl) H
  ·clear H;intro o_ eZ dQ a w G1 qo _ hc hG HT hv;obtain rfl:_=o_:=Option.some.inj qo;clear qo;have H:=HT;have H:=H.aS (hv (ts[fO cm n]) 6 45 (by decide) (hc 6 (by decide)) rfl) rfl;have H:=H.aS (hv (ts[fO cm n]) 9 48 (by decide) (hc 9 (by decide)) rfl) rfl;have Hb:=H.full;have H:=Hb;clear hc;have H:=H.perm (aiB [_,_,_] ts hi _)
   unfold ji.ok at Je
   rw [UA] at Je;refine pR (Li:=[_,_,_]++(jg (ts.take (fO cm n))++(jg (ts.drop (fO cm n+1))++_))) (Lo:=ts[fO cm n].lo) (news:=[vi cm[n].id]) ru aD rfl rfl H wn rfl rfl Je rfl (H.hp.dZ 0 rfl rfl) rfl (by omega) (by omega) rfl ?_;clear H;intro v49 Qx a w Un H;obtain ⟨y,hy⟩:∃ y:ji,y=⟨rt cm n,ts[fO cm n].rep++[cm[n].id],v49,Qx⟩:=⟨_,rfl⟩
   have NJ:y.ok:=by rw [hy];unfold ji.ok;simpa using Un
   rw [show Qx=y.lo by rw [hy]] at H;have H:=H.perm (aiz [_,_,_] ts hi y _);obtain ⟨akC,akD,rfl,-,-⟩:=Un.shape;refine aH ⟨rfl,y,?_⟩;exact Iu (by kernel_rfl) rfl HT Hb hG (fun j e h1 h2 h3=>hv _ j e h1 h2 h3) (⟨by rw [hy],NJ,by rw [hy],by rw [hy],_,_,_,by rw [hy]⟩) H
  clear H;intro QU bO a w G jv H hv;have H:=H.aS (hv 0 39 rfl rfl) rfl;have H:=H.aS (hv 1 40 rfl rfl) rfl;obtain ⟨u49,afa,Ue⟩:=hv 10 49 (by decide) rfl;(try dsimp only at Ue);obtain ⟨rfl,NJ,UE,hyp,mA,m,mc,hyv⟩:=Ue;have H:=H.kG afa;clear hv;refine kH H (Ri xk Bu rfl rfl (Rf FN rfl ?_));clear H;intro a H;refine bE GU (3+(jg (ts.set (fO cm n) bO)).length) (c:=cur) (v:=bO.v) (vs:=[bO.v]) (cur.set (fO cm n*2+1) bO.v) H wn rfl (afi [_,_,_] _ _) rfl (by rw [hyv];rfl) rfl (by rw [hyv];rfl) (by simp;omega) (by rw [ko];rfl) ?_;clear H;intro w H;have H:=H.cast (ahF [_,_,_] _ _ _);have hrwn:=hset (fO cm n*2+1) bO.v;rw [WR ts _ hi bO (by rw [UE,aek])] at hrwn;refine aH ⟨rfl,?_⟩;refine K8 _ _ ?_;clear K8;refine kP H (SC (Rd rfl (Rm rfl ?_)));clear H;intro a H;refine aH ?_;refine dD ((n+1,_,ts.set (fO cm n) bO,_,_)) (by exact (H.dU (Pl:=[_,_,_]) (dx:=[_]) [2] (by decide) rfl).sub ⟨rfl,rfl,rfl,rfl,rfl,aF⟩) ?_ ?_
  ·(try dsimp only);exact ⟨by omega,by rw [List.map_set,hpr,hth,ji.pr,UE,hyp,Uj,wP hk2],fun x hx=>(List.mem_or_eq_of_mem_set hx).elim (hall x) (fun e=>e ▸ NJ),by rw [List.length_set];exact hrwn,fun b o h=>jv b o (hgm b o h)⟩
  first|omega|(dsimp only;omega)
 intro dP a H
 try have mo:=dF dP
 refine dV ?_;refine K4 _ _ ?_;clear K4;refine kP H (SR fun _ dG=>Rm rfl (ak dG rfl ?_));clear H dG;intro a H;refine lr H results20 rfl ?_
 obtain rfl:n=cm.length:=by omega
 obtain ⟨Gr1,hm1,jl,H⟩:=St.Tn (Li:=[_]) ts H hall;obtain ⟨Gr,hmr,hrep,H⟩:=St.uy (Li:=[_]) H hrw (rows:=(lq cm cm.length).map Bq) (by rw [← hpr];simp) (by rw [← hpr];exact jl);exact H.rt hrep
end
section
open Go.RowKit
theorem Sq:∀ args w,(callFunc 9 args).run prog w=.ok (.enter 9 args) w:=enters func9 rfl (by kernel_rfl)
theorem aau:∀ args w,(callFunc 10 args).run prog w=.ok (.enter 10 args) w:=enters func10 rfl (by kernel_rfl)
theorem abp:∀ args w,(callFunc 20 args).run prog w=.ok (.enter 20 args) w:=enters func20 rfl (by kernel_rfl)
theorem acQ:bM prog 70 0 0:=⟨by kernel_rfl⟩
theorem aiD {G:GH} {T:List (Int × List Int)} {A:Option Addr} {n c k:Nat} (h:av G (.sl 2 (T.map Bq)) (.slice A n c)) (hk:k < T.length) :
  ∃ b o B d,A=some ⟨b,o,none⟩∧aI G b (o+k*2+0)=some (vi T[k].1)∧aI G b (o+k*2+1)=some (.slice B T[k].2.length d)∧av G (.sl 1 (T[k].2.map fun x=>[li x])) (.slice B T[k].2.length d):=by
 obtain ⟨b,o,cs,rfl,hcl,hrow,hr⟩:=h.at_ k (Bq T[k]) (by simp [hk]);obtain ⟨v1,vs,rfl,⟨h1,-⟩,v2,vs2,rfl,h2,h3⟩:=hr;obtain ⟨B,m,d,rfl⟩:=av.form h2;have hm:=av.len h2;rw [bT] at hm;subst hm;subst h1;exact ⟨b,o,B,d,rfl,hrow 0 _ rfl,hrow 1 _ rfl,h2⟩
theorem ahb {G:GH} {l:List Int} {A:Option Addr} {n c k:Nat} {x:Int} (h:av G (.sl 1 (l.map fun x=>[li x])) (.slice A n c)) (hk:l[k]?=some x):∃ b o,A=some ⟨b,o,none⟩∧aI G b (o+k*1)=some (vi x):=by
 obtain ⟨b,o,cs,rfl,hcl,hrow,hr⟩:=h.at_ k [li x] (by rw [qd,hk];rfl);obtain ⟨v1,vs,rfl,⟨h1,-⟩,-⟩:=hr;subst h1;exact ⟨b,o,rfl,hrow 0 _ rfl⟩
theorem aiC {l:List bU} {i:Nat} (h:mP l) (hi:i < l.length) (hp:jy l i=0):∃ hk:(gX l i).length < (lq l l.length).length,(lq l l.length)[(gX l i).length]=(iI l i,kZ l (iI l i) l.length):=by
 obtain ⟨t,ht⟩:=Ow l (i+1) (l.length - (i+1));rw [show i+1+(l.length - (i+1))=l.length by omega,vK,au hp] at ht
 have e:(gX l l.length)[(gX l i).length]?=some (iI l i):=by
  rw [ht,lU,rD (bK _),Nat.sub_self];rfl
 obtain ⟨h1,h2⟩:=iM.1 e;refine ⟨by rw [Dg];exact h1,?_⟩
 simp only [lq,List.getElem_map,h2]
theorem ahc {l:List bU} {r:Int} {j:Nat} (hj:j < l.length) (hp:jy l j≠0∧rt l j=r):(kZ l r l.length)[(kZ l r j).length]?=some (iI l j):=by
 obtain ⟨t,ht⟩:=ahe l r (j+1) (l.length - (j+1));rw [show j+1+(l.length - (j+1))=l.length by omega,Db,au hp] at ht;rw [ht,lU,rD (bK _),Nat.sub_self];rfl
theorem ZW {t:List (Int × List Int)} {k:Nat} (hk:k < t.length):oG (t.take (k+1))=oG (t.take k)+(t[k].2.length+1):=by
 rw [jB hk,RB]
theorem RA {t:List (Int × List Int)}:∀ (k:Nat),oG (t.take k)≤oG t:=fun k=>by
 have e:oG t=oG (t.take k)+oG (t.drop k):=by
  conv=>lhs;rw [← List.take_append_drop k t]
  simp only [oG,List.map_take,List.map_drop,mX,List.sum_append]
 omega
set_option maxHeartbeats 2000000 in
theorem aiG (G:GH) (w0:World) (hG:Hold G w0) (D:nA) (d:vS) (hR:BF G D d) (hz:Ho d) :
  Calls prog 5 #[D.val] w0 (bD w0 G fun u G'=>u=.bool true):=by
 refine eN [(0,_)] func5 rfl ntmps5 rfl rfl hG ?_;intro a H;refine dz (fun _ K1=>?_);refine fC (cs:=[_,_,_,_,_,_,_,_,_,_,_]) H wn rfl rfl rfl ?_;clear H;intro b1 a w hb1 H;refine kH H (ak K1 rfl (SQ fun _ K2=>SQ fun _ K3=>?_));clear H K1;intro a H;obtain ⟨Ga,hma,hb1',H⟩:=H.dM;have hga:=fun j v hj=>zm hb1' 0 D.cells rfl j v hj;replace hR:=hR.mono hma;refine oF ?_;refine s_call Sq H wn rfl (UZ _ _ H.ro) rfl ?_;clear H;rintro v10 vT a w rfl uE H;replace hR:=hR.mono uE;replace hga:=fun j v hj=>aK uE (hga j v hj);refine kH H (Rn rfl (Rm rfl (Sp 12 rfl ?_ ?_))) <;> clear H
 ·intro h12 a H
  exact absurd h12 (by decide)
 intro h12 a H
 try have qO:=dF h12
 refine bJ uP (cs:=D.cells) H (wg H rfl rfl h12) rfl rfl (fun j v hj=>H.hp.aI (hga j v hj)) rfl ?_;clear H;intro a H;refine s_call aau H (wg H rfl rfl h12) rfl (ahX _ _ H.ro D d hR hz) rfl ?_;clear H;rintro v14 Du a w ⟨b14,rfl,FY⟩ Ej H;replace hR:=hR.mono Ej;replace hga:=fun j v hj=>aK Ej (hga j v hj);refine kH H (YN h12 rfl (Pf h12 rfl (Kn K3 (Cd rfl ?_ ?_)))) <;> clear H K3
 ·intro h16 a H
  try have p16:=dT h16
  refine dz (fun _ K4=>?_);refine s_call Sq H wn rfl (UZ _ _ H.ro) rfl ?_;clear H;rintro v17 xq a w rfl pJ H;exact kH H (ak K4 rfl (LR results5 rfl fun H=>H.rt (by first|rfl|simp)))
 intro h16 a H
 try have p16:=dF h16
 refine gI ?_;refine K2 _ _ ?_;clear K2;refine bg (fun _ K5=>?_);have hok:=mP.of (d:=d) (by first|exact FY (by assumption)|(simp_all;done));obtain ⟨cm,hcm0⟩:∃ cm,cm=d.kD.comments:=⟨_,rfl⟩;have hcm:=hR.st.cm;rw [← hcm0] at hcm hok;have hcl:=hok.few;obtain ⟨⟨sA,sn,sc⟩,hs3⟩:∃ s,s=D.s3:=⟨_,rfl⟩;have hcm':=hcm;rw [← hs3] at hcm'
 have hsn:sn=cm.length:=by have:=hcm'.len;rwa [bT] at this
 subst hsn;obtain ⟨T,hT⟩:∃ T,T=lq cm cm.length:=⟨_,rfl⟩
 have hTl:T.length=(gX cm cm.length).length:=by rw [hT,Dg]
 have ajB:=JM cm cm.length;have hcnt:=Rz hok (bK cm.length);rw [← hT] at hcnt;refine oF ?_;refine bJ uP (cs:=D.cells) H wn rfl rfl (fun j v hj=>H.hp.aI (hga j v hj)) rfl ?_;clear H;intro a H;refine s_call abp H wn rfl (aiF _ _ H.ro D cm hcm hok) rfl ?_;clear H;rintro v19 Kt a w Ju pK H;rw [← hT] at Ju;obtain ⟨A3,n3,c3,rfl⟩:=Ju.form;have wK:=Ju.len;rw [bT] at wK;subst wK;replace hcm':=hcm'.mono pK;replace hga:=fun j v hj=>aK pK (hga j v hj);refine kH H (aU K5 rfl (SR fun _ K6=>Rf D9 rfl (Rf II rfl (Rg Ac rfl (hga 9 (.slice sA cm.length sc) (by show some (fq D.s3)=_;rw [← hs3])) (ak K6 rfl (SR fun _ K7=>Ra rfl (ak K7 rfl (SQ fun _ K8=>SR fun _ K9=>ak K9 rfl (SB ?_)))))))));clear H K5 K6 K7 K9;intro a H;skip;refine fH (ι:=Nat × GH) (Tc:=[(3,_),(4,_)]) (Lc:=[]) (fun gh=>[(5,vi (gX cm gh.1).length),(6,vi (oG (T.take (gX cm gh.1).length))),(7,vi gh.1)]) (fun gh=>[]) (fun gh=>gh.2) (fun gh=>gh.1≤cm.length∧(∀ b o,Kt b=some o→gh.2 b=some o)) (fun gh=>cm.length - gh.1) ((0,Kt)) (by exact (H).sub ⟨rfl,rfl,rfl,rfl,rfl,aF⟩) ?_ ?_
 ·exact ⟨iY _,fun _ _ h=>h⟩
 clear H;intro gh a w hI H;obtain ⟨i,g⟩:=gh;dsimp only at hI H;obtain ⟨hk,hgm⟩:=hI;have hkl:=JM cm i;have aea:=RA (t:=T) (gX cm i).length;dsimp only [lca,bq] at H;refine kP H (SQ fun _ aT=>SR fun _ bC=>Rm rfl (Rm rfl (Rl mD rfl (Rc rfl (Kz bC (Cd rfl ?_ ?_)))))) <;> clear H bC
 ·intro fU a H
  try have p26:=dT fU
  have hk2:i < cm.length:=by omega
  obtain ⟨b,o,rfl,hrow,-⟩:=Aq (hcm'.mono hgm) hk2;refine kP H (Kc aT (SQ fun _ bF=>SB (SQ fun _ bN=>SR fun _ bQ=>Rm rfl (Rm rfl (Ri mD mK rfl rfl (Rf zi rfl (Rg aD rfl (hrow 1 _ rfl) (Rc rfl (Kz bQ (Cd rfl ?_ ?_)))))))))) <;> clear H aT bQ
  ·intro fI a H
   try have p34:=dT fI
   have hp0:jy cm i≠0:=by rw [yu hk2];assumption
   rw [show gX cm i=gX cm (i+1) by rw [vK,ah hp0,nO]] at H;refine dV ?_;refine bF _ _ ?_;clear bF;refine kP H (SC (Rm rfl (Rd rfl (Ra rfl ?_))));clear H;intro a H;refine aH ?_;refine dD ((i+1,g)) (by exact (H).sub ⟨rfl,rfl,rfl,rfl,rfl,aF⟩) ?_ ?_
   ·(try dsimp only);exact ⟨by omega,hgm⟩
   first|omega|(dsimp only;omega)
  intro fI a H
  try have p34:=dF fI
  have hp0:jy cm i=0:=by rw [yu hk2];omega
  obtain ⟨hkT,hTk⟩:=aiC hok hk2 hp0
  have hks:(gX cm (i+1)).length=(gX cm i).length+1:=by rw [vK,au hp0,kU];rfl
  obtain ⟨k,hk0⟩:∃ k,k=(gX cm i).length:=⟨_,rfl⟩
  have TN:k < T.length:=by rw [hk0,hT];exact hkT
  have adI:T[k]=(cm[i].id,kZ cm cm[i].id cm.length):=by
   rw [← wP hk2,← hTk];simp only [hT,hk0]
  obtain ⟨b3,o3,B3,d3,rfl,Ut,Js,NA⟩:=aiD (Ju.mono hgm) TN;have hcs:=ZW TN;have Nh:=RA (t:=T) (k+1)
  simp only [adI] at Ut Js NA hcs
  obtain ⟨R,hR0⟩:∃ R,R=kZ cm cm[i].id cm.length:=⟨_,rfl⟩
  have hRl:R.length≤cm.length:=by rw [hR0];exact JL _ _ _
  rw [← hR0] at Js NA hcs;rw [← hk0] at H hks aea;refine kP H (Kc bN (SQ fun _ dJ=>SQ fun _ dG=>?_));clear H bN;intro a H;refine dI hmx [[],[],[1],[0,1,2],(ra 0 4),(ra 0 5),(ra 0 5),(ra 0 7),(ra 0 8),(ra 0 9),(ra 0 5),(ra 0 5),[0,1,2,3,4,10,11],[0,1,2,3,4,10,11,12],(ra 0 5++ra 10 4),(ra 0 15),(ra 0 16)] [] (by kernel_rfl) [_,_,_,.bool false,_,.slice (some ⟨b3,o3,none⟩) T.length c3,vi k,(aJ b3 (o3+k*2)),(aJ b3 (o3+k*2+0)),vi cm[i].id,.slice (some ⟨b,o,none⟩) cm.length sc,vi i,(aJ b (o+i*6)),(aJ b (o+i*6+0)),vi cm[i].id,.bool false,_] H (aB (Z0 rfl (Rm rfl)) (Z0 rfl (Rm rfl)) (Z1 1 36 rfl (Rl xk rfl)) ?_ (aB (Z1 3 38 rfl (Rm rfl)) ?_ ?_ ?_ (aB ?_ ?_ ?_ ?_ (aB ?_ ?_ ?_ ?_ (aW (Z2 4 39 15 50 rfl (Pf rfl rfl)) bW))))) ?_
  ·refine cB 0 35 2 37 rfl rfl fun _ a w G1 hG HT H fin=>?_;refine kH H (Rc rfl ?_);clear H;intro a H;exact fin H iJ (aG (iN (by omega)))
  ·refine dw 4 39 rfl rfl fun _ a w G1 hG HT H fin=>?_;refine tL H (wg H rfl rfl rfl) rfl rfl ?_;clear H;intro a H;exact fin H iJ rfl
  ·refine dw 4 39 rfl rfl fun _ a w G1 hG HT H fin=>?_;refine tL H (wg H rfl rfl rfl) rfl rfl ?_;clear H;intro a H;exact fin H iJ rfl
  ·refine mR 5 40 6 41 4 39 rfl rfl fun _ a w G1 hG HT H fin=>?_;refine zT xk Bu _ H (wg H rfl rfl rfl) rfl rfl rfl (by first|assumption|omega) rfl ?_;clear H;intro a H;exact fin H iJ rfl
  ·refine cB 7 42 4 39 rfl rfl fun _ a w G1 hG HT H fin=>?_;refine zS acQ H (wg H rfl rfl rfl) rfl rfl ?_;clear H;intro a H;exact fin H iJ rfl
  ·refine cB 8 43 4 39 rfl rfl fun _ a w G1 hG HT H fin=>?_;refine nX aD H (wg H rfl rfl rfl) rfl (H.hp.aI (aK hG Ut)) rfl ?_;clear H;intro a H;exact fin H iJ rfl
  ·refine dw 4 39 rfl rfl fun _ a w G1 hG HT H fin=>?_;refine tL H (wg H rfl rfl rfl) rfl rfl ?_;clear H;intro a H;exact fin H iJ rfl
  ·refine dw 4 39 rfl rfl fun _ a w G1 hG HT H fin=>?_;refine tL H (wg H rfl rfl rfl) rfl rfl ?_;clear H;intro a H;exact fin H iJ rfl
  ·refine mR 10 45 11 46 4 39 rfl rfl fun _ a w G1 hG HT H fin=>?_;refine zT mD mK _ H (wg H rfl rfl rfl) rfl rfl rfl (by first|assumption|omega) rfl ?_;clear H;intro a H;exact fin H iJ rfl
  ·refine cB 12 47 4 39 rfl rfl fun _ a w G1 hG HT H fin=>?_;refine zS vw H (wg H rfl rfl rfl) rfl rfl ?_;clear H;intro a H;exact fin H iJ rfl
  ·refine cB 13 48 4 39 rfl rfl fun _ a w G1 hG HT H fin=>?_;refine nX aD H (wg H rfl rfl rfl) rfl (H.hp.aI (aK hG (hrow 0 _ rfl))) rfl ?_;clear H;intro a H;exact fin H iJ rfl
  ·refine mR 9 44 14 49 4 39 rfl rfl fun _ a w G1 hG HT H fin=>?_;refine Dc H (wg H rfl rfl rfl) rfl rfl rfl rfl ?_;clear H;intro a H;exact fin H iJ (aG (iN (fun h=>h rfl)))
  clear H;intro a w G lZ H hv;have H:=H.aS (hv 16 51 rfl rfl) rfl;clear hv;refine aH ⟨rfl,?_⟩;refine dG _ _ ?_;clear dG;refine lF H rfl rfl ?_;refine kP H (Kc dJ (SR fun _ dh=>ak dh rfl (SQ fun _ dX=>SR fun _ gy=>ak gy rfl (SB ?_))));clear H dJ dh gy;intro a H;skip;refine fH (ι:=Nat × GH) (Tc:=[(3,_),(4,_),(5,_),(6,_),(7,_)]) (Lc:=[]) (fun gh=>[(8,vi (kZ cm cm[i].id gh.1).length),(9,vi gh.1)]) (fun gh=>[]) (fun gh=>gh.2) (fun gh=>gh.1≤cm.length∧(∀ b o,G b=some o→gh.2 b=some o)) (fun gh=>cm.length - gh.1) ((0,G)) (by exact (H).sub ⟨rfl,rfl,rfl,rfl,rfl,rfl,rfl,aF⟩) ?_ ?_
  ·exact ⟨iY _,fun _ _ h=>h⟩
  clear H;intro gh a w hI H;obtain ⟨j,g2⟩:=gh;dsimp only at hI H;obtain ⟨hj,tu⟩:=hI;have hnl:=JL cm cm[i].id j;dsimp only [lca,bq] at H;refine kP H (SQ fun _ eY=>SR fun _ gD=>Rm rfl (Rm rfl (Rl mD rfl (Rc rfl (Kz gD (Cd rfl ?_ ?_)))))) <;> clear H gD
  ·intro jL a H
   try have p55:=dT jL
   have hj2:j < cm.length:=by omega
   obtain ⟨b',o',e',Jq,-⟩:=Aq (((hcm'.mono hgm).mono lZ).mono tu) hj2
   injection e' with e';injection e' with e1 e2 e3;subst e1;subst e2;clear e3
   have Gg:=fun q u hq=>aK tu (aK lZ (hrow q u hq));have Uf:=yu hj2;have hrs:=Db cm cm[i].id j;rw [Uf] at hrs;refine kP H (Kc eY (SQ fun _ ig=>SB (SQ fun _ jF=>SQ fun _ iW=>?_)));clear H eY;intro a H
   by_cases c0:cm[j].parent=0
   ·skip;refine dI hmx [[],[],[0,1],[0,1,2],(ra 0 4),(ra 0 5),(ra 0 6),(ra 0 7),(ra 0 7),(ra 0 9),(ra 0 7),(ra 0 7),(ra 0 7++[10,11]),(ra 0 7++[10,11,12]),(ra 0 7++ra 10 4),(ra 0 15),(ra 0 16)] [] (by kernel_rfl) [_,_,_,_,_,_,_,undef,undef,undef,undef,undef,undef,undef,undef,undef,_] H (aB (Z0 rfl (Rm rfl)) (Z0 rfl (Rm rfl)) (Z2 0 58 1 59 rfl (Ri mD mK rfl rfl)) (Z1 2 60 rfl (Rf zi rfl)) (aB (X1 3 61 rfl fun hG=>Rg aD rfl (aK hG (Jq 1 _ rfl))) (Z1 4 62 rfl (Rc rfl)) (Z1 5 63 rfl (Rm rfl)) (aN (j:=6) (by kernel_rfl) (fun _ _ _ _ _ h=>h) rfl rfl rfl rfl rfl (fun _ _ h=>aO h (aG (aC c0))) rfl (fun _=>rfl)) (aB (aN (j:=6) (by kernel_rfl) (fun _ _ _ _ _ h=>h) rfl rfl rfl rfl rfl (fun _ _ h=>aO h (aG (aC c0))) rfl (fun _=>rfl)) (aN (j:=6) (by kernel_rfl) (fun _ _ _ _ _ h=>h) rfl rfl rfl rfl rfl (fun _ _ h=>aO h (aG (aC c0))) rfl (fun _=>rfl)) (aN (j:=6) (by kernel_rfl) (fun _ _ _ _ _ h=>h) rfl rfl rfl rfl rfl (fun _ _ h=>aO h (aG (aC c0))) rfl (fun _=>rfl)) (aN (j:=6) (by kernel_rfl) (fun _ _ _ _ _ h=>h) rfl rfl rfl rfl rfl (fun _ _ h=>aO h (aG (aC c0))) rfl (fun _=>rfl)) (aB (aN (j:=6) (by kernel_rfl) (fun _ _ _ _ _ h=>h) rfl rfl rfl rfl rfl (fun _ _ h=>aO h (aG (aC c0))) rfl (fun _=>rfl)) (aN (j:=6) (by kernel_rfl) (fun _ _ _ _ _ h=>h) rfl rfl rfl rfl rfl (fun _ _ h=>aO h (aG (aC c0))) rfl (fun _=>rfl)) (aN (j:=6) (by kernel_rfl) (fun _ _ _ _ _ h=>h) rfl rfl rfl rfl rfl (fun _ _ h=>aO h (aG (aC c0))) rfl (fun _=>rfl)) (aN (j:=6) (by kernel_rfl) (fun _ _ _ _ _ h=>h) rfl rfl rfl rfl rfl (fun _ _ h=>aO h (aG (aC c0))) rfl (fun _=>rfl)) (aW (Z2 6 64 15 73 rfl (Pt (aC c0) rfl)) bW))))) ?_
    clear H;intro a w G wF H hv;have H:=H.aS (hv 16 74 rfl rfl) rfl;clear hv;refine aH ⟨rfl,?_⟩;refine iW _ _ ?_;clear iW;refine uf H rfl rfl ?_;refine dV ?_;refine ig _ _ ?_;clear ig;refine kP H (SC (Rm rfl (Rd rfl ?_)));clear H;intro a H
    first
     | rw [show kZ cm cm[i].id j=kZ cm cm[i].id (j+1) by
       rw [hrs,ah (by rintro ⟨q1,q2⟩;first|exact q1 c0|exact c1 q2),nO]] at H
     |skip
    refine kH H (Ra rfl ?_);clear H;intro a H;refine aH ?_;refine dD ((j+1,_)) (by exact (H).sub ⟨rfl,rfl,rfl,rfl,rfl,rfl,rfl,aF⟩) ?_ ?_
    ·try dsimp only
     first
     | exact ⟨by omega,fun b o h=>MI b o (wF b o (tu b o h))⟩
     | exact ⟨by omega,fun b o h=>wF b o (tu b o h)⟩
    first|omega|(dsimp only;omega)
   skip
   by_cases c1:¬ rt cm j=cm[i].id
   ·skip;refine dI hmx [[],[],[0,1],[0,1,2],(ra 0 4),(ra 0 5),(ra 0 6),(ra 0 7),(ra 0 7),(ra 0 9),(ra 0 7),(ra 0 7),(ra 0 7++[10,11]),(ra 0 7++[10,11,12]),(ra 0 7++ra 10 4),(ra 0 15),(ra 0 16)] [] (by kernel_rfl) [_,_,_,_,_,_,_,_,_,vi (rt cm j),_,_,_,_,_,_,_] H (aB (Z0 rfl (Rm rfl)) (Z0 rfl (Rm rfl)) (Z2 0 58 1 59 rfl (Ri mD mK rfl rfl)) (Z1 2 60 rfl (Rf zi rfl)) (aB (X1 3 61 rfl fun hG=>Rg aD rfl (aK hG (Jq 1 _ rfl))) (Z1 4 62 rfl (Rc rfl)) (Z1 5 63 rfl (Rm rfl)) (Z1 6 64 rfl (YM (aM c0) rfl)) (aB (Z1 6 64 rfl (YM (aM c0) rfl)) ?_ (Z1 6 64 rfl (YM (aM c0) rfl)) (Z1 6 64 rfl (YM (aM c0) rfl)) (aB (Z3 10 68 11 69 6 64 rfl (YI mD mK (aM c0) rfl rfl)) (Z2 12 70 6 64 rfl (YF vw (aM c0) rfl)) (X2 13 71 6 64 rfl fun hG=>YR aD (aM c0) rfl (aK hG (Gg 0 _ rfl))) (Z3 9 67 14 72 6 64 rfl (YC (aM c0) rfl)) (aW (Z2 6 64 15 73 rfl (Pf (aM c0) rfl)) bW))))) ?_
    ·refine mR 7 65 8 66 6 64 rfl rfl fun _ a w G1 hG HT H fin=>?_;refine s_call LH H (wg H rfl rfl (aM c0)) rfl (VR _ _ _ H.ro cm _ ((((hcm'.mono hgm).mono lZ).mono tu).mono hG) hj2 hcl) rfl ?_;clear H;rintro v67 KD a w rfl MS H;exact fin H MS (rfl)
    clear H;intro a w G wF H hv;have H:=H.aS (hv 16 74 rfl rfl) rfl;clear hv;refine aH ⟨rfl,?_⟩;refine iW _ _ ?_;clear iW;refine uf H rfl (aC c1) ?_;refine dV ?_;refine ig _ _ ?_;clear ig;refine kP H (SC (Rm rfl (Rd rfl ?_)));clear H;intro a H
    first
     | rw [show kZ cm cm[i].id j=kZ cm cm[i].id (j+1) by
       rw [hrs,ah (by rintro ⟨q1,q2⟩;first|exact q1 c0|exact c1 q2),nO]] at H
     |skip
    refine kH H (Ra rfl ?_);clear H;intro a H;refine aH ?_;refine dD ((j+1,_)) (by exact (H).sub ⟨rfl,rfl,rfl,rfl,rfl,rfl,rfl,aF⟩) ?_ ?_
    ·try dsimp only
     first
     | exact ⟨by omega,fun b o h=>MI b o (wF b o (tu b o h))⟩
     | exact ⟨by omega,fun b o h=>wF b o (tu b o h)⟩
    first|omega|(dsimp only;omega)
   skip;refine dI hmx [[],[],[0,1],[0,1,2],(ra 0 4),(ra 0 5),(ra 0 6),(ra 0 7),(ra 0 7),(ra 0 9),(ra 0 7),(ra 0 7),(ra 0 7++[10,11]),(ra 0 7++[10,11,12]),(ra 0 7++ra 10 4),(ra 0 15),(ra 0 16)] [] (by kernel_rfl) [_,_,_,_,_,_,_,_,_,vi (rt cm j),_,_,_,_,_,_,_] H (aB (Z0 rfl (Rm rfl)) (Z0 rfl (Rm rfl)) (Z2 0 58 1 59 rfl (Ri mD mK rfl rfl)) (Z1 2 60 rfl (Rf zi rfl)) (aB (X1 3 61 rfl fun hG=>Rg aD rfl (aK hG (Jq 1 _ rfl))) (Z1 4 62 rfl (Rc rfl)) (Z1 5 63 rfl (Rm rfl)) (Z1 6 64 rfl (YM (aM c0) rfl)) (aB (Z1 6 64 rfl (YM (aM c0) rfl)) ?_ (Z1 6 64 rfl (YM (aM c0) rfl)) (Z1 6 64 rfl (YM (aM c0) rfl)) (aB (Z3 10 68 11 69 6 64 rfl (YI mD mK (aM c0) rfl rfl)) (Z2 12 70 6 64 rfl (YF vw (aM c0) rfl)) (X2 13 71 6 64 rfl fun hG=>YR aD (aM c0) rfl (aK hG (Gg 0 _ rfl))) (Z3 9 67 14 72 6 64 rfl (YC (aM c0) rfl)) (aW (Z2 6 64 15 73 rfl (Pf (aM c0) rfl)) bW))))) ?_
   ·refine mR 7 65 8 66 6 64 rfl rfl fun _ a w G1 hG HT H fin=>?_;refine s_call LH H (wg H rfl rfl (aM c0)) rfl (VR _ _ _ H.ro cm _ ((((hcm'.mono hgm).mono lZ).mono tu).mono hG) hj2 hcl) rfl ?_;clear H;rintro v67 KD a w rfl MS H;exact fin H MS (rfl)
   clear H;intro a w G wF H hv;have H:=H.aS (hv 16 74 rfl rfl) rfl;clear hv;refine aH ⟨rfl,?_⟩;refine iW _ _ ?_;clear iW;refine lF H rfl (aM c1) ?_;refine kP H (Kc jF (SQ fun _ jd=>SQ fun _ jP=>?_));clear H jF;intro a H;have Nv:cm[j].parent≠0∧rt cm j=cm[i].id:=⟨c0,mW.1 c1⟩;rw [au Nv] at hrs;have hrg:=ahc hj2 (r:=cm[i].id) ⟨by rw [Uf];exact Nv.1,Nv.2⟩;rw [← hR0,wP hj2] at hrg;obtain ⟨m,hm0⟩:∃ m,m=(kZ cm cm[i].id j).length:=⟨_,rfl⟩;rw [← hm0] at H hrg hnl;have hmR:m < R.length:=(iM.1 hrg).1
   have hrl:(kZ cm cm[i].id (j+1)).length=m+1:=by rw [hrs,kU,← hm0];rfl
   obtain ⟨b4,o4,rfl,uG⟩:=ahb (((NA.mono lZ).mono tu).mono wF) hrg;have Uu:=aK wF (aK tu (aK lZ Js));have aeO:=aK wF (Jq 0 _ rfl);refine dI hmx [[],[],[],[1,2],[1,2,3],(ra 1 4),(ra 1 5),(ra 0 7),(ra 0 8),(ra 0 9),(ra 0 9),(ra 0 11),(ra 0 12),(ra 0 13),(ra 0 9),(ra 0 15),(ra 0 16),(ra 0 9),(ra 0 9),(ra 0 9++[17,18]),(ra 0 9++[17,18,19]),(ra 0 9++ra 17 4),(ra 0 22),(ra 0 23)] [] (by kernel_rfl) [_,_,_,_,_,_,_,.bool false,_,.slice (some ⟨b3,o3,none⟩) T.length c3,vi k,(aJ b3 (o3+k*2)),(aJ b3 (o3+k*2+1)),.slice (some ⟨b4,o4,none⟩) R.length d3,vi m,(aJ b4 (o4+m*1)),vi cm[j].id,.slice (some ⟨b,o,none⟩) cm.length sc,vi j,(aJ b (o+j*6)),(aJ b (o+j*6+0)),vi cm[j].id,.bool false,_] H (aB (Z0 rfl (Rm rfl)) (Z0 rfl (Rm rfl)) (Z0 rfl (Rm rfl)) (Z2 1 76 2 77 rfl (Ri xk Bu rfl rfl)) (aB (Z1 3 78 rfl (Rf FN rfl)) (X1 4 79 rfl fun hG=>Rg GU rfl (aK hG Uu)) (Z1 5 80 rfl (Rl ru rfl)) ?_ (aB (Z1 7 82 rfl (Rm rfl)) ?_ ?_ ?_ (aB ?_ ?_ ?_ ?_ (aB ?_ ?_ ?_ ?_ (aB ?_ ?_ ?_ (Z2 8 83 22 97 rfl (Pf rfl rfl)) bW)))))) ?_
   ·refine cB 0 75 6 81 rfl rfl fun _ a w G1 hG HT H fin=>?_;refine kH H (Rc rfl ?_);clear H;intro a H;exact fin H iJ (aG (iN (by omega)))
   ·refine dw 8 83 rfl rfl fun _ a w G1 hG HT H fin=>?_;refine tL H (wg H rfl rfl rfl) rfl rfl ?_;clear H;intro a H;exact fin H iJ rfl
   ·refine dw 8 83 rfl rfl fun _ a w G1 hG HT H fin=>?_;refine tL H (wg H rfl rfl rfl) rfl rfl ?_;clear H;intro a H;exact fin H iJ rfl
   ·refine mR 9 84 10 85 8 83 rfl rfl fun _ a w G1 hG HT H fin=>?_;refine zT xk Bu _ H (wg H rfl rfl rfl) rfl rfl rfl (by first|assumption|omega) rfl ?_;clear H;intro a H;exact fin H iJ rfl
   ·refine cB 11 86 8 83 rfl rfl fun _ a w G1 hG HT H fin=>?_;refine zS FN H (wg H rfl rfl rfl) rfl rfl ?_;clear H;intro a H;exact fin H iJ rfl
   ·refine cB 12 87 8 83 rfl rfl fun _ a w G1 hG HT H fin=>?_;refine nX GU H (wg H rfl rfl rfl) rfl (H.hp.aI (aK hG Uu)) rfl ?_;clear H;intro a H;exact fin H iJ rfl
   ·refine dw 8 83 rfl rfl fun _ a w G1 hG HT H fin=>?_;refine tL H (wg H rfl rfl rfl) rfl rfl ?_;clear H;intro a H;exact fin H iJ rfl
   ·refine mR 13 88 14 89 8 83 rfl rfl fun _ a w G1 hG HT H fin=>?_;refine zT ru aD _ H (wg H rfl rfl rfl) rfl rfl rfl (by first|assumption|omega) rfl ?_;clear H;intro a H;exact fin H iJ rfl
   ·refine cB 15 90 8 83 rfl rfl fun _ a w G1 hG HT H fin=>?_;refine nX aD H (wg H rfl rfl rfl) rfl (H.hp.aI (aK hG uG)) rfl ?_;clear H;intro a H;exact fin H iJ rfl
   ·refine dw 8 83 rfl rfl fun _ a w G1 hG HT H fin=>?_;refine tL H (wg H rfl rfl rfl) rfl rfl ?_;clear H;intro a H;exact fin H iJ rfl
   ·refine dw 8 83 rfl rfl fun _ a w G1 hG HT H fin=>?_;refine tL H (wg H rfl rfl rfl) rfl rfl ?_;clear H;intro a H;exact fin H iJ rfl
   ·refine mR 17 92 18 93 8 83 rfl rfl fun _ a w G1 hG HT H fin=>?_;refine zT mD mK _ H (wg H rfl rfl rfl) rfl rfl rfl (by first|assumption|omega) rfl ?_;clear H;intro a H;exact fin H iJ rfl
   ·refine cB 19 94 8 83 rfl rfl fun _ a w G1 hG HT H fin=>?_;refine zS vw H (wg H rfl rfl rfl) rfl rfl ?_;clear H;intro a H;exact fin H iJ rfl
   ·refine cB 20 95 8 83 rfl rfl fun _ a w G1 hG HT H fin=>?_;refine nX aD H (wg H rfl rfl rfl) rfl (H.hp.aI (aK hG aeO)) rfl ?_;clear H;intro a H;exact fin H iJ rfl
   ·refine mR 16 91 21 96 8 83 rfl rfl fun _ a w G1 hG HT H fin=>?_;refine Dc H (wg H rfl rfl rfl) rfl rfl rfl rfl ?_;clear H;intro a H;exact fin H iJ (aG (iN (fun h=>h rfl)))
   clear H;intro a w G MI H hv;have H:=H.aS (hv 23 98 rfl rfl) rfl;clear hv;refine aH ⟨rfl,?_⟩;refine jP _ _ ?_;clear jP;refine lF H rfl rfl ?_;refine kP H (Kc jd (SC (Rm rfl (Rd rfl ?_))));clear H jd;intro a H;rw [show ((m:Int)+1)=((kZ cm cm[i].id (j+1)).length:Int) by omega] at H;refine kH H (aU ig rfl (SC (Rm rfl (Rd rfl ?_))));clear H ig;intro a H
   first
    | rw [show kZ cm cm[i].id j=kZ cm cm[i].id (j+1) by
      rw [hrs,ah (by rintro ⟨q1,q2⟩;first|exact q1 c0|exact c1 q2),nO]] at H
    |skip
   refine kH H (Ra rfl ?_);clear H;intro a H;refine aH ?_;refine dD ((j+1,_)) (by exact (H).sub ⟨rfl,rfl,rfl,rfl,rfl,rfl,rfl,aF⟩) ?_ ?_
   ·try dsimp only
    first
    | exact ⟨by omega,fun b o h=>MI b o (wF b o (tu b o h))⟩
    | exact ⟨by omega,fun b o h=>wF b o (tu b o h)⟩
   first|omega|(dsimp only;omega)
  intro jL a H
  try have p55:=dF jL
  obtain rfl:j=cm.length:=by omega
  rw [← hR0] at H;refine dV ?_;refine dX _ _ ?_;clear dX;refine kP H (SQ fun _ jQ=>SR fun _ iL=>Rm rfl (Rm rfl (Rm rfl (Ri xk Bu rfl rfl (Rf FN rfl (Rg GU rfl (aK tu (aK lZ Js)) (Rl ru rfl (Rc rfl (Kz iL (Cd rfl ?_ ?_)))))))))) <;> clear H iL
  ·intro Mk a H
   try have agv:=dT Mk
   exact absurd rfl (by assumption)
  intro Mk a H
  try have agv:=dF Mk
  refine kP H (Kc jQ (SC (Rm rfl (Rd rfl ?_))));clear H jQ;intro a H;rw [show ((k:Int)+1)=((gX cm (i+1)).length:Int) by omega] at H;refine kH H (Rm rfl (Rm rfl (Rd rfl (Rd rfl ?_))));clear H;intro a H;rw [show ((oG (T.take k):Int)+(R.length:Int)+1)=(oG (T.take (gX cm (i+1)).length):Int) by rw [hks,hcs];omega] at H;refine kH H (Ra rfl (aU bF rfl (SC (Rm rfl (Rd rfl (Ra rfl ?_))))));clear H bF;intro a H;refine aH ?_;refine dD ((i+1,_)) (by exact (H).sub ⟨rfl,rfl,rfl,rfl,rfl,aF⟩) ?_ ?_
  ·(try dsimp only);exact ⟨by omega,fun b o h=>tu b o (lZ b o (hgm b o h))⟩
  first|omega|(dsimp only;omega)
 intro fU a H
 try have p26:=dF fU
 refine dV ?_;refine K8 _ _ ?_;clear K8;refine bg (fun _ mQ=>?_)
 obtain rfl:i=cm.length:=by omega
 rw [← hTl,Ap,hcnt] at H;refine kP H (SC (Rm rfl (Rm rfl (Rl xk rfl (Rc rfl (Rm rfl (Sp 119 rfl ?_ ?_))))))) <;> clear H
 ·intro h119 a H
  try have VD:=dT h119
  exact kH H (YM h119 rfl (YM h119 rfl (YL mD h119 rfl (YC h119 rfl (Pt h119 rfl (aU mQ rfl (LR results5 rfl fun H=>H.rt (by first|rfl|simp))))))))
 intro h119 a H
 try have VD:=dF h119
 exact absurd rfl VD
end
section
open Go.ChangeShapes Go.RowKit Go.Deep
abbrev nT (W:World):GH:=fun k=>W.heap[k]?
theorem adn {W:World} {b o:Nat} {v:aj} (h:W.cell? ⟨b,o,none⟩=some v):aI (nT W) b o=some v:=by
 unfold World.cell? at h
 unfold aI nT
 split at h
 ·rename_i c e f hh
  simp only at hh
  rw [hh];simpa using h
 cases h
theorem U5 {α:Type} {p:Nat→α→Prop}:∀ n:Nat,(∀ i,i < n→∃ x,p i x)→∃ l:List α,l.length=n∧∀ i x,l[i]?=some x→p i x
 | 0,_=>⟨[],rfl,fun i x h=>by simp at h⟩
 | n+1,h=>by
  obtain ⟨l,hl,hp⟩:=U5 n (fun i hi=>h i (by omega));obtain ⟨x,hx⟩:=h n (by omega);refine ⟨l++[x],by simp [hl],fun i y hy=>?_⟩
  by_cases hi:i < l.length
  ·exact hp i y (by rwa [tY hi] at hy)
  rw [rD (by omega)] at hy
  have hin:i - l.length=0:=by
   have:=(iM.1 hy).1
   simp at this;omega
  rw [hin] at hy
  simp only [Ao,mU] at hy
  subst hy;rw [show i=n by omega];exact hx
theorem Y2 {H:Type} (d:DataW H):1≤Rows.uptoBulk d:=by
 cases d <;> (try simp only [Rows.uptoBulk]) <;> (try omega)
 rename_i x;cases x <;> simp only [Rows.uptoBulk] <;> omega
theorem QZ {H ρ:Type} {dat:ρ→List Dat}:∀ (rs:List ρ) (D:Nat→DataW H),(∀ i r,rs[i]?=some r→cu (dat r)+1≤8*Rows.uptoBulk (D i))→eB (rs.map dat)≤8*Rows.uptoBulkAll ((List.range rs.length).map D)
 | [],D,_=>iY _
 | r :: rs,D,h=>by
  have h0:=h 0 r rfl;have hp:=Y2 (D 0);have ih:=QZ rs (fun i=>D (i+1)) (fun i r hr=>h (i+1) r (by simpa using hr));rw [nM,List.range_succ_eq_map]
  simp only [dY,List.map_map,eB,Rows.uptoBulkAll]
  have e:(List.map (D ∘ Nat.succ) (List.range rs.length))=(List.map (fun i=>D (i+1)) (List.range rs.length)):=rfl;rw [e];omega
theorem QY {H:Type} {D:Nat→DataW H}:∀ {n i:Nat},i < n→Rows.uptoBulk (D i)≤Rows.uptoBulkAll ((List.range n).map D)
 | 0,i,h=>absurd h (by omega)
 | n+1,i,h=>by
  have key:∀ (l m:List (DataW H)),Rows.uptoBulkAll (l++m)=Rows.uptoBulkAll l+Rows.uptoBulkAll m:=by
   intro l m
   induction l with
   | nil=>simp [Rows.uptoBulkAll]
   | cons x l ih=>simp only [nN,Rows.uptoBulkAll,ih];omega
  rw [List.range_succ,mX,key]
  by_cases hi:i < n
  ·have:=QY (D:=D) hi;omega
  have:i=n:=by omega
  subst this
  simp only [dY,sK,Rows.uptoBulkAll];omega
section
variable {H:Type} {enc:TypeId × aj→H} {P:Program} {W:World} {base:Nat} {spare:Nat→Bool} {held:Bool}
theorem rX {ρ:Type} {dat:ρ→List Dat} {t e:TypeId} {sz:Nat} (hsz:0 < sz) {fuel:Nat} {cs:List aj} {x:DataW H × List MemPlace} (ht:P.underlying t=some (.slice e)) (hc:P.cellsOf e=sz) (h:DataW.trod enc P W base spare held fuel t cs=some x)
  (row:∀ n cs' D Pl,DataW.trod enc P W base spare held n e cs'=some (D,Pl)→Rows.uptoBulk D < Rows.uptoBulk x.1→∃ r:ρ,aX (nT W) (dat r) cs'∧cu (dat r)+1≤8*Rows.uptoBulk D) :
  ∃ (rs:List ρ) (v:aj),cs=[v]∧av (nT W) (.sl sz (rs.map dat)) v∧eB (rs.map dat)+8≤8*Rows.uptoBulk x.1:=by
 rcases open_slice ht h with ⟨rfl,rfl⟩|⟨a,len,cap,m,n,D,Pl,rfl,hb,hl,hm,hmm,rfl,hx⟩
 ·exact ⟨[],_,rfl,av.jf rfl (by decide),by simp [eB,Rows.uptoBulk]⟩
 obtain ⟨rs,hrl,hrs⟩:=U5 (p:=fun i (r:ρ)=>∃ cs',W.cells? base (a.add (i*sz)) sz=some cs'∧aX (nT W) (dat r) cs'∧cu (dat r)+1≤8*Rows.uptoBulk (D i)) len (fun i hi=>by
  have him:i < m:=by rw [hmm];split <;> omega
  obtain ⟨cs',h1,h2⟩:=hx i him;rw [hc] at h1;have hb1:=QY (D:=D) hi;obtain ⟨r,hr1,hr2⟩:=row n cs' (D i) (Pl i) h2 (by simp only [Rows.uptoBulk];omega)
  exact ⟨r,cs',h1,hr1,hr2⟩)
 refine ⟨rs,_,rfl,?_,?_⟩
 ·simp only [av,bT]
  refine ⟨some a,cap,by rw [hrl],by omega,hm,fun hne=>?_⟩;obtain ⟨b,off,spot⟩:=a
  have hlen:0 < rs.length:=by cases rs with|nil=>simp at hne|cons _ _=>simp
  obtain ⟨cs0,h1,-,-⟩:=hrs 0 rs[0] (gM hlen);obtain ⟨-,hl0,hg0⟩:=World.cells?_some h1
  have hspot:spot=none:=by
   have h3:=hg0 0 hsz;rw [gM (by omega)] at h3
   simpa [Addr.add] using World.cell?_spot h3
  subst hspot;refine ⟨b,off,rfl,kF.mk fun k r hk=>?_⟩;rw [qd] at hk;obtain ⟨y,hy,rfl⟩:=lD.1 hk;obtain ⟨cs',h2,h3,-⟩:=hrs k y hy;obtain ⟨-,hl1,hg1⟩:=World.cells?_some h2;refine ⟨cs',hl1,fun j u hj=>adn ?_,h3⟩
  have hj2:j < sz:=by rw [← hl1];exact (iM.1 hj).1
  have:=hg1 j hj2;rw [add_add,Go.WideShapes.add_plain] at this;rw [show off+k*sz+j=off+(k*sz+j) by omega,this];exact hj
 have:=QZ rs D (fun i r hr=>(hrs i r hr).choose_spec.2.2);rw [hrl] at this
 simp only [Rows.uptoBulk];omega
end
structure qb (P:Program) (t:TypeId) (sz:Nat) (fs:List (TypeId × Nat × Nat)):Prop where
 und:P.underlying t=some (.struct (P.fieldsOf t))
 cells:P.cellsOf t=sz
 sW:(P.fieldsOf t).toList.map (fun f=>(f.type,f.offset,P.cellsOf f.type))=fs
theorem qP {P:Program} {H:Type} {enc:TypeId × aj→H} {W:World} {base:Nat} {spare:Nat→Bool} {held:Bool} {t:TypeId} {sz fuel:Nat} {fs:List (TypeId × Nat × Nat)} {cs:List aj} {x:DataW H × List MemPlace} (hs:qb P t sz fs) (h:DataW.trod enc P W base spare held fuel t cs=some x) :
  ∃ (xs:List (DataW H × List MemPlace)) (n:Nat),x.1=.agg (xs.map (·.1))∧cs.length=sz∧xs.length=fs.length∧∀ (i:Nat) (ti:TypeId) (off k:Nat),fs[i]?=some (ti,off,k)→DataW.trod enc P W base spare held n ti ((cs.drop off).take k)=xs[i]?:=by
 obtain ⟨xs,n,-,rfl,hl,hxl,hf⟩:=DataW.trod_struct hs.und h;refine ⟨xs,n,rfl,by rw [hl,hs.cells],by rw [hxl,← hs.sW];simp,fun i ti off k hi=>?_⟩;rw [← hs.sW,qd] at hi;obtain ⟨f,hf1,hf2⟩:=lD.1 hi
 simp only [gB] at hf2
 obtain ⟨rfl,rfl,rfl⟩:=hf2;exact hf i f (by simpa using hf1)
section
variable {H:Type} {enc:TypeId × aj→H} {W:World} {base:Nat} {spare:Nat→Bool} {held:Bool}
theorem ahP:qb prog 187 2 [(3,0,1),(3,1,1)]:=⟨by kernel_rfl,by kernel_rfl,by kernel_rfl⟩
theorem VO {n:Nat} {cs:List aj} {D:DataW H} {Pl:List MemPlace} (h:DataW.trod enc prog W base spare held n 187 cs=some (D,Pl)):∃ r:iq,aX (nT W) r.dat cs∧cu r.dat+1≤8*Rows.uptoBulk D:=by
 obtain ⟨xs,m,hx,hl,hxl,hf⟩:=qP ahP h
 match cs,hl,xs,hxl with
 | [c0,c1],_,[y0,y1],_ =>
  have h0:=hf 0 _ _ _ rfl;have h1:=hf 1 _ _ _ rfl;obtain ⟨k0,e0,d0,-⟩:=DataW.trod_int underlying3 h0;obtain ⟨k1,e1,d1,-⟩:=DataW.trod_int underlying3 h1
  simp at e0 e1
  subst e0 e1
  simp only at hx
  refine ⟨⟨k0,k1⟩,?_,?_⟩
  ·simp [aX,iq.dat,av,Value.oneCell']
  rw [hx];simp [d0,d1,iq.dat,cu,nZ,Rows.uptoBulk,Rows.uptoBulkAll]
theorem ahI:qb prog 190 2 [(3,0,1),(3,1,1)]:=⟨by kernel_rfl,by kernel_rfl,by kernel_rfl⟩
theorem agL {n:Nat} {cs:List aj} {D:DataW H} {Pl:List MemPlace} (h:DataW.trod enc prog W base spare held n 190 cs=some (D,Pl)):∃ r:jh,aX (nT W) r.dat cs∧cu r.dat+1≤8*Rows.uptoBulk D:=by
 obtain ⟨xs,m,hx,hl,hxl,hf⟩:=qP ahI h
 match cs,hl,xs,hxl with
 | [c0,c1],_,[y0,y1],_ =>
  have h0:=hf 0 _ _ _ rfl;have h1:=hf 1 _ _ _ rfl;obtain ⟨k0,e0,d0,-⟩:=DataW.trod_int underlying3 h0;obtain ⟨k1,e1,d1,-⟩:=DataW.trod_int underlying3 h1
  simp at e0 e1
  subst e0 e1
  simp only at hx
  refine ⟨⟨k0,k1⟩,?_,?_⟩
  ·simp [aX,jh.dat,av,Value.oneCell']
  rw [hx];simp [d0,d1,jh.dat,cu,nZ,Rows.uptoBulk,Rows.uptoBulkAll]
theorem ahL:qb prog 199 4 [(3,0,1),(3,1,1),(3,2,1),(4,3,1)]:=⟨by kernel_rfl,by kernel_rfl,by kernel_rfl⟩
theorem agO {n:Nat} {cs:List aj} {D:DataW H} {Pl:List MemPlace} (h:DataW.trod enc prog W base spare held n 199 cs=some (D,Pl)):∃ r:iT,aX (nT W) r.dat cs∧cu r.dat+1≤8*Rows.uptoBulk D:=by
 obtain ⟨xs,m,hx,hl,hxl,hf⟩:=qP ahL h
 match cs,hl,xs,hxl with
 | [c0,c1,c2,c3],_,[y0,y1,y2,y3],_ =>
  have h0:=hf 0 _ _ _ rfl;have h1:=hf 1 _ _ _ rfl;have h2:=hf 2 _ _ _ rfl;have h3:=hf 3 _ _ _ rfl;obtain ⟨k0,e0,d0,-⟩:=DataW.trod_int underlying3 h0;obtain ⟨k1,e1,d1,-⟩:=DataW.trod_int underlying3 h1;obtain ⟨k2,e2,d2,-⟩:=DataW.trod_int underlying3 h2;obtain ⟨k3,e3,d3⟩:=DataW.trod_bool underlying4 h3
  simp at e0 e1 e2 e3
  subst e0 e1 e2 e3
  simp only at hx
  refine ⟨⟨k0,k1,k2,k3⟩,?_,?_⟩
  ·simp [aX,iT.dat,av,Value.oneCell']
  rw [hx];simp [d0,d1,d2,d3,iT.dat,cu,nZ,Rows.uptoBulk,Rows.uptoBulkAll]
theorem ahO:qb prog 27 4 [(3,0,1),(3,1,1),(24,2,1),(25,3,1)]:=⟨by kernel_rfl,by kernel_rfl,by kernel_rfl⟩
theorem ahJ:qb prog 29 5 [(23,0,1),(27,1,4)]:=⟨by kernel_rfl,by kernel_rfl,by kernel_rfl⟩
theorem Rj:prog.cellsOf 187=2:=by kernel_rfl
theorem Zh:prog.cellsOf 190=2:=by kernel_rfl
theorem Zi:prog.cellsOf 199=4:=by kernel_rfl
theorem JI {n:Nat} {cs:List aj} {x:DataW H × List MemPlace} (h:DataW.trod enc prog W base spare held n 29 cs=some x):∃ (r:gZ) (p d l:aj),cs=[p,vi r.marks.ins,vi r.marks.move,d,l]∧jm (nT W) r p d l∧oQ r+15≤8*Rows.uptoBulk x.1:=by
 obtain ⟨xs,m,hx,hl,hxl,hf⟩:=qP ahJ h
 match cs,hl,xs,hxl with
 | [c0,c1,c2,c3,c4],_,[y0,y1],_ =>
  have h0:=hf 0 _ _ _ rfl;have h1:=hf 1 _ _ _ rfl;obtain ⟨ps,pv,e0,rp,sp⟩:=rX (dat:=iq.dat) (sz:=2) (by omega) underlying23 Rj h0 (fun n cs' D Pl hh _=>VO hh);obtain ⟨zs,m2,hz,hzl,hzx,Gm⟩:=qP ahO h1
  match zs,hzx with
  | [z0,z1,z2,z3],_ =>
   have g0:=Gm 0 _ _ _ rfl;have g1:=Gm 1 _ _ _ rfl;have g2:=Gm 2 _ _ _ rfl;have g3:=Gm 3 _ _ _ rfl;obtain ⟨k0,e1,d0,-⟩:=DataW.trod_int underlying3 g0;obtain ⟨k1,e2,d1,-⟩:=DataW.trod_int underlying3 g1;obtain ⟨ds,dv,e3,rd,sd⟩:=rX (dat:=jh.dat) (sz:=2) (by omega) underlying24 Zh g2 (fun n cs' D Pl hh _=>agL hh);obtain ⟨ls,lv,e4,rl,sl⟩:=rX (dat:=iT.dat) (sz:=4) (by omega) underlying25 Zi g3 (fun n cs' D Pl hh _=>agO hh)
   simp at e0 e1 e2 e3 e4
   subst e0 e1 e2 e3 e4;refine ⟨⟨ps,⟨k0,k1,ds,ls⟩⟩,_,_,_,rfl,⟨rp,rd,rl⟩,?_⟩;have hzh:=GZ ⟨ps,⟨k0,k1,ds,ls⟩⟩
   simp only at hzh
   rw [hx]
   simp only [dY,sK,Rows.uptoBulk,Rows.uptoBulkAll,hz,d0,d1]
   omega
theorem ahK:qb prog 63 11 [(3,0,1),(3,1,1),(3,2,1),(9,3,1),(29,4,5),(22,9,1),(61,10,1)]:=⟨by kernel_rfl,by kernel_rfl,by kernel_rfl⟩
theorem ahQ:qb prog 96 6 [(29,0,5),(94,5,1)]:=⟨by kernel_rfl,by kernel_rfl,by kernel_rfl⟩
theorem ahG:qb prog 98 7 [(3,0,1),(29,1,5),(22,6,1)]:=⟨by kernel_rfl,by kernel_rfl,by kernel_rfl⟩
theorem KW:prog.cellsOf 63=11:=by kernel_rfl
theorem Zl:prog.cellsOf 96=6:=by kernel_rfl
theorem Zf:prog.cellsOf 98=7:=by kernel_rfl
theorem VN:∀ (N:Nat) (n:Nat) (cs:List aj) (D:DataW H) (Pl:List MemPlace),DataW.trod enc prog W base spare held n 63 cs=some (D,Pl)→Rows.uptoBulk D < N→∃ r:aA,aX (nT W) r.dat cs∧cu r.dat+1≤8*Rows.uptoBulk D
 | 0,_,_,_,_,_,hN=>absurd hN (by omega)
 | N+1,n,cs,D,Pl,h,hN=>by
  have ih:=VN N;obtain ⟨xs,m,hx,hl,hxl,hf⟩:=qP ahK h
  match cs,hl,xs,hxl with
  | [c0,c1,c2,c3,c4,c5,c6,c7,c8,c9,c10],_,[y0,y1,y2,y3,y4,y5,y6],_ =>
   have h0:=hf 0 _ _ _ rfl;have h1:=hf 1 _ _ _ rfl;have h2:=hf 2 _ _ _ rfl;have h3:=hf 3 _ _ _ rfl;have h4:=hf 4 _ _ _ rfl;have h5:=hf 5 _ _ _ rfl;have h6:=hf 6 _ _ _ rfl
   simp only at hx
   have hD:Rows.uptoBulk D=Rows.uptoBulk y0.1+(Rows.uptoBulk y1.1+(Rows.uptoBulk y2.1+(Rows.uptoBulk y3.1+(Rows.uptoBulk y4.1+(Rows.uptoBulk y5.1+(Rows.uptoBulk y6.1+0))))))+1:=by
    rw [hx];simp only [dY,sK,Rows.uptoBulk,Rows.uptoBulkAll]
   obtain ⟨k0,e0,d0,-⟩:=DataW.trod_int underlying3 h0;obtain ⟨k1,e1,d1,-⟩:=DataW.trod_int underlying3 h1;obtain ⟨k2,e2,d2,-⟩:=DataW.trod_int underlying3 h2;obtain ⟨s,e3,d3,-⟩:=DataW.trod_string underlying9 h3;obtain ⟨hd,p,d,l,e4,rh,sh⟩:=JI h4;obtain ⟨fl,fv,e5,rf,sf⟩:=rX (dat:=aA.dat) (sz:=11) (by omega) underlying22 KW h5 (fun n cs' D' dx hh hlt=>ih n cs' D' dx hh (by omega))
   obtain ⟨rs,rv,e6,rr,sr⟩:=rX (dat:=bS.dat) (sz:=6) (by omega) underlying61 Zl h6 (fun n cs' D' dx hh hlt=>by
    obtain ⟨xs,m,hx,hl,hxl,hf⟩:=qP ahQ hh
    match cs',hl,xs,hxl with
    | [a0,a1,a2,a3,a4,a5],_,[w0,w1],_ =>
     have g0:=hf 0 _ _ _ rfl;have g1:=hf 1 _ _ _ rfl
     simp only at hx
     have hD':Rows.uptoBulk D'=Rows.uptoBulk w0.1+(Rows.uptoBulk w1.1+0)+1:=by
      rw [hx];simp only [dY,sK,Rows.uptoBulk,Rows.uptoBulkAll]
     obtain ⟨hd2,p2,d2',l2,q0,rh2,sh2⟩:=JI g0
     obtain ⟨cl,cv,q1,rc,sc⟩:=rX (dat:=bR.dat) (sz:=7) (by omega) underlying94 Zf g1 (fun n cs'' XM ajv hh2 hlt2=>by
      obtain ⟨xs,m,hx2,hl2,afg,hf2⟩:=qP ahG hh2
      match cs'',hl2,xs,afg with
      | [b0,b1,b2,b3,b4,b5,b6],_,[v0,v1,v2],_ =>
       have u0:=hf2 0 _ _ _ rfl;have u1:=hf2 1 _ _ _ rfl;have u2:=hf2 2 _ _ _ rfl
       simp only at hx2
       have ajz:Rows.uptoBulk XM=Rows.uptoBulk v0.1+(Rows.uptoBulk v1.1+(Rows.uptoBulk v2.1+0))+1:=by
        rw [hx2];simp only [dY,sK,Rows.uptoBulk,Rows.uptoBulkAll]
       obtain ⟨j0,t0,z0,-⟩:=DataW.trod_int underlying3 u0;obtain ⟨hd3,p3,d3',l3,t1,rh3,sh3⟩:=JI u1;obtain ⟨Mh,fv3,t2,rf3,sf3⟩:=rX (dat:=aA.dat) (sz:=11) (by omega) underlying22 KW u2 (fun n cs3 D3 Yp hh3 hlt3=>ih n cs3 D3 Yp hh3 (by omega))
       simp at t0 t1 t2
       obtain ⟨rfl,rfl,rfl,rfl,rfl⟩:=t1;subst t0 t2;have hz:=Ag (bR.mk j0 hd3 Mh)
       simp only [bR.head,bR.flow] at hz
       have bz:Rows.uptoBulk v0.1=1:=by rw [z0];rfl
       exact ⟨bR.mk j0 hd3 Mh,aX.Vj (x:=bR.mk j0 hd3 Mh) rh3 rf3,by simp only [bA] at hz;omega⟩)
     simp at q0 q1
     obtain ⟨rfl,rfl,rfl,rfl,rfl⟩:=q0;subst q1;have hz:=Ah (bS.mk hd2 cl)
     simp only [bS.head,bS.cells] at hz
     exact ⟨bS.mk hd2 cl,aX.Vk (x:=bS.mk hd2 cl) rh2 rc,by simp only [jc] at hz;omega⟩)
   simp at e0 e1 e2 e3 e4 e5 e6
   obtain ⟨rfl,rfl,rfl,rfl,rfl⟩:=e4;subst e0 e1 e2 e3 e5 e6;have hz:=oU (aA.mk k0 k1 k2 s hd fl rs)
   simp only [aA.text,aA.head,aA.flow,aA.rows] at hz
   have b0:Rows.uptoBulk y0.1=1:=by rw [d0];rfl
   have b1:Rows.uptoBulk y1.1=1:=by rw [d1];rfl
   have b2:Rows.uptoBulk y2.1=1:=by rw [d2];rfl
   have b3:Rows.uptoBulk y3.1=s.size+1:=by rw [d3];show s.data.toList.length+1=s.data.size+1;rw [sJ]
   exact ⟨aA.mk k0 k1 k2 s hd fl rs,aX.mkItem (x:=aA.mk k0 k1 k2 s hd fl rs) rh rf rr,by simp only [bA,gU] at hz;omega⟩
theorem agN {n:Nat} {cs:List aj} {x:DataW H × List MemPlace} (h:DataW.trod enc prog W base spare held n 22 cs=some x):∃ (l:List aA) (v:aj),cs=[v]∧av (nT W) (.sl 11 (l.map aA.dat)) v∧bA l+8≤8*Rows.uptoBulk x.1 :=
 rX (dat:=aA.dat) (sz:=11) (by omega) underlying22 KW h (fun n cs' D' dx hh _=>VN _ n cs' D' dx hh (Nat.lt_succ_self _))
end
end
section
open Go.ChangeShapes Go.RowKit Go.Deep
theorem Df {ρ:Type} {dat:ρ→List Dat}:∀ {l:List ρ} {x:ρ},x∈l→cu (dat x)+1≤eB (l.map dat)
 | y :: l,x,h=>by
  rw [dY,eB]
  rcases nC.1 h with rfl|h
  ·omega
  have:=Df (dat:=dat) h;omega
section
variable {H:Type} {enc:TypeId × aj→H} {W:World} {base:Nat} {spare:Nat→Bool} {held:Bool}
theorem ahT:qb prog 181 6 [(3,0,1),(3,1,1),(9,2,1),(3,3,1),(3,4,1),(23,5,1)]:=⟨by kernel_rfl,by kernel_rfl,by kernel_rfl⟩
theorem Zn:prog.cellsOf 181=6:=by kernel_rfl
theorem agT {n:Nat} {cs:List aj} {D:DataW H} {Pl:List MemPlace} (h:DataW.trod enc prog W base spare held n 181 cs=some (D,Pl)):∃ r:bG,aX (nT W) r.dat cs∧cu r.dat+1≤8*Rows.uptoBulk D:=by
 obtain ⟨xs,m,hx,hl,hxl,hf⟩:=qP ahT h
 match cs,hl,xs,hxl with
 | [c0,c1,c2,c3,c4,c5],_,[y0,y1,y2,y3,y4,y5],_ =>
  have h0:=hf 0 _ _ _ rfl;have h1:=hf 1 _ _ _ rfl;have h2:=hf 2 _ _ _ rfl;have h3:=hf 3 _ _ _ rfl;have h4:=hf 4 _ _ _ rfl;have h5:=hf 5 _ _ _ rfl
  simp only at hx
  have hD:Rows.uptoBulk D=Rows.uptoBulk y0.1+(Rows.uptoBulk y1.1+(Rows.uptoBulk y2.1+(Rows.uptoBulk y3.1+(Rows.uptoBulk y4.1+(Rows.uptoBulk y5.1+0)))))+1:=by rw [hx];simp only [dY,sK,Rows.uptoBulk,Rows.uptoBulkAll]
  obtain ⟨k0,e0,d0,-⟩:=DataW.trod_int underlying3 h0;obtain ⟨k1,e1,d1,-⟩:=DataW.trod_int underlying3 h1;obtain ⟨k2,e2,d2,-⟩:=DataW.trod_string underlying9 h2;obtain ⟨k3,e3,d3,-⟩:=DataW.trod_int underlying3 h3;obtain ⟨k4,e4,d4,-⟩:=DataW.trod_int underlying3 h4;obtain ⟨k5,q5,e5,r5,d5⟩:=rX (dat:=iq.dat) (sz:=2) (by omega) underlying23 Rj h5 (fun n cs' D Pl hh _=>VO hh)
  simp at e0 e1 e2 e3 e4 e5
  subst e0 e1 e2 e3 e4 e5
  have b0:Rows.uptoBulk y0.1=1:=by rw [d0];rfl
  have b1:Rows.uptoBulk y1.1=1:=by rw [d1];rfl
  have b2:Rows.uptoBulk y2.1=k2.size+1:=by rw [d2];show k2.data.toList.length+1=k2.data.size+1;rw [sJ]
  have b3:Rows.uptoBulk y3.1=1:=by rw [d3];rfl
  have b4:Rows.uptoBulk y4.1=1:=by rw [d4];rfl
  refine ⟨⟨k0,k1,k2,k3,k4,k5⟩,?_,?_⟩
  ·exact ⟨_,_,rfl,(by simp [av,Value.oneCell']),⟨_,_,rfl,(by simp [av,Value.oneCell']),⟨_,_,rfl,(by simp [av,Value.oneCell']),⟨_,_,rfl,(by simp [av,Value.oneCell']),⟨_,_,rfl,(by simp [av,Value.oneCell']),⟨_,_,rfl,r5,rfl⟩⟩⟩⟩⟩⟩
  simp only [bG.dat,cu,nZ];omega
theorem ahN:qb prog 230 4 [(3,0,1),(3,1,1),(9,2,1),(3,3,1)]:=⟨by kernel_rfl,by kernel_rfl,by kernel_rfl⟩
theorem Zk:prog.cellsOf 230=4:=by kernel_rfl
theorem agP {n:Nat} {cs:List aj} {D:DataW H} {Pl:List MemPlace} (h:DataW.trod enc prog W base spare held n 230 cs=some (D,Pl)):∃ r:nL,aX (nT W) r.dat cs∧cu r.dat+1≤8*Rows.uptoBulk D:=by
 obtain ⟨xs,m,hx,hl,hxl,hf⟩:=qP ahN h
 match cs,hl,xs,hxl with
 | [c0,c1,c2,c3],_,[y0,y1,y2,y3],_ =>
  have h0:=hf 0 _ _ _ rfl;have h1:=hf 1 _ _ _ rfl;have h2:=hf 2 _ _ _ rfl;have h3:=hf 3 _ _ _ rfl
  simp only at hx
  have hD:Rows.uptoBulk D=Rows.uptoBulk y0.1+(Rows.uptoBulk y1.1+(Rows.uptoBulk y2.1+(Rows.uptoBulk y3.1+0)))+1:=by rw [hx];simp only [dY,sK,Rows.uptoBulk,Rows.uptoBulkAll]
  obtain ⟨k0,e0,d0,-⟩:=DataW.trod_int underlying3 h0;obtain ⟨k1,e1,d1,-⟩:=DataW.trod_int underlying3 h1;obtain ⟨k2,e2,d2,-⟩:=DataW.trod_string underlying9 h2;obtain ⟨k3,e3,d3,-⟩:=DataW.trod_int underlying3 h3
  simp at e0 e1 e2 e3
  subst e0 e1 e2 e3
  have b0:Rows.uptoBulk y0.1=1:=by rw [d0];rfl
  have b1:Rows.uptoBulk y1.1=1:=by rw [d1];rfl
  have b2:Rows.uptoBulk y2.1=k2.size+1:=by rw [d2];show k2.data.toList.length+1=k2.data.size+1;rw [sJ]
  have b3:Rows.uptoBulk y3.1=1:=by rw [d3];rfl
  refine ⟨⟨k0,k1,k2,k3⟩,?_,?_⟩
  ·exact ⟨_,_,rfl,(by simp [av,Value.oneCell']),⟨_,_,rfl,(by simp [av,Value.oneCell']),⟨_,_,rfl,(by simp [av,Value.oneCell']),⟨_,_,rfl,(by simp [av,Value.oneCell']),rfl⟩⟩⟩⟩
  simp only [nL.dat,cu,nZ];omega
theorem ahM:qb prog 184 2 [(3,0,1),(182,1,1)]:=⟨by kernel_rfl,by kernel_rfl,by kernel_rfl⟩
theorem Zj:prog.cellsOf 184=2:=by kernel_rfl
theorem agQ {n:Nat} {cs:List aj} {D:DataW H} {Pl:List MemPlace} (h:DataW.trod enc prog W base spare held n 184 cs=some (D,Pl)):∃ r:fK,aX (nT W) r.dat cs∧cu r.dat+1≤8*Rows.uptoBulk D:=by
 obtain ⟨xs,m,hx,hl,hxl,hf⟩:=qP ahM h
 match cs,hl,xs,hxl with
 | [c0,c1],_,[y0,y1],_ =>
  have h0:=hf 0 _ _ _ rfl;have h1:=hf 1 _ _ _ rfl
  simp only at hx
  have hD:Rows.uptoBulk D=Rows.uptoBulk y0.1+(Rows.uptoBulk y1.1+0)+1:=by rw [hx];simp only [dY,sK,Rows.uptoBulk,Rows.uptoBulkAll]
  obtain ⟨k0,e0,d0,-⟩:=DataW.trod_int underlying3 h0;obtain ⟨k1,q1,e1,r1,d1⟩:=rX (dat:=nL.dat) (sz:=4) (by omega) underlying182 Zk h1 (fun n cs' D Pl hh _=>agP hh)
  simp at e0 e1
  subst e0 e1
  have b0:Rows.uptoBulk y0.1=1:=by rw [d0];rfl
  refine ⟨⟨k0,k1⟩,?_,?_⟩
  ·exact ⟨_,_,rfl,(by simp [av,Value.oneCell']),⟨_,_,rfl,r1,rfl⟩⟩
  simp only [fK.dat,cu,nZ];omega
theorem ahH:qb prog 67 6 [(3,0,1),(3,1,1),(9,2,1),(3,3,1),(9,4,1),(4,5,1)]:=⟨by kernel_rfl,by kernel_rfl,by kernel_rfl⟩
theorem Zg:prog.cellsOf 67=6:=by kernel_rfl
theorem agK {n:Nat} {cs:List aj} {D:DataW H} {Pl:List MemPlace} (h:DataW.trod enc prog W base spare held n 67 cs=some (D,Pl)):∃ r:bU,aX (nT W) r.dat cs∧cu r.dat+1≤8*Rows.uptoBulk D:=by
 obtain ⟨xs,m,hx,hl,hxl,hf⟩:=qP ahH h
 match cs,hl,xs,hxl with
 | [c0,c1,c2,c3,c4,c5],_,[y0,y1,y2,y3,y4,y5],_ =>
  have h0:=hf 0 _ _ _ rfl;have h1:=hf 1 _ _ _ rfl;have h2:=hf 2 _ _ _ rfl;have h3:=hf 3 _ _ _ rfl;have h4:=hf 4 _ _ _ rfl;have h5:=hf 5 _ _ _ rfl
  simp only at hx
  have hD:Rows.uptoBulk D=Rows.uptoBulk y0.1+(Rows.uptoBulk y1.1+(Rows.uptoBulk y2.1+(Rows.uptoBulk y3.1+(Rows.uptoBulk y4.1+(Rows.uptoBulk y5.1+0)))))+1:=by rw [hx];simp only [dY,sK,Rows.uptoBulk,Rows.uptoBulkAll]
  obtain ⟨k0,e0,d0,-⟩:=DataW.trod_int underlying3 h0;obtain ⟨k1,e1,d1,-⟩:=DataW.trod_int underlying3 h1;obtain ⟨k2,e2,d2,-⟩:=DataW.trod_string underlying9 h2;obtain ⟨k3,e3,d3,-⟩:=DataW.trod_int underlying3 h3;obtain ⟨k4,e4,d4,-⟩:=DataW.trod_string underlying9 h4;obtain ⟨k5,e5,d5⟩:=DataW.trod_bool underlying4 h5
  simp at e0 e1 e2 e3 e4 e5
  subst e0 e1 e2 e3 e4 e5
  have b0:Rows.uptoBulk y0.1=1:=by rw [d0];rfl
  have b1:Rows.uptoBulk y1.1=1:=by rw [d1];rfl
  have b2:Rows.uptoBulk y2.1=k2.size+1:=by rw [d2];show k2.data.toList.length+1=k2.data.size+1;rw [sJ]
  have b3:Rows.uptoBulk y3.1=1:=by rw [d3];rfl
  have b4:Rows.uptoBulk y4.1=k4.size+1:=by rw [d4];show k4.data.toList.length+1=k4.data.size+1;rw [sJ]
  have b5:Rows.uptoBulk y5.1=1:=by rw [d5];rfl
  refine ⟨⟨k0,k1,k2,k3,k4,k5⟩,?_,?_⟩
  ·exact ⟨_,_,rfl,(by simp [av,Value.oneCell']),⟨_,_,rfl,(by simp [av,Value.oneCell']),⟨_,_,rfl,(by simp [av,Value.oneCell']),⟨_,_,rfl,(by simp [av,Value.oneCell']),⟨_,_,rfl,(by simp [av,Value.oneCell']),⟨_,_,rfl,(by simp [av,Value.oneCell']),rfl⟩⟩⟩⟩⟩⟩
  simp only [bU.dat,cu,nZ];omega
theorem ahU:qb prog 219 2 [(9,0,1),(9,1,1)]:=⟨by kernel_rfl,by kernel_rfl,by kernel_rfl⟩
theorem Zo:prog.cellsOf 219=2:=by kernel_rfl
theorem agU {n:Nat} {cs:List aj} {D:DataW H} {Pl:List MemPlace} (h:DataW.trod enc prog W base spare held n 219 cs=some (D,Pl)):∃ r:lC,aX (nT W) r.dat cs∧cu r.dat+1≤8*Rows.uptoBulk D:=by
 obtain ⟨xs,m,hx,hl,hxl,hf⟩:=qP ahU h
 match cs,hl,xs,hxl with
 | [c0,c1],_,[y0,y1],_ =>
  have h0:=hf 0 _ _ _ rfl;have h1:=hf 1 _ _ _ rfl
  simp only at hx
  have hD:Rows.uptoBulk D=Rows.uptoBulk y0.1+(Rows.uptoBulk y1.1+0)+1:=by rw [hx];simp only [dY,sK,Rows.uptoBulk,Rows.uptoBulkAll]
  obtain ⟨k0,e0,d0,-⟩:=DataW.trod_string underlying9 h0;obtain ⟨k1,e1,d1,-⟩:=DataW.trod_string underlying9 h1
  simp at e0 e1
  subst e0 e1
  have b0:Rows.uptoBulk y0.1=k0.size+1:=by rw [d0];show k0.data.toList.length+1=k0.data.size+1;rw [sJ]
  have b1:Rows.uptoBulk y1.1=k1.size+1:=by rw [d1];show k1.data.toList.length+1=k1.data.size+1;rw [sJ]
  refine ⟨⟨k0,k1⟩,?_,?_⟩
  ·exact ⟨_,_,rfl,(by simp [av,Value.oneCell']),⟨_,_,rfl,(by simp [av,Value.oneCell']),rfl⟩⟩
  simp only [lC.dat,cu,nZ];omega
theorem ahR:qb prog 176 3 [(3,0,1),(9,1,1),(3,2,1)]:=⟨by kernel_rfl,by kernel_rfl,by kernel_rfl⟩
theorem Zm:prog.cellsOf 176=3:=by kernel_rfl
theorem agR {n:Nat} {cs:List aj} {D:DataW H} {Pl:List MemPlace} (h:DataW.trod enc prog W base spare held n 176 cs=some (D,Pl)):∃ r:eU,aX (nT W) r.dat cs∧cu r.dat+1≤8*Rows.uptoBulk D:=by
 obtain ⟨xs,m,hx,hl,hxl,hf⟩:=qP ahR h
 match cs,hl,xs,hxl with
 | [c0,c1,c2],_,[y0,y1,y2],_ =>
  have h0:=hf 0 _ _ _ rfl;have h1:=hf 1 _ _ _ rfl;have h2:=hf 2 _ _ _ rfl
  simp only at hx
  have hD:Rows.uptoBulk D=Rows.uptoBulk y0.1+(Rows.uptoBulk y1.1+(Rows.uptoBulk y2.1+0))+1:=by rw [hx];simp only [dY,sK,Rows.uptoBulk,Rows.uptoBulkAll]
  obtain ⟨k0,e0,d0,-⟩:=DataW.trod_int underlying3 h0;obtain ⟨k1,e1,d1,-⟩:=DataW.trod_string underlying9 h1;obtain ⟨k2,e2,d2,-⟩:=DataW.trod_int underlying3 h2
  simp at e0 e1 e2
  subst e0 e1 e2
  have b0:Rows.uptoBulk y0.1=1:=by rw [d0];rfl
  have b1:Rows.uptoBulk y1.1=k1.size+1:=by rw [d1];show k1.data.toList.length+1=k1.data.size+1;rw [sJ]
  have b2:Rows.uptoBulk y2.1=1:=by rw [d2];rfl
  refine ⟨⟨k0,k1,k2⟩,?_,?_⟩
  ·exact ⟨_,_,rfl,(by simp [av,Value.oneCell']),⟨_,_,rfl,(by simp [av,Value.oneCell']),⟨_,_,rfl,(by simp [av,Value.oneCell']),rfl⟩⟩⟩
  simp only [eU.dat,cu,nZ];omega
theorem ahS:qb prog 36 4 [(31,0,1),(32,1,1),(33,2,1),(34,3,1)]:=⟨by kernel_rfl,by kernel_rfl,by kernel_rfl⟩
structure KJ (s:yN) (n:Nat):Prop where
 st:eB (s.styles.map bG.dat)≤n
 li:eB (s.lists.map fK.dat)≤n
 cm:eB (s.comments.map bU.dat)≤n
 va:eB (s.vars.map lC.dat)≤n
theorem KJ.zn {s:yN} {n:Nat} (h:KJ s n) (hn:n≤4294967296):KL s∧s.styles.length≤4294967296:=by
 obtain ⟨h1,h2,h3,h4⟩:=h;have l1:=qW (s.styles.map bG.dat);have l2:=qW (s.lists.map fK.dat);have l3:=qW (s.comments.map bU.dat);have l4:=qW (s.vars.map lC.dat);rw [bT] at l1 l2 l3 l4;refine ⟨⟨fun x hx=>?_,by omega,fun x hx y hy=>?_,by omega,fun x hx=>?_,by omega,fun x hx=>?_⟩,by omega⟩
 ·have:=Df (dat:=bG.dat) hx
  simp only [bG.dat,cu,nZ] at this;omega
 ·have:=Df (dat:=fK.dat) hx
  simp only [fK.dat,cu,nZ] at this
  have h5:=Df (dat:=nL.dat) hy
  simp only [nL.dat,cu,nZ] at h5;omega
 ·have:=Df (dat:=bU.dat) hx
  simp only [bU.dat,cu,nZ] at this;omega
 have:=Df (dat:=lC.dat) hx
 simp only [lC.dat,cu,nZ] at this;omega
theorem agS {n:Nat} {cs:List aj} {x:DataW H × List MemPlace} (h:DataW.trod enc prog W base spare held n 36 cs=some x):∃ (s:yN) (a b c d:aj),cs=[a,b,c,d]∧DJ (nT W) s a b c d∧KJ s (8*Rows.uptoBulk x.1):=by
 obtain ⟨xs,m,hx,hl,hxl,hf⟩:=qP ahS h
 match cs,hl,xs,hxl with
 | [c0,c1,c2,c3],_,[y0,y1,y2,y3],_ =>
  have h0:=hf 0 _ _ _ rfl;have h1:=hf 1 _ _ _ rfl;have h2:=hf 2 _ _ _ rfl;have h3:=hf 3 _ _ _ rfl;obtain ⟨k0,q0,e0,r0,d0⟩:=rX (dat:=bG.dat) (sz:=6) (by omega) underlying31 Zn h0 (fun n cs' D Pl hh _=>agT hh);obtain ⟨k1,q1,e1,r1,d1⟩:=rX (dat:=fK.dat) (sz:=2) (by omega) underlying32 Zj h1 (fun n cs' D Pl hh _=>agQ hh);obtain ⟨k2,q2,e2,r2,d2⟩:=rX (dat:=bU.dat) (sz:=6) (by omega) underlying33 Zg h2 (fun n cs' D Pl hh _=>agK hh);obtain ⟨k3,q3,e3,r3,d3⟩:=rX (dat:=lC.dat) (sz:=2) (by omega) underlying34 Zo h3 (fun n cs' D Pl hh _=>agU hh)
  simp at e0 e1 e2 e3
  subst e0 e1 e2 e3
  have hD:Rows.uptoBulk x.1=Rows.uptoBulk y0.1+(Rows.uptoBulk y1.1+(Rows.uptoBulk y2.1+(Rows.uptoBulk y3.1+0)))+1:=by rw [hx];simp only [dY,sK,Rows.uptoBulk,Rows.uptoBulkAll]
  exact ⟨⟨k0,k1,k2,k3⟩,_,_,_,_,rfl,⟨r0,r1,r2,r3⟩,⟨by show eB (k0.map _)≤_;omega,by show eB (k1.map _)≤_;omega,by show eB (k2.map _)≤_;omega,by show eB (k3.map _)≤_;omega⟩⟩
theorem Wu:qb prog 38 11 [(22,0,1),(29,1,5),(30,6,1),(36,7,4)]:=⟨by kernel_rfl,by kernel_rfl,by kernel_rfl⟩
theorem zV {G:GH} {sz:Nat} {rs:List (List Dat)} {v:aj} (h:av G (.sl sz rs) v):∃ x,v=fq x:=by
 obtain ⟨a,n,c,rfl⟩:=h.form;exact ⟨(a,n,c),rfl⟩
theorem agM {n:Nat} {cs:List aj} {x:DataW H × List MemPlace} (h:DataW.trod enc prog W base spare held n 38 cs=some x) (hb:Rows.uptoBulk x.1≤1048576):∃ (D:nA) (d:vS),cs=D.cells∧BF (nT W) D d∧Ho d:=by
 obtain ⟨xs,m,hx,hl,hxl,hf⟩:=qP Wu h
 match cs,hl,xs,hxl with
 | [c0,c1,c2,c3,c4,c5,c6,c7,c8,c9,c10],_,[y0,y1,y2,y3],_ =>
  have h0:=hf 0 _ _ _ rfl;have h1:=hf 1 _ _ _ rfl;have h2:=hf 2 _ _ _ rfl;have h3:=hf 3 _ _ _ rfl;obtain ⟨l,q0,e0,r0,d0⟩:=agN h0;obtain ⟨hd,p,dd,ll,e1,r1,d1⟩:=JI h1;obtain ⟨rv,q2,e2,r2,d2⟩:=rX (dat:=eU.dat) (sz:=3) (by omega) underlying30 Zm h2 (fun n cs' D Pl hh _=>agR hh);obtain ⟨s,a,b,c,d,e3,r3,d3⟩:=agS h3
  simp at e0 e1 e2 e3
  obtain ⟨rfl,rfl,rfl,rfl,rfl⟩:=e1;obtain ⟨rfl,rfl,rfl,rfl⟩:=e3;subst e0 e2
  have hD:Rows.uptoBulk x.1=Rows.uptoBulk y0.1+(Rows.uptoBulk y1.1+(Rows.uptoBulk y2.1+(Rows.uptoBulk y3.1+0)))+1:=by rw [hx];simp only [dY,sK,Rows.uptoBulk,Rows.uptoBulkAll]
  obtain ⟨x0,rfl⟩:=zV r0;obtain ⟨x1,rfl⟩:=zV r1.props;obtain ⟨x2,rfl⟩:=zV r1.bX;obtain ⟨x3,rfl⟩:=zV r1.layers;obtain ⟨x4,rfl⟩:=zV r2;obtain ⟨x5,rfl⟩:=zV r3.st;obtain ⟨x6,rfl⟩:=zV r3.li;obtain ⟨x7,rfl⟩:=zV r3.cm;obtain ⟨x8,rfl⟩:=zV r3.va;obtain ⟨hz1,hz2⟩:=d3.zn (by omega);have l2:=qW (rv.map eU.dat);rw [bT] at l2;refine ⟨⟨x0,x1,x2,x3,x4,x5,x6,x7,x8,hd.marks.ins,hd.marks.move⟩,⟨l,hd,rv,s⟩,rfl,⟨r0,r1,rfl,rfl,r2,r3⟩,⟨by show bA l≤_;omega,by show oQ hd≤_;omega,by show rv.length≤_;omega,fun x hx=>?_,hz2,hz1⟩⟩;have:=Df (dat:=eU.dat) hx
  simp only [eU.dat,cu,nZ] at this
  omega
end
end
end Go.Proofs.YteopmoocmoigcaaGreat
