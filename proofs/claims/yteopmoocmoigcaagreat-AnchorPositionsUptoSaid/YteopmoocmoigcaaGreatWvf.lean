/-
  What the claim stands on, part 6: At16 Wi16 Fl16 Ap16 Brd Brs.
-/
import Derived.Test.YteopmoocmoigcaaGreatWve
import Derived.ProofKit
import Derived.Deep.Slices
import Derived.Laws.StructEq
namespace Go.Proofs.YteopmoocmoigcaaGreat
open Go.Proofs.Tryz
section
open Go.RowKit
theorem UE:bY prog 55 0 0:=⟨by kernel_rfl⟩
theorem adi:∀ args w,(callFunc 16 args).run prog w=.ok (.enter 16 args) w:=enters func16 rfl (by kernel_rfl)
theorem ads:∀ args w,(callFunc 45 args).run prog w=.ok (.enter 45 args) w:=enters func45 rfl (by kernel_rfl)
def Wm (f t:Int) (s:fP):Bool:=decide (s.ff=f∧s.fa≤t∧t≤s.ta)
def kM (A:List fP) (f t:Int):List Int:=(A.filter (Wm f t)).map fP.id
theorem Pj {A:List fP} {f t:Int} {k:Nat} (hk:k < A.length) (h:A[k].ff=f∧A[k].fa≤t∧t≤A[k].ta):kM (A.take (k+1)) f t=kM (A.take k) f t++[A[k].id]:=by
 unfold kM
 rw [jF hk,List.filter_append,List.filter_cons,au (by exact aC h),lG];rfl
theorem Fb {A:List fP} {f t:Int} {k:Nat} (hk:k < A.length) (h:¬ (A[k].ff=f∧A[k].fa≤t∧t≤A[k].ta)):kM (A.take (k+1)) f t=kM (A.take k) f t:=by
 unfold kM
 rw [jF hk,List.filter_append,List.filter_cons,ah (by rw [Wm,jk h];decide),List.filter_nil,oF]
theorem V9 (A:List fP) (f t:Int):(kM A f t).length≤A.length:=by
 unfold kM;rw [bU];exact List.length_filter_le _ _
theorem Wq (G:GH):∀ l:List Int,fD G 1 (l.map oo) (l.map vi)
 | []=>fD.nil
 | x :: l=>by
  have h1:fD G 1 [oo x] [vi x]:=by
   have:=(fD.nil (G:=G) (sz:=1)).snoc (ahu G x) rfl
   simpa using this
  rw [eT,eT,← List.singleton_append,← List.singleton_append (x:=vi x)];exact h1.append (Wq G l)
set_option maxHeartbeats 2000000 in
theorem Sy {G:GH} {b:Nat} {f t:Int} (hb0:aL G b 0=some (vi f)) (hb1:aL G b 1=some (vi t)) (G1:GH) (w0:World) (hm:∀ k o,G k=some o→G1 k=some o) (hG:Hold G1 w0) (A:List fP) (v:aj) (hv:av G1 (.sl 6 (A.map fP.dat)) v) (hl:A.length≤1073741824) :
  sH prog (.func (.func 45) #[] #[(aJ b 0)]) [v] w0 (bF w0 G1 fun u G'=>av G' (.sl 1 ((kM A f t).map oo)) u):=by
 refine mo (caps:=[(aJ b 0)]) ads ?_;obtain ⟨vA,n,cc,rfl⟩:=hv.form;have hn:=hv.len;rw [bU] at hn;subst hn;have hml:maxLen=9223372036854775807:=rfl;replace hb0:=aM hm hb0;replace hb1:=aM hm hb1;refine eN [(0,_),(1,_)] func45 rfl ntmps45 rfl rfl hG ?_;intro a H;refine kP H (SR fun _ K1=>ak K1 rfl (SR fun _ K2=>ak K2 rfl (SQ fun _ K3=>SR fun _ K4=>Rm rfl (Rl nQ rfl (Rm rfl (Kz K4 (SB ?_)))))));clear H K1 K2 K4;intro a H;skip;refine eU (ι:=Nat × aj × OL) (Tc:=[(1,_),(7,_),(8,_)]) (Lc:=[]) (fun gh=>[(4,gh.2.1),(9,vi gh.1)]) (fun gh=>[]++gh.2.2) (fun gh=>G1) (fun gh=>gh.1≤A.length∧dJ 3 1 gh.2.1 (kM (A.take gh.1) f t).length ((kM (A.take gh.1) f t).map vi) gh.2.2) (fun gh=>A.length - gh.1) ((0,.slice none 0 0,[])) (by exact (H).sub ⟨rfl,rfl,rfl,rfl,rfl,aD⟩) ?_ ?_
 ·exact ⟨ig _,dJ.nil⟩
 clear H;intro gh a w hI H;obtain ⟨k,v4,Lo⟩:=gh;dsimp only at hI H;obtain ⟨hk,hrw⟩:=hI;have hil:=V9 (A.take k) f t;rw [List.length_take] at hil;obtain ⟨v4A,v4c,rfl,-,-⟩:=hrw.shape;dsimp only [lca,bD] at H;refine kP H (SR fun _ K5=>Rc rfl (Kz K5 (SQ fun _ K6=>Cd rfl ?_ ?_))) <;> clear H K5
 ·intro h10 a H
  try have lN:=dT h10
  have hk2:k < A.length:=by omega
  obtain ⟨b',o,rfl,hrow⟩:=Ir hv hk2;refine kP H (Kc K6 (SQ fun _ K7=>SB (SR fun _ K8=>Ri nQ jr rfl rfl ?_)));clear H K6;intro a H;refine bK jr (cs:=A[k].cells) H wn rfl rfl (fun j v hj=>H.hp.aL (hrow j v hj)) rfl ?_;clear H;intro a H;refine eZ jr H wn rfl ?_;clear H;intro b6 a w hb6 H;refine bM jr 0 (vs:=[_,_,_,_,_,_]) _ H wn rfl rfl rfl rfl rfl rfl rfl rfl ?_;clear H;intro w H;dsimp only [List.set,setRow] at H;refine K8 _ _ ?_;clear K8;refine kP H (SR fun _ K9=>Rf pQ rfl (aW pO aH 0 rfl rfl (Rf pO rfl (Rg aH rfl hb0 (Rc rfl (Rm rfl (Sp 19 rfl ?_ ?_))))))) <;> clear H
  ·intro h19 a H
   try have pY:=dT h19
   refine kH H (YF pQ h19 rfl (YF jK h19 rfl (YO aH 0 h19 rfl (YF jK h19 rfl (YR aH h19 rfl hb1 (YC h19 rfl (Pt h19 rfl (Rm rfl (Sp 27 rfl ?_ ?_))))))))) <;> clear H
   ·intro h27 a H
    try have p27:=dT h27
    refine kH H (YF jK h27 rfl (YR aH h27 rfl hb1 (YF Aa h27 rfl (YF jK h27 rfl (YO aH 0 h27 rfl (YC h27 rfl (Pt h27 rfl (Kz K9 (Cd rfl ?_ ?_))))))))) <;> clear H K9
    ·intro fF a H
     try have p34:=dT fF
     refine kP H (SC (Rm rfl (aW UE aH 0 rfl rfl ?_)));clear H;intro a H;refine gU kY aH [_] [_] H wn rfl rfl rfl rfl rfl (by intro i q h;match i,h with|0,h=>exact h|n+1,h=>simp at h) rfl rfl ?_;clear H;intro SE a w alK H;refine oN (Li:=[_,_]) (Lo:=Lo) (news:=[vi A[k].id]) kY aH rfl rfl H wn rfl rfl hrw rfl (H.hp.eF 0 rfl rfl) rfl (by omega) (by omega) rfl ?_;clear H;intro v39 ZV a w agK H;refine kH H (aV K7 rfl (SC (Rd rfl (Rm rfl ?_))));clear H K7;intro a H;refine aI ?_;refine cK ((k+1,v39,ZV)) (by exact (H.dV (Pl:=[_,_]) (dz:=[]) [] (by decide) rfl).sub ⟨rfl,rfl,rfl,rfl,rfl,aD⟩) ?_ ?_
     ·(try dsimp only);exact ⟨by omega,by rw [Pj hk2 ⟨pY,p27,p34⟩,lF,lG];exact agK⟩
     first|omega|(dsimp only;omega)
    intro fF a H
    try have p34:=dF fF
    refine kP H (Kc K7 (SC (Rd rfl (Rm rfl ?_))));clear H K7;intro a H;refine aI ?_;refine cK ((k+1,_,Lo)) (by exact (H.dV (Pl:=[_]) (dz:=[]) [] (by decide) rfl).sub ⟨rfl,rfl,rfl,rfl,rfl,aD⟩) ?_ ?_
    ·(try dsimp only);exact ⟨by omega,by rw [Fb hk2 (by rintro ⟨e1,e2,e3⟩;first|exact absurd e1 pY|exact absurd e2 p27|exact absurd e3 p34)];exact hrw⟩
    first|omega|(dsimp only;omega)
   intro h27 a H
   try have p27:=dF h27
   refine kH H (aY h27 rfl (aY h27 rfl (Pf h27 rfl (Kz K9 (Cf rfl rfl (Kc K7 (SC (Rd rfl (Rm rfl ?_)))))))));clear H K9 K7;intro a H;refine aI ?_;refine cK ((k+1,_,Lo)) (by exact (H.dV (Pl:=[_]) (dz:=[]) [] (by decide) rfl).sub ⟨rfl,rfl,rfl,rfl,rfl,aD⟩) ?_ ?_
   ·(try dsimp only);exact ⟨by omega,by rw [Fb hk2 (by rintro ⟨e1,e2,e3⟩;first|exact absurd e1 pY|exact absurd e2 p27|exact absurd e3 p34)];exact hrw⟩
   first|omega|(dsimp only;omega)
  intro h19 a H
  try have pY:=dF h19
  refine kH H (aY h19 rfl (aY h19 rfl (Pf h19 rfl (Rm rfl (aY rfl rfl (aY rfl rfl (Pf rfl rfl (Kz K9 (Cf rfl rfl (Kc K7 (SC (Rd rfl (Rm rfl ?_)))))))))))));clear H K9 K7;intro a H;refine aI ?_;refine cK ((k+1,_,Lo)) (by exact (H.dV (Pl:=[_]) (dz:=[]) [] (by decide) rfl).sub ⟨rfl,rfl,rfl,rfl,rfl,aD⟩) ?_ ?_
  ·(try dsimp only);exact ⟨by omega,by rw [Fb hk2 (by rintro ⟨e1,e2,e3⟩;first|exact absurd e1 pY|exact absurd e2 p27|exact absurd e3 p34)];exact hrw⟩
  first|omega|(dsimp only;omega)
 intro h10 a H
 try have lN:=dF h10
 refine dQ ?_;refine K3 _ _ ?_;clear K3;refine kP H (SR fun _ aT=>Rm rfl (ak aT rfl ?_));clear H aT;intro a H;refine lr H results45 rfl ?_
 obtain rfl:k=A.length:=by omega
 rw [uP] at hrw;obtain ⟨Gr,hmr,hrep,H⟩:=St.uh (Li:=[]) H hrw (rows:=(kM A f t).map oo) (by simp) (Wq _ _);exact H.rt (by rw [uP];exact hrep)
def kF (l:List ay) (f t:Int):Int:=match jc l f with
 | none=>8
 | some L=>if t < 0∨vC L < t then 2 else 0
def vU (l:List ay) (c f t:Int):List Int:=if kF l f t=0 then kM (jq (dB 0 0 l) c) f t else []
theorem wQ {l:List ay} {f t:Int} (h:¬ kF l f t=0) (c:Int):vU l c f t=[]:=by unfold vU;rw [ah h]
theorem BQ (G:GH):av G (.sl 1 (([]:List Int).map oo)) (.slice none 0 0):=av.jo (A:=none) (n:=0) (c:=0) rfl (by decide)
theorem La (A:List bX) (c:Int):(jq A c).length≤A.length:=by
 have:=Qs A c A.length (bV _)
 unfold ru at this
 rwa [uP] at this
set_option maxHeartbeats 2000000 in
theorem aaw (G:GH) (w0:World) (hG:Hold G w0) (D:nE) (l:List ay) (f t:Int) (hv:av G (.sl 11 (l.map ay.dat)) (fI D.f)) (hok:dX l) (hz:bq l≤1073741824) :
    Calls prog 22 #[D.val,.agg #[vi f,vi t]] w0 (bF w0 G fun u G'=>∃ va vb,u=.tuple #[va,vb,vi (kF l f t)]∧av G' (.sl 1 ((vU l 1 f t).map oo)) va∧av G' (.sl 1 ((vU l 3 f t).map oo)) vb):=by
  have Vb:=yE 0 0 l;have hl1:=La (dB 0 0 l) 1;have hl3:=La (dB 0 0 l) 3;refine eN [(0,_),(1,_)] func22 rfl ntmps22 rfl rfl hG ?_;intro a H;refine dH (fun _ K1=>?_);refine fq (cs:=[_,_,_,_,_,_,_,_,_,_,_]) H wn rfl rfl rfl ?_;clear H;intro b2 a w hb2 H;refine fq (cs:=[_,_]) H wn rfl rfl rfl ?_;clear H;intro b3 a w hb3 H;refine kH H (Ra rfl (Ra rfl (ak K1 rfl (SQ fun _ K2=>?_))));clear H K1;intro a H;obtain ⟨Ga,hma,um,H⟩:=H.dS;obtain ⟨Gb,hmb,hb2',H⟩:=H.dS;have hga:=fun j v hj=>wY hb2' 0 D.cells rfl j v hj;have hb0:aL Gb b3 0=some (vi f):=aM hmb (by unfold aL;rw [um];rfl);have hb1:aL Gb b3 1=some (vi t):=aM hmb (by unfold aL;rw [um];rfl);replace hv:=(hv.mono hma).mono hmb;refine nY ?_;refine bK rz (cs:=D.cells) H wn rfl rfl (fun j v hj=>H.hp.aL (hga j v hj)) rfl ?_;clear H;intro a H;refine kH H (Rf pO rfl (Rg aH rfl hb0 ?_));clear H;intro a H;refine s_call TR H wn rfl (UU _ _ H.ro D l f hv (by omega)) rfl ?_;clear H;rintro v16 oW a w ⟨x16,rfl,hx16⟩ kV H;replace hv:=hv.mono kV;obtain ⟨A16,n16,c16,rfl⟩:=hx16.form;refine kH H (Rm rfl ?_);clear H;intro a H;(iterate 2 refine jN H wn rfl rfl rfl ?_;clear H;intro a H);refine kH H (Ra rfl (aV K2 rfl (SQ fun _ K3=>SR fun _ K4=>Rm rfl (Rn rfl (Kz K4 (Cd rfl ?_ ?_)))))) <;> clear H K2 K4
  · intro h20 a H
    refine kP H (SR fun _ K5=>Ra rfl (Ra rfl (ak K5 rfl ?_)));clear H K5;intro a H;refine cB ?_;refine (eB H results22 (.cons (aR H rfl) (.cons (aR H rfl) (.cons (aR H rfl) .nil))) ?_).1
    have hE:kF l f t=8:=by
      unfold kF
      rw [show jc l f=none from Option.not_isSome_iff_eq_none.1 (by simpa using h20)]
    exact H.rt ⟨_,_,by rw [hE],by rw [wQ (by rw [hE];decide)];exact BQ _,by rw [wQ (by rw [hE];decide)];exact BQ _⟩
  intro h20 a H
  try have BR:=dF h20
  obtain ⟨L,hL⟩:=Option.isSome_iff_exists.1 (show (jc l f).isSome=true by simpa using h20);rw [hL,Option.getD_some] at hx16;have hLz:=UR hL;refine kP H (Kc K3 (SQ fun _ K6=>SR fun _ K7=>Rm rfl ?_));clear H K3;intro a H;refine s_call M9 H wn rfl (Pz _ _ H.ro L _ hx16 (by omega)) rfl ?_;clear H;rintro v23 _ a w ⟨rfl,rfl⟩ - H;refine kH H (Rm rfl ?_);clear H;intro a H;(iterate 2 refine jN H wn rfl rfl rfl ?_;clear H;intro a H);refine kH H (Ra rfl (ak K7 rfl (SR fun _ K8=>Rf jK rfl (Rg aH rfl (aM kV hb1) (Rc rfl (Rm rfl (Sp 29 rfl ?_ ?_))))))) <;> clear H K7
  · intro iD a H
    try have p29:=dT iD
    refine kH H (aS iD rfl (aS iD rfl (Pt iD rfl (Kz K8 (Ct rfl rfl (SR fun _ K9=>Ra rfl (Ra rfl (ak K9 rfl ?_))))))));clear H K8 K9;intro a H;refine cB ?_;refine (eB H results22 (.cons (aR H rfl) (.cons (aR H rfl) (.cons (aR H rfl) .nil))) ?_).1
    first
      | (have hE:kF l f t=2:=by unfold kF;rw [hL];dsimp only;rw [au (by omega)]
         exact H.rt ⟨_,_,by rw [hE],by rw [wQ (by rw [hE];decide)];exact BQ _,by rw [wQ (by rw [hE];decide)];exact BQ _⟩)
      | exact H.rt ⟨_,_,by rw [hE],by unfold vU;rw [au hE];exact Dt,by unfold vU;rw [au hE];exact Du⟩
  intro iD a H
  try have p29:=dF iD
  refine kH H (YF jK iD rfl (YR aH iD rfl (aM kV hb1) (YM iD rfl (YC iD rfl (Pf iD rfl (Kz K8 (Cd rfl ?_ ?_))))))) <;> clear H K8
  · intro fF a H
    try have p34:=dT fF
    refine kP H (SR fun _ aT=>Ra rfl (Ra rfl (ak aT rfl ?_)));clear H aT;intro a H;refine cB ?_;refine (eB H results22 (.cons (aR H rfl) (.cons (aR H rfl) (.cons (aR H rfl) .nil))) ?_).1
    first
      | (have hE:kF l f t=2:=by unfold kF;rw [hL];dsimp only;rw [au (by omega)]
         exact H.rt ⟨_,_,by rw [hE],by rw [wQ (by rw [hE];decide)];exact BQ _,by rw [wQ (by rw [hE];decide)];exact BQ _⟩)
      | exact H.rt ⟨_,_,by rw [hE],by unfold vU;rw [au hE];exact Dt,by unfold vU;rw [au hE];exact Du⟩
  intro fF a H
  try have p34:=dF fF
  have hE:kF l f t=0:=by unfold kF;rw [hL];dsimp only;rw [ah (by omega)]
  refine fT ?_;refine K6 _ _ ?_;clear K6;refine dH (fun _ bC=>?_);refine qd H wn rfl rfl ?_;clear H;intro a H;refine kH H (ak bC rfl (SQ fun _ bJ=>?_));clear H bC;intro a H
  have Ap:∀ (bH:Nat) (v:aj) (G G':GH),(∀ k o,G k=some o→G' k=some o)→(fun (bH:Nat) (v:aj) (G:GH)=>match bH with|0=>v=.func (.func 45) #[] #[(aJ b3 0)]|1=>v=.agg D.cells.toArray|2=>av G (.sl 6 ((jq (dB 0 0 l) 1).map fP.dat)) v|3=>av G (.sl 1 ((kM (jq (dB 0 0 l) 1) f t).map oo)) v|4=>v=.func (.func 45) #[] #[(aJ b3 0)]|5=>v=.agg D.cells.toArray|6=>av G (.sl 6 ((jq (dB 0 0 l) 3).map fP.dat)) v|7=>av G (.sl 1 ((kM (jq (dB 0 0 l) 3) f t).map oo)) v|_=>True) bH v G→(fun (bH:Nat) (v:aj) (G:GH)=>match bH with|0=>v=.func (.func 45) #[] #[(aJ b3 0)]|1=>v=.agg D.cells.toArray|2=>av G (.sl 6 ((jq (dB 0 0 l) 1).map fP.dat)) v|3=>av G (.sl 1 ((kM (jq (dB 0 0 l) 1) f t).map oo)) v|4=>v=.func (.func 45) #[] #[(aJ b3 0)]|5=>v=.agg D.cells.toArray|6=>av G (.sl 6 ((jq (dB 0 0 l) 3).map fP.dat)) v|7=>av G (.sl 1 ((kM (jq (dB 0 0 l) 3) f t).map oo)) v|_=>True) bH v G':=by
    intro bH v G G' hm h
    match bH,h with
    | 0,h=>exact h
    | 1,h=>exact h
    | 2,h=>exact av.mono hm h
    | 3,h=>exact av.mono hm h
    | 4,h=>exact h
    | 5,h=>exact h
    | 6,h=>exact av.mono hm h
    | 7,h=>exact av.mono hm h
    | 8,h=>exact trivial
    | 9,h=>exact trivial
    | 10,h=>exact trivial
    | _+11,h=>exact trivial
  refine yJ (hmx) [[],[],[1],[0,1,2],[],[],[0,1,2,3,5],(ra 0 7),(ra 0 8),(ra 0 9),(ra 0 10)] [8,9,10] (by kernel_rfl) (by kernel_rfl) (fun (bH:Nat) (v:aj) (G:GH)=>match bH with|0=>v=.func (.func 45) #[] #[(aJ b3 0)]|1=>v=.agg D.cells.toArray|2=>av G (.sl 6 ((jq (dB 0 0 l) 1).map fP.dat)) v|3=>av G (.sl 1 ((kM (jq (dB 0 0 l) 1) f t).map oo)) v|4=>v=.func (.func 45) #[] #[(aJ b3 0)]|5=>v=.agg D.cells.toArray|6=>av G (.sl 6 ((jq (dB 0 0 l) 3).map fP.dat)) v|7=>av G (.sl 1 ((kM (jq (dB 0 0 l) 3) f t).map oo)) v|_=>True) Ap H ?_ ?_
  · clear H;refine aG ?_ ?_ ?_ ?_ (aG ?_ ?_ ?_ ?_ (aU (bN rfl) (aU (bN rfl) (aU (bN rfl) bZ))))
    · refine bW [] rfl trivial (by kernel_rfl) Ap rfl rfl ?_;intro bg a w G1 hG HT H fin;exact kH H (Rm rfl fun _ H=>fin H iJ rfl)
    · refine bW [] rfl trivial (by kernel_rfl) Ap rfl rfl ?_;intro bg a w G1 hG HT H fin;refine bK rz (cs:=D.cells) H wn rfl rfl (fun j v hj=>H.hp.aL (aM hG (aM kV (hga j v hj)))) rfl ?_;clear H;intro a H;exact fin H iJ rfl
    · refine bW [(1,37,_)] rfl ⟨fun _ _ h=>h,aD⟩ (by kernel_rfl) Ap rfl rfl ?_;intro bg a w G1 hG HT H fin;refine s_call M6 H wn rfl (MB _ _ H.ro D l (hv.mono hG) hok hz) rfl ?_;clear H;rintro v38 I8 a w Kj N7 H;exact fin H N7 (Kj)
    · intro bg a w G1 _ bE hc hG HT hv;have H:=HT;clear bE;have H:=H.aQ (hv 0 36 (hc 0 (by decide)) rfl) rfl;obtain ⟨u38,agV,Kj⟩:=hv 2 38 (hc 2 (by decide)) rfl;(try dsimp only at Kj);have H:=H.iY agV;have Hb:=H.full;have H:=Hb;clear hc;refine oq H wn rfl rfl (Sy hb0 hb1 _ _ (fun b o h=>hG b o (kV b o h)) H.ro _ _ Kj (by omega)) rfl ?_;clear H;rintro v39 LW a w Dt afl H;refine aI ⟨rfl,?_⟩;exact iP (by kernel_rfl) Ap rfl rfl HT Hb hG hv afl (Dt) H
    · refine bW [] rfl trivial (by kernel_rfl) Ap rfl rfl ?_;intro bg a w G1 hG HT H fin;exact kH H (Rm rfl fun _ H=>fin H iJ rfl)
    · refine bW [] rfl trivial (by kernel_rfl) Ap rfl rfl ?_;intro bg a w G1 hG HT H fin;refine bK rz (cs:=D.cells) H wn rfl rfl (fun j v hj=>H.hp.aL (aM hG (aM kV (hga j v hj)))) rfl ?_;clear H;intro a H;exact fin H iJ rfl
    · refine bW [(5,41,_)] rfl ⟨fun _ _ h=>h,aD⟩ (by kernel_rfl) Ap rfl rfl ?_;intro bg a w G1 hG HT H fin;refine s_call adi H wn rfl (abF _ _ H.ro D l (hv.mono hG) hok hz) rfl ?_;clear H;rintro v42 I9 a w Kk Di H;exact fin H Di (Kk)
    intro bg a w G1 _ bE hc hG HT hv;have H:=HT;clear bE;have H:=H.aQ (hv 4 40 (hc 4 (by decide)) rfl) rfl;obtain ⟨u42,agX,Kk⟩:=hv 6 42 (hc 6 (by decide)) rfl;(try dsimp only at Kk);have H:=H.iY agX;have Hb:=H.full;have H:=Hb;clear hc;refine oq H wn rfl rfl (Sy hb0 hb1 _ _ (fun b o h=>hG b o (kV b o h)) H.ro _ _ Kk (by omega)) rfl ?_;clear H;rintro v43 FY a w Du afn H;refine aI ⟨rfl,?_⟩;exact iP (by kernel_rfl) Ap rfl rfl HT Hb hG hv afn (Du) H
  clear H;intro a w G qQ H hv;obtain ⟨u39,agW,Dt⟩:=hv 3 39 (by decide) rfl;(try dsimp only at Dt);obtain ⟨Zj,n39,c39,rfl⟩:=Dt.form;have H:=H.iY agW;obtain ⟨u43,agY,Du⟩:=hv 7 43 (by decide) rfl;(try dsimp only at Du);obtain ⟨IV,n43,Jt,rfl⟩:=Du.form;have H:=H.iY agY;clear hv;refine kH H (Ra rfl (Ra rfl (Ra rfl ?_)));clear H;intro a H;refine aI ⟨rfl,?_⟩;refine bJ _ _ ?_;clear bJ;refine cB ?_;refine (eB H results22 (.cons (aR H rfl) (.cons (aR H rfl) (.cons (aR H rfl) .nil))) ?_).1
  first
    | (have hE:kF l f t=2:=by unfold kF;rw [hL];dsimp only;rw [au (by omega)]
       exact H.rt ⟨_,_,by rw [hE],by rw [wQ (by rw [hE];decide)];exact BQ _,by rw [wQ (by rw [hE];decide)];exact BQ _⟩)
    | exact H.rt ⟨_,_,by rw [hE],by unfold vU;rw [au hE];exact Dt,by unfold vU;rw [au hE];exact Du⟩
end
section
open Go.RowKit
theorem ahl (A:List fP) (f t:Int) (k:Nat):kM A f t=kM (A.take k) f t++kM (A.drop k) f t:=by
 unfold kM
 rw [← lG,← List.filter_append,List.take_append_drop]
theorem ahk {A:List fP} {f t:Int} {k:Nat} (hk:k < A.length) (h:A[k].ff=f∧A[k].fa≤t∧t≤A[k].ta):(kM A f t)[(kM (A.take k) f t).length]?=some A[k].id:=by
 rw [ahl A f t (k+1),Pj hk h,nW,vT (bV _),Nat.sub_self]
 rfl
set_option maxHeartbeats 2000000 in
theorem YZ (G:GH) (w0:World) (hG:Hold G w0) (A:List fP) (f t:Int) (v u:aj) (hv:av G (.sl 6 (A.map fP.dat)) v) (hu:av G (.sl 1 ((kM A f t).map oo)) u) (hl:A.length≤1073741824) :
  Calls prog 25 #[v,.agg #[vi f,vi t],u] w0 (bF w0 G fun r G'=>r=.bool true):=by
 obtain ⟨vA,n,cc,rfl⟩:=hv.form;have hn:=hv.len;rw [bU] at hn;subst hn;obtain ⟨uA,m,uc,rfl⟩:=hu.form;have hm:=hu.len;rw [bU] at hm;have hml:=V9 A f t;refine eN [(0,_),(1,_),(2,_)] func25 rfl ntmps25 rfl rfl hG ?_;intro a H;refine dH (fun _ K1=>?_);refine fq (cs:=[_,_]) H wn rfl rfl rfl ?_;clear H;intro b4 a w hb4 H;refine kH H (ak K1 rfl (SQ fun _ K2=>?_));clear H K1;intro a H;obtain ⟨Ga,hma,uo,H⟩:=H.dS
 have hb0:aL Ga b4 0=some (vi f):=by unfold aL;rw [uo];rfl
 have hb1:aL Ga b4 1=some (vi t):=by unfold aL;rw [uo];rfl
 replace hv:=hv.mono hma;replace hu:=hu.mono hma;refine kP H (SC (aV K2 rfl (SQ fun _ K3=>SR fun _ K4=>ak K4 rfl (SB ?_))));clear H K2 K4;intro a H;skip;refine eU (ι:=Nat × Nat × GH) (Tc:=[(0,_),(2,_),(4,_)]) (Lc:=[]) (fun gh=>[(7,vi gh.2.1),(8,vi gh.1)]) (fun gh=>[]) (fun gh=>gh.2.2) (fun gh=>gh.1≤A.length∧gh.2.1=(kM (A.take gh.1) f t).length∧(∀ b o,Ga b=some o→gh.2.2 b=some o)) (fun gh=>A.length - gh.1) ((0,0,Ga)) (by exact (H).sub ⟨rfl,rfl,rfl,rfl,rfl,aD⟩) ?_ ?_
 ·exact ⟨ig _,rfl,fun _ _ h=>h⟩
 clear H;intro gh a w hI H;obtain ⟨k,n,g⟩:=gh;dsimp only at hI H;obtain ⟨hk,hn,hgm⟩:=hI;dsimp only [lca,bD] at H;refine kP H (SQ fun _ K5=>SR fun _ K6=>Rm rfl (Rm rfl (Rl nQ rfl (Rc rfl (Kz K6 (Cd rfl ?_ ?_)))))) <;> clear H K6
 ·intro h12 a H
  try have pX:=dT h12
  have hk2:k < A.length:=by omega
  obtain ⟨b,o,rfl,hrow⟩:=Ir (hv.mono hgm) hk2;refine kP H (Kc K5 (SQ fun _ K7=>SB (SQ fun _ K8=>SQ fun _ K9=>?_)));clear H K5;intro a H
  by_cases c0:¬ A[k].ff=f
  ·skip;refine dI hmx [[],[],[0,1],[0,1,2],(ra 0 4),(ra 0 5),[],[6],(ra 0 8),(ra 0 9),(ra 0 10),(ra 0 11),(ra 0 10),(ra 0 10),(ra 0 10++[12,13]),(ra 0 10++[12,13,14]),(ra 0 10++ra 12 4),(ra 0 10++ra 12 5),(ra 0 18),(ra 0 19),(ra 0 20),(ra 0 21),(ra 0 22),(ra 0 21),(ra 0 21),(ra 0 21++[23,24]),(ra 0 21++[23,24,25]),(ra 0 21++ra 23 4),(ra 0 21++ra 23 5),(ra 0 29),(ra 0 30)] [] (by kernel_rfl) [_,_,_,_,_,_,_,_,_,_,undef,undef,undef,undef,undef,undef,undef,undef,undef,_,_,undef,undef,undef,undef,undef,undef,undef,undef,undef,_] H (aG (Z0 rfl (Rm rfl)) (Z0 rfl (Rm rfl)) (Z2 0 15 1 16 rfl (Ri nQ jr rfl rfl)) (Z1 2 17 rfl (Rf pQ rfl)) (aG (Z1 3 18 rfl (Rf pO rfl)) (X1 4 19 rfl fun hG=>Rg aH rfl (aM hG (hrow 2 _ rfl))) (Z0 rfl (Rf pO rfl)) (X1 6 21 rfl fun hG=>Rg aH rfl (aM hG (aM hgm hb0))) (aG (Z2 5 20 7 22 rfl (Rc rfl)) (Z1 8 23 rfl (Rm rfl)) (aN (j:=9) (by kernel_rfl) (fun _ _ _ _ _ h=>h) rfl rfl rfl rfl rfl (fun _ _ h=>aO h (aB (aC c0))) rfl (fun _=>rfl)) (aN (j:=9) (by kernel_rfl) (fun _ _ _ _ _ h=>h) rfl rfl rfl rfl rfl (fun _ _ h=>aO h (aB (aC c0))) rfl (fun _=>rfl)) (aG (aN (j:=9) (by kernel_rfl) (fun _ _ _ _ _ h=>h) rfl rfl rfl rfl rfl (fun _ _ h=>aO h (aB (aC c0))) rfl (fun _=>rfl)) (aN (j:=9) (by kernel_rfl) (fun _ _ _ _ _ h=>h) rfl rfl rfl rfl rfl (fun _ _ h=>aO h (aB (aC c0))) rfl (fun _=>rfl)) (aN (j:=9) (by kernel_rfl) (fun _ _ _ _ _ h=>h) rfl rfl rfl rfl rfl (fun _ _ h=>aO h (aB (aC c0))) rfl (fun _=>rfl)) (aN (j:=9) (by kernel_rfl) (fun _ _ _ _ _ h=>h) rfl rfl rfl rfl rfl (fun _ _ h=>aO h (aB (aC c0))) rfl (fun _=>rfl)) (aG (aN (j:=9) (by kernel_rfl) (fun _ _ _ _ _ h=>h) rfl rfl rfl rfl rfl (fun _ _ h=>aO h (aB (aC c0))) rfl (fun _=>rfl)) (aN (j:=9) (by kernel_rfl) (fun _ _ _ _ _ h=>h) rfl rfl rfl rfl rfl (fun _ _ h=>aO h (aB (aC c0))) rfl (fun _=>rfl)) (aN (j:=9) (by kernel_rfl) (fun _ _ _ _ _ h=>h) rfl rfl rfl rfl rfl (fun _ _ h=>aO h (aB (aC c0))) rfl (fun _=>rfl)) (Z2 9 24 18 33 rfl (Pt (aC c0) rfl)) (aG (Z1 19 34 rfl (Rm rfl)) (aN (j:=20) (by kernel_rfl) (fun _ _ _ _ _ h=>h) rfl rfl rfl rfl rfl (fun _ _ h=>aO h (aB rfl)) rfl (fun _=>rfl)) (aN (j:=20) (by kernel_rfl) (fun _ _ _ _ _ h=>h) rfl rfl rfl rfl rfl (fun _ _ h=>aO h (aB rfl)) rfl (fun _=>rfl)) (aN (j:=20) (by kernel_rfl) (fun _ _ _ _ _ h=>h) rfl rfl rfl rfl rfl (fun _ _ h=>aO h (aB rfl)) rfl (fun _=>rfl)) (aG (aN (j:=20) (by kernel_rfl) (fun _ _ _ _ _ h=>h) rfl rfl rfl rfl rfl (fun _ _ h=>aO h (aB rfl)) rfl (fun _=>rfl)) (aN (j:=20) (by kernel_rfl) (fun _ _ _ _ _ h=>h) rfl rfl rfl rfl rfl (fun _ _ h=>aO h (aB rfl)) rfl (fun _=>rfl)) (aN (j:=20) (by kernel_rfl) (fun _ _ _ _ _ h=>h) rfl rfl rfl rfl rfl (fun _ _ h=>aO h (aB rfl)) rfl (fun _=>rfl)) (aN (j:=20) (by kernel_rfl) (fun _ _ _ _ _ h=>h) rfl rfl rfl rfl rfl (fun _ _ h=>aO h (aB rfl)) rfl (fun _=>rfl)) (aU (aN (j:=20) (by kernel_rfl) (fun _ _ _ _ _ h=>h) rfl rfl rfl rfl rfl (fun _ _ h=>aO h (aB rfl)) rfl (fun _=>rfl)) (aU (aN (j:=20) (by kernel_rfl) (fun _ _ _ _ _ h=>h) rfl rfl rfl rfl rfl (fun _ _ h=>aO h (aB rfl)) rfl (fun _=>rfl)) (aU (Z2 20 35 29 44 rfl (Pt rfl rfl)) bZ)))))))))) ?_
   clear H;intro a w G lM H hv;have H:=H.aQ (hv 30 45 rfl rfl) rfl;clear hv;refine aI ⟨rfl,?_⟩;refine K9 _ _ ?_;clear K9;refine qL H rfl rfl ?_;refine dQ ?_;refine K7 _ _ ?_;clear K7;refine kP H (SC (Rm rfl (Rd rfl (Ra rfl ?_))));clear H;intro a H;refine aI ?_;refine cK ((k+1,n,_)) (by exact (H).sub ⟨rfl,rfl,rfl,rfl,rfl,aD⟩) ?_ ?_
   ·(try dsimp only);exact ⟨by omega,by rw [Fb hk2 (by rintro ⟨e1,e2,e3⟩;first|exact c0 e1|omega)];exact hn,fun b o h=>lM b o (hgm b o h)⟩
   first|omega|(dsimp only;omega)
  skip
  by_cases c1:t < A[k].fa
  ·skip;refine dI hmx [[],[],[0,1],[0,1,2],(ra 0 4),(ra 0 5),[],[6],(ra 0 8),(ra 0 9),(ra 0 10),(ra 0 11),(ra 0 10),(ra 0 10),(ra 0 10++[12,13]),(ra 0 10++[12,13,14]),(ra 0 10++ra 12 4),(ra 0 10++ra 12 5),(ra 0 18),(ra 0 19),(ra 0 20),(ra 0 21),(ra 0 22),(ra 0 21),(ra 0 21),(ra 0 21++[23,24]),(ra 0 21++[23,24,25]),(ra 0 21++ra 23 4),(ra 0 21++ra 23 5),(ra 0 29),(ra 0 30)] [] (by kernel_rfl) [_,_,_,_,_,_,_,_,_,_,_,_,_,_,_,_,_,_,_,_,_,undef,undef,undef,undef,undef,undef,undef,undef,undef,_] H (aG (Z0 rfl (Rm rfl)) (Z0 rfl (Rm rfl)) (Z2 0 15 1 16 rfl (Ri nQ jr rfl rfl)) (Z1 2 17 rfl (Rf pQ rfl)) (aG (Z1 3 18 rfl (Rf pO rfl)) (X1 4 19 rfl fun hG=>Rg aH rfl (aM hG (hrow 2 _ rfl))) (Z0 rfl (Rf pO rfl)) (X1 6 21 rfl fun hG=>Rg aH rfl (aM hG (aM hgm hb0))) (aG (Z2 5 20 7 22 rfl (Rc rfl)) (Z1 8 23 rfl (Rm rfl)) (Z1 9 24 rfl (YF jK (aK c0) rfl)) (X2 10 25 9 24 rfl fun hG=>YR aH (aK c0) rfl (aM hG (aM hgm hb1))) (aG (Z1 9 24 rfl (YM (aK c0) rfl)) (Z1 9 24 rfl (YM (aK c0) rfl)) (Z3 12 27 13 28 9 24 rfl (YI nQ jr (aK c0) rfl rfl)) (Z2 14 29 9 24 rfl (YF pQ (aK c0) rfl)) (aG (Z2 15 30 9 24 rfl (YF jK (aK c0) rfl)) (X2 16 31 9 24 rfl fun hG=>YR aH (aK c0) rfl (aM hG (hrow 3 _ rfl))) (Z3 11 26 17 32 9 24 rfl (YC (aK c0) rfl)) (Z2 9 24 18 33 rfl (Pf (aK c0) rfl)) (aG (Z1 19 34 rfl (Rm rfl)) (aN (j:=20) (by kernel_rfl) (fun _ _ _ _ _ h=>h) rfl rfl rfl rfl rfl (fun _ _ h=>aO h (aB (aC c1))) rfl (fun _=>rfl)) (aN (j:=20) (by kernel_rfl) (fun _ _ _ _ _ h=>h) rfl rfl rfl rfl rfl (fun _ _ h=>aO h (aB (aC c1))) rfl (fun _=>rfl)) (aN (j:=20) (by kernel_rfl) (fun _ _ _ _ _ h=>h) rfl rfl rfl rfl rfl (fun _ _ h=>aO h (aB (aC c1))) rfl (fun _=>rfl)) (aG (aN (j:=20) (by kernel_rfl) (fun _ _ _ _ _ h=>h) rfl rfl rfl rfl rfl (fun _ _ h=>aO h (aB (aC c1))) rfl (fun _=>rfl)) (aN (j:=20) (by kernel_rfl) (fun _ _ _ _ _ h=>h) rfl rfl rfl rfl rfl (fun _ _ h=>aO h (aB (aC c1))) rfl (fun _=>rfl)) (aN (j:=20) (by kernel_rfl) (fun _ _ _ _ _ h=>h) rfl rfl rfl rfl rfl (fun _ _ h=>aO h (aB (aC c1))) rfl (fun _=>rfl)) (aN (j:=20) (by kernel_rfl) (fun _ _ _ _ _ h=>h) rfl rfl rfl rfl rfl (fun _ _ h=>aO h (aB (aC c1))) rfl (fun _=>rfl)) (aU (aN (j:=20) (by kernel_rfl) (fun _ _ _ _ _ h=>h) rfl rfl rfl rfl rfl (fun _ _ h=>aO h (aB (aC c1))) rfl (fun _=>rfl)) (aU (aN (j:=20) (by kernel_rfl) (fun _ _ _ _ _ h=>h) rfl rfl rfl rfl rfl (fun _ _ h=>aO h (aB (aC c1))) rfl (fun _=>rfl)) (aU (Z2 20 35 29 44 rfl (Pt (aC c1) rfl)) bZ)))))))))) ?_
   clear H;intro a w G lM H hv;have H:=H.aQ (hv 30 45 rfl rfl) rfl;clear hv;refine aI ⟨rfl,?_⟩;refine K9 _ _ ?_;clear K9;refine qL H rfl rfl ?_;refine dQ ?_;refine K7 _ _ ?_;clear K7;refine kP H (SC (Rm rfl (Rd rfl (Ra rfl ?_))));clear H;intro a H;refine aI ?_;refine cK ((k+1,n,_)) (by exact (H).sub ⟨rfl,rfl,rfl,rfl,rfl,aD⟩) ?_ ?_
   ·(try dsimp only);exact ⟨by omega,by rw [Fb hk2 (by rintro ⟨e1,e2,e3⟩;first|exact c0 e1|omega)];exact hn,fun b o h=>lM b o (hgm b o h)⟩
   first|omega|(dsimp only;omega)
  skip
  by_cases c2:A[k].ta < t
  ·skip;refine dI hmx [[],[],[0,1],[0,1,2],(ra 0 4),(ra 0 5),[],[6],(ra 0 8),(ra 0 9),(ra 0 10),(ra 0 11),(ra 0 10),(ra 0 10),(ra 0 10++[12,13]),(ra 0 10++[12,13,14]),(ra 0 10++ra 12 4),(ra 0 10++ra 12 5),(ra 0 18),(ra 0 19),(ra 0 20),(ra 0 21),(ra 0 22),(ra 0 21),(ra 0 21),(ra 0 21++[23,24]),(ra 0 21++[23,24,25]),(ra 0 21++ra 23 4),(ra 0 21++ra 23 5),(ra 0 29),(ra 0 30)] [] (by kernel_rfl) [_,_,_,_,_,_,_,_,_,_,_,_,_,_,_,_,_,_,_,_,_,_,_,_,_,_,_,_,_,_,_] H (aG (Z0 rfl (Rm rfl)) (Z0 rfl (Rm rfl)) (Z2 0 15 1 16 rfl (Ri nQ jr rfl rfl)) (Z1 2 17 rfl (Rf pQ rfl)) (aG (Z1 3 18 rfl (Rf pO rfl)) (X1 4 19 rfl fun hG=>Rg aH rfl (aM hG (hrow 2 _ rfl))) (Z0 rfl (Rf pO rfl)) (X1 6 21 rfl fun hG=>Rg aH rfl (aM hG (aM hgm hb0))) (aG (Z2 5 20 7 22 rfl (Rc rfl)) (Z1 8 23 rfl (Rm rfl)) (Z1 9 24 rfl (YF jK (aK c0) rfl)) (X2 10 25 9 24 rfl fun hG=>YR aH (aK c0) rfl (aM hG (aM hgm hb1))) (aG (Z1 9 24 rfl (YM (aK c0) rfl)) (Z1 9 24 rfl (YM (aK c0) rfl)) (Z3 12 27 13 28 9 24 rfl (YI nQ jr (aK c0) rfl rfl)) (Z2 14 29 9 24 rfl (YF pQ (aK c0) rfl)) (aG (Z2 15 30 9 24 rfl (YF jK (aK c0) rfl)) (X2 16 31 9 24 rfl fun hG=>YR aH (aK c0) rfl (aM hG (hrow 3 _ rfl))) (Z3 11 26 17 32 9 24 rfl (YC (aK c0) rfl)) (Z2 9 24 18 33 rfl (Pf (aK c0) rfl)) (aG (Z1 19 34 rfl (Rm rfl)) (Z1 20 35 rfl (YF jK (aK c1) rfl)) (X2 21 36 20 35 rfl fun hG=>YR aH (aK c1) rfl (aM hG (aM hgm hb1))) (Z1 20 35 rfl (YM (aK c1) rfl)) (aG (Z1 20 35 rfl (YM (aK c1) rfl)) (Z3 23 38 24 39 20 35 rfl (YI nQ jr (aK c1) rfl rfl)) (Z2 25 40 20 35 rfl (YF Aa (aK c1) rfl)) (Z2 26 41 20 35 rfl (YF jK (aK c1) rfl)) (aU (X2 27 42 20 35 rfl fun hG=>YR aH (aK c1) rfl (aM hG (hrow 5 _ rfl))) (aU (Z3 22 37 28 43 20 35 rfl (YC (aK c1) rfl)) (aU (Z2 20 35 29 44 rfl (Pf (aK c1) rfl)) bZ)))))))))) ?_
   clear H;intro a w G lM H hv;have H:=H.aQ (hv 30 45 rfl rfl) rfl;clear hv;refine aI ⟨rfl,?_⟩;refine K9 _ _ ?_;clear K9;refine qL H rfl (aC c2) ?_;refine dQ ?_;refine K7 _ _ ?_;clear K7;refine kP H (SC (Rm rfl (Rd rfl (Ra rfl ?_))));clear H;intro a H;refine aI ?_;refine cK ((k+1,n,_)) (by exact (H).sub ⟨rfl,rfl,rfl,rfl,rfl,aD⟩) ?_ ?_
   ·(try dsimp only);exact ⟨by omega,by rw [Fb hk2 (by rintro ⟨e1,e2,e3⟩;first|exact c0 e1|omega)];exact hn,fun b o h=>lM b o (hgm b o h)⟩
   first|omega|(dsimp only;omega)
  skip;refine dI hmx [[],[],[0,1],[0,1,2],(ra 0 4),(ra 0 5),[],[6],(ra 0 8),(ra 0 9),(ra 0 10),(ra 0 11),(ra 0 10),(ra 0 10),(ra 0 10++[12,13]),(ra 0 10++[12,13,14]),(ra 0 10++ra 12 4),(ra 0 10++ra 12 5),(ra 0 18),(ra 0 19),(ra 0 20),(ra 0 21),(ra 0 22),(ra 0 21),(ra 0 21),(ra 0 21++[23,24]),(ra 0 21++[23,24,25]),(ra 0 21++ra 23 4),(ra 0 21++ra 23 5),(ra 0 29),(ra 0 30)] [] (by kernel_rfl) [_,_,_,_,_,_,_,_,_,_,_,_,_,_,_,_,_,_,_,_,_,_,_,_,_,_,_,_,_,_,_] H (aG (Z0 rfl (Rm rfl)) (Z0 rfl (Rm rfl)) (Z2 0 15 1 16 rfl (Ri nQ jr rfl rfl)) (Z1 2 17 rfl (Rf pQ rfl)) (aG (Z1 3 18 rfl (Rf pO rfl)) (X1 4 19 rfl fun hG=>Rg aH rfl (aM hG (hrow 2 _ rfl))) (Z0 rfl (Rf pO rfl)) (X1 6 21 rfl fun hG=>Rg aH rfl (aM hG (aM hgm hb0))) (aG (Z2 5 20 7 22 rfl (Rc rfl)) (Z1 8 23 rfl (Rm rfl)) (Z1 9 24 rfl (YF jK (aK c0) rfl)) (X2 10 25 9 24 rfl fun hG=>YR aH (aK c0) rfl (aM hG (aM hgm hb1))) (aG (Z1 9 24 rfl (YM (aK c0) rfl)) (Z1 9 24 rfl (YM (aK c0) rfl)) (Z3 12 27 13 28 9 24 rfl (YI nQ jr (aK c0) rfl rfl)) (Z2 14 29 9 24 rfl (YF pQ (aK c0) rfl)) (aG (Z2 15 30 9 24 rfl (YF jK (aK c0) rfl)) (X2 16 31 9 24 rfl fun hG=>YR aH (aK c0) rfl (aM hG (hrow 3 _ rfl))) (Z3 11 26 17 32 9 24 rfl (YC (aK c0) rfl)) (Z2 9 24 18 33 rfl (Pf (aK c0) rfl)) (aG (Z1 19 34 rfl (Rm rfl)) (Z1 20 35 rfl (YF jK (aK c1) rfl)) (X2 21 36 20 35 rfl fun hG=>YR aH (aK c1) rfl (aM hG (aM hgm hb1))) (Z1 20 35 rfl (YM (aK c1) rfl)) (aG (Z1 20 35 rfl (YM (aK c1) rfl)) (Z3 23 38 24 39 20 35 rfl (YI nQ jr (aK c1) rfl rfl)) (Z2 25 40 20 35 rfl (YF Aa (aK c1) rfl)) (Z2 26 41 20 35 rfl (YF jK (aK c1) rfl)) (aU (X2 27 42 20 35 rfl fun hG=>YR aH (aK c1) rfl (aM hG (hrow 5 _ rfl))) (aU (Z3 22 37 28 43 20 35 rfl (YC (aK c1) rfl)) (aU (Z2 20 35 29 44 rfl (Pf (aK c1) rfl)) bZ)))))))))) ?_
  clear H;intro a w G lM H hv;have H:=H.aQ (hv 30 45 rfl rfl) rfl;clear hv;refine aI ⟨rfl,?_⟩;refine K9 _ _ ?_;clear K9;refine lI H rfl (aK c2) ?_;refine kP H (Kc K8 (SQ fun _ aT=>SQ fun _ bC=>?_));clear H K8;intro a H;have hia:=ahk (f:=f) (t:=t) hk2 ⟨jJ.1 c0,by omega,by omega⟩;rw [← hn] at hia
  have hnm:n < m:=by
   obtain ⟨h,-⟩:=ji.1 hia
   omega
  obtain ⟨b',o',cs,rfl,-,hrow',hr'⟩:=((hu.mono hgm).mono lM).at_ n (oo A[k].id) (by rw [qp,hia];rfl);obtain rfl:=aht hr';refine dI hmx [[],[],[1],[0,1,2],(ra 0 4),(ra 0 5),(ra 0 5),(ra 0 7),(ra 0 8),(ra 0 5),(ra 0 5),[0,1,2,3,4,9,10],[0,1,2,3,4,9,10,11],(ra 0 5++ra 9 4),(ra 0 14),(ra 0 15)] [] (by kernel_rfl) [_,_,_,.bool false,_,.slice (some ⟨b',o',none⟩) m uc,vi n,(aJ b' (o'+n*1)),vi A[k].id,.slice (some ⟨b,o,none⟩) A.length cc,vi k,(aJ b (o+k*6)),(aJ b (o+k*6+0)),vi A[k].id,.bool false,_] H (aG (Z0 rfl (Rm rfl)) (Z0 rfl (Rm rfl)) (Z1 1 47 rfl (Rl kY rfl)) ?_ (aG (Z1 3 49 rfl (Rm rfl)) ?_ ?_ ?_ (aG ?_ ?_ ?_ ?_ (aG ?_ ?_ ?_ (Z2 4 50 14 60 rfl (Pf rfl rfl)) bZ)))) ?_
  ·refine dG 0 46 2 48 rfl rfl fun _ a w G1 hG HT H fin=>?_;refine kH H (Rc rfl ?_);clear H;intro a H;exact fin H iJ (aB (jk (by omega)))
  ·refine dO 4 50 rfl rfl fun _ a w G1 hG HT H fin=>?_;refine vG H (wg H rfl rfl rfl) rfl rfl ?_;clear H;intro a H;exact fin H iJ rfl
  ·refine dO 4 50 rfl rfl fun _ a w G1 hG HT H fin=>?_;refine vG H (wg H rfl rfl rfl) rfl rfl ?_;clear H;intro a H;exact fin H iJ rfl
  ·refine pE 5 51 6 52 4 50 rfl rfl fun _ a w G1 hG HT H fin=>?_;refine zl kY aH _ H (wg H rfl rfl rfl) rfl rfl rfl (by first|assumption|omega) rfl ?_;clear H;intro a H;exact fin H iJ rfl
  ·refine dG 7 53 4 50 rfl rfl fun _ a w G1 hG HT H fin=>?_;refine tF aH H (wg H rfl rfl rfl) rfl (H.hp.aL (aM hG (hrow' 0 _ rfl))) rfl ?_;clear H;intro a H;exact fin H iJ rfl
  ·refine dO 4 50 rfl rfl fun _ a w G1 hG HT H fin=>?_;refine vG H (wg H rfl rfl rfl) rfl rfl ?_;clear H;intro a H;exact fin H iJ rfl
  ·refine dO 4 50 rfl rfl fun _ a w G1 hG HT H fin=>?_;refine vG H (wg H rfl rfl rfl) rfl rfl ?_;clear H;intro a H;exact fin H iJ rfl
  ·refine pE 9 55 10 56 4 50 rfl rfl fun _ a w G1 hG HT H fin=>?_;refine zl nQ jr _ H (wg H rfl rfl rfl) rfl rfl rfl (by first|assumption|omega) rfl ?_;clear H;intro a H;exact fin H iJ rfl
  ·refine dG 11 57 4 50 rfl rfl fun _ a w G1 hG HT H fin=>?_;refine FE UE H (wg H rfl rfl rfl) rfl rfl ?_;clear H;intro a H;exact fin H iJ rfl
  ·refine dG 12 58 4 50 rfl rfl fun _ a w G1 hG HT H fin=>?_;refine tF aH H (wg H rfl rfl rfl) rfl (H.hp.aL (aM hG (aM lM (hrow 0 _ rfl)))) rfl ?_;clear H;intro a H;exact fin H iJ rfl
  ·refine pE 8 54 13 59 4 50 rfl rfl fun _ a w G1 hG HT H fin=>?_;refine FC H (wg H rfl rfl rfl) rfl rfl rfl rfl ?_;clear H;intro a H;exact fin H iJ (aB (jk (fun h=>h rfl)))
  clear H;intro a w G gM H hv;have H:=H.aQ (hv 15 61 rfl rfl) rfl;clear hv;refine aI ⟨rfl,?_⟩;refine bC _ _ ?_;clear bC;refine lI H rfl rfl ?_;refine kP H (Kc aT (SC (Rm rfl (Rd rfl (aV K7 rfl (SC (Rm rfl (Rd rfl (Ra rfl ?_)))))))));clear H aT K7;intro a H;refine aI ?_;refine cK ((k+1,n+1,_)) (by exact (H).sub ⟨rfl,rfl,rfl,rfl,rfl,aD⟩) ?_ ?_
  ·(try dsimp only);exact ⟨by omega,by rw [Pj hk2 ⟨jJ.1 c0,by omega,by omega⟩,lF,hn];rfl,fun b o h=>gM b o (lM b o (hgm b o h))⟩
  first|omega|(dsimp only;omega)
 intro h12 a H
 try have pX:=dF h12
 refine dQ ?_;refine K3 _ _ ?_;clear K3;refine kP H (SR fun _ bJ=>Rm rfl (Rm rfl (Rl kY rfl (Rc rfl (ak bJ rfl ?_)))));clear H bJ;intro a H;refine lr H results25 rfl ?_
 obtain rfl:k=A.length:=by omega
 rw [uP] at hn;exact H.rt (aB (jY (by omega)))
end
section
open Go.RowKit
theorem Na:∀ args w,(callFunc 23 args).run prog w=.ok (.enter 23 args) w:=enters func23 rfl (by kernel_rfl)
mutual
def Ie:ay→List (Int × List ay)
 | .mk k _ i _ _ f r=>(if k=6 then (i,f) :: iy f else [])++(if k=7 then vw r else [])
def iy:List ay→List (Int × List ay)
 | []=>[]
 | x :: l=>Ie x++iy l
def vw:List bP→List (Int × List ay)
 | []=>[]
 | x :: l=>Ig x++vw l
def Ig:bP→List (Int × List ay)
 | .mk _ cs=>Ay cs
def Ay:List bO→List (Int × List ay)
 | []=>[]
 | x :: l=>Ic x++Ay l
def Ic:bO→List (Int × List ay)
 | .mk i _ f=>(i,f) :: iy f
end
theorem ahC {x:ay} (h:vP x):Ie x=(if x.kind=6 then (x.id,x.flow) :: iy x.flow else [])++vw x.rows:=by
 have h0:=h.Io
 cases x with
 | mk k c i tx hd f r =>
  rw [Ie]
  by_cases h7:k=7
  ·rw [au h7];rfl
  show _=(if k=6 then (i,f) :: iy f else [])++vw r
  rw [ah h7,show r=[] from h0 h7,vw]
theorem ahD (x:bP):Ig x=Ay x.cells:=by cases x;rw [Ig];rfl
theorem ahB (x:bO):Ic x=(x.id,x.flow) :: iy x.flow:=by cases x;rw [Ic];rfl
abbrev BN (F:jg):Int × List ay:=(F.id,F.items)
mutual
theorem ahJ (note:Bool) (t:Int):∀ x:ay,(vL note t x).map BN=Ie x
 | .mk k c i tx h fl r=>by
  have hf:=Ky true t fl;have hr:=WB note t r;rw [vL,Ie]
  by_cases h6:k=6
  ·rw [au h6,au h6,ah (by omega),eT,hf,oF]
  rw [ah h6,ah h6]
  by_cases h7:k=7
  ·rw [au h7,au h7,hr,jX]
  rw [ah h7,ah h7];rfl
theorem Ky (note:Bool) (t:Int):∀ l:List ay,(iT note t l).map BN=iy l
 | []=>by rw [iT,iy];rfl
 | x :: l=>by rw [iT,iy,lG,ahJ note t x,Ky note t l]
theorem ahK (note:Bool) (t:Int):∀ x:bP,(vM note t x).map BN=Ig x
 | .mk h cs=>by rw [vM,Ig];exact WA note t cs
theorem WB (note:Bool) (t:Int):∀ l:List bP,(nR note t l).map BN=vw l
 | []=>by rw [nR,vw];rfl
 | x :: l=>by rw [nR,vw,lG,ahK note t x,WB note t l]
theorem ahI (note:Bool) (t:Int):∀ x:bO,(vK note t x).map BN=Ic x
 | .mk i h fl=>by rw [vK,Ic,eT,Ky note (t+1) fl]
theorem WA (note:Bool) (t:Int):∀ l:List bO,(ow note t l).map BN=Ay l
 | []=>by rw [ow,Ay];rfl
 | x :: l=>by rw [ow,Ay,lG,ahI note t x,WA note t l]
end
def fK (L:List (Int × List ay)) (id:Int):Option (List ay):=(L.find? fun p=>decide (p.1=id)).map (·.2)
theorem JG (A B:List (Int × List ay)) (id:Int):fK (A++B) id=(fK A id).or (fK B id):=by
 unfold fK
 rw [List.find?_append]
 cases A.find? fun p=>decide (p.1=id) <;> rfl
theorem JH (id:Int):fK [] id=none:=rfl
theorem aem {i id:Int} (h:i=id) (f:List ay) (L:List (Int × List ay)):fK ((i,f) :: L) id=some f:=by
 unfold fK;rw [List.find?_cons,jY h];rfl
theorem ael {i id:Int} (h:¬ i=id) (f:List ay) (L:List (Int × List ay)):fK ((i,f) :: L) id=fK L id:=by
 unfold fK;rw [List.find?_cons,jk h]
theorem aek (l:List ay) (id:Int):fK ((0,l) :: iy l) id=jc l id:=by
 unfold fK jc
 rw [← Ky false 0 l,show ((0:Int),l) :: (iT false 0 l).map BN=(Bt l).map BN from rfl,List.find?_map,Option.map_map]
 rfl
def Mc (m:Nat):Prop:=∀ (G:GH) (w0:World),Hold G w0→∀ (g id:Int) (l:List ay) (u:aj),av G (.sl 11 (l.map ay.dat)) u→dX l→bq l < m →
 Calls prog 23 #[u,vi g,vi id] w0 (bF w0 G fun r G'=>∃ v,r=.tuple #[v,.bool (fK ((g,l) :: iy l) id).isSome]∧av G' (.sl 11 (((fK ((g,l) :: iy l) id).getD []).map ay.dat)) v)
set_option maxHeartbeats 4000000 in
theorem ain {m:Nat} (ih:Mc m) (hm:m≤1073741824):Mc (m+1):=by
 intro G w0 hG g id l u hu hok hz;obtain ⟨A,c,rfl,hc1,hc2,hgu⟩:=hu.slice;have hu1:=hu;rw [bU] at *;have hll:=zF l;have hml:maxLen=9223372036854775807:=rfl;refine eN [(0,_),(1,_),(2,_)] func23 rfl ntmps23 rfl rfl hG ?_;intro a H;refine kP H (SR fun _ K1=>Ra rfl (ak K1 rfl (SQ fun _ K2=>SR fun _ K3=>Rm rfl (Rm rfl (Rc rfl (Kz K3 (Cd rfl ?_ ?_))))))) <;> clear H K1 K3
 ·intro h18 a H
  try have rV:=dT h18
  refine kP H (SR fun _ K4=>Rm rfl (Ra rfl (ak K4 rfl ?_)));clear H K4;intro a H;refine cB ?_;refine (eB H results23 (.cons (aR H rfl) (.cons (aR H rfl) .nil)) ?_).1;rw [aem (by assumption)];exact H.rt ⟨_,rfl,hu1⟩
 intro h18 a H
 try have rV:=dF h18
 have hg0:¬ g=id:=by assumption
 obtain ⟨K,K0⟩:∃ K,fK ((g,l) :: iy l) id=K:=⟨_,rfl⟩
 have hK:K=fK (iy l) id:=by rw [← K0,ael hg0]
 refine kP H (Kc K2 (SQ fun _ K5=>SR fun _ K6=>ak K6 rfl (SB ?_)));clear H K2 K6;intro a H;skip;refine eU (ι:=Nat × GH) (Tc:=[(0,_),(2,_)]) (Lc:=[]) (fun gh=>[(8,vi gh.1)]) (fun gh=>[]) (fun gh=>gh.2) (fun gh=>gh.1≤l.length∧K=fK (iy (l.drop gh.1)) id∧dX (l.drop gh.1)∧(∀ b o,G b=some o→gh.2 b=some o)) (fun gh=>l.length - gh.1) ((0,G)) (by exact (H).sub ⟨rfl,rfl,rfl,aD⟩) ?_ ?_
 ·exact ⟨ig _,hK,hok,fun _ _ h=>h⟩
 clear H;intro gh a w hI H;obtain ⟨k,g1⟩:=gh;dsimp only at hI H;obtain ⟨hk,hX,hok1,hg1⟩:=hI;dsimp only [lca,bD] at H;refine kP H (SQ fun _ K7=>SR fun _ K8=>Rm rfl (Rm rfl (Rl fU rfl (Rc rfl (Kz K8 (Cd rfl ?_ ?_)))))) <;> clear H K8
 ·intro h23 a H
  try have rW:=dT h23
  have hk2:k < l.length:=by omega
  obtain ⟨b,o,pA,pn,pc,dA,dn,dc,yA,yn,yc,fA,fn,fc,rA,rn,rc,rfl,hrow,hhd,hfl,hrw⟩:=wX hk2 hgu;replace hrow:=fun j u hj=>aM hg1 (hrow j u hj);replace hfl:=hfl.mono hg1;replace hrw:=hrw.mono hg1;have hrn:=hrw.len;rw [bU] at hrn;subst hrn;have hzi:=nU l[k];have DF:=Ei (iM hk2);rw [kS hk2] at hX hok1;obtain ⟨hox,hok2⟩:=hok1.head;rw [iy,ahC hox,nW,JG,JG] at hX;obtain ⟨x,hx⟩:∃ x,x=l[k]:=⟨_,rfl⟩;rw [← hx] at hX hox hrow hhd hfl hrw hzi DF;have hrl:=FT x.rows;have Fu:aL g1 b (o+k*11+10)=some (.slice rA x.rows.length rc):=hrow 10 _ rfl;refine kP H (Kc K7 (SQ fun _ K9=>SB ?_));clear H K7;intro a H;refine qy (ι:=GH) (Tc:=[(0,_),(2,_),(8,_)]) (Lc:=[]) (fun gh=>[]) (fun gh=>[]) (fun gh=>gh) (fun gh=>K=(fK (vw x.rows) id).or (fK (iy (l.drop (k+1))) id)∧(∀ b o,g1 b=some o→gh b=some o)) (by exact (H).sub ⟨rfl,rfl,rfl,aD⟩) ?_ ?_
  ·skip;refine kP H (SR fun _ aT=>Rm rfl (Rm rfl (Ri fU dx rfl rfl (Rf jD rfl (Rg aH rfl (hrow 0 _ rfl) (Rc rfl (Kz aT (Cd rfl ?_ ?_)))))))) <;> clear H aT
   ·intro h31 a H
    try have p31:=dT h31
    refine bG (fun _ bC=>?_)
    have qW:∀ (bH:Nat) (v:aj) (G G':GH),(∀ k o,G k=some o→G' k=some o)→(fun (bH:Nat) (v:aj) (G:GH)=>match bH with|0=>v=.slice (some ⟨b,o,none⟩) l.length c|1=>v=vi k|2=>v=(aJ b (o+k*11))|3=>v=(aJ b (o+k*11+9))|4=>v=.slice fA fn fc|5=>v=.slice (some ⟨b,o,none⟩) l.length c|6=>v=vi k|7=>v=(aJ b (o+k*11))|8=>v=(aJ b (o+k*11+2))|9=>v=vi x.id|10=>v=vi id|11=>∃ y,v=.tuple #[y,.bool (fK ((x.id,x.flow) :: iy x.flow) id).isSome]∧av G (.sl 11 (((fK ((x.id,x.flow) :: iy x.flow) id).getD []).map ay.dat)) y|12=>∃ y,v=.tuple #[y,.bool (fK ((x.id,x.flow) :: iy x.flow) id).isSome]∧av G (.sl 11 (((fK ((x.id,x.flow) :: iy x.flow) id).getD []).map ay.dat)) y|13=>av G (.sl 11 (((fK ((x.id,x.flow) :: iy x.flow) id).getD []).map ay.dat)) v|14=>v=.bool (fK ((x.id,x.flow) :: iy x.flow) id).isSome|15=>av G (.sl 11 (((fK ((x.id,x.flow) :: iy x.flow) id).getD []).map ay.dat)) v|_=>True) bH v G→(fun (bH:Nat) (v:aj) (G:GH)=>match bH with|0=>v=.slice (some ⟨b,o,none⟩) l.length c|1=>v=vi k|2=>v=(aJ b (o+k*11))|3=>v=(aJ b (o+k*11+9))|4=>v=.slice fA fn fc|5=>v=.slice (some ⟨b,o,none⟩) l.length c|6=>v=vi k|7=>v=(aJ b (o+k*11))|8=>v=(aJ b (o+k*11+2))|9=>v=vi x.id|10=>v=vi id|11=>∃ y,v=.tuple #[y,.bool (fK ((x.id,x.flow) :: iy x.flow) id).isSome]∧av G (.sl 11 (((fK ((x.id,x.flow) :: iy x.flow) id).getD []).map ay.dat)) y|12=>∃ y,v=.tuple #[y,.bool (fK ((x.id,x.flow) :: iy x.flow) id).isSome]∧av G (.sl 11 (((fK ((x.id,x.flow) :: iy x.flow) id).getD []).map ay.dat)) y|13=>av G (.sl 11 (((fK ((x.id,x.flow) :: iy x.flow) id).getD []).map ay.dat)) v|14=>v=.bool (fK ((x.id,x.flow) :: iy x.flow) id).isSome|15=>av G (.sl 11 (((fK ((x.id,x.flow) :: iy x.flow) id).getD []).map ay.dat)) v|_=>True) bH v G':=by
     intro bH v G G' hm h
     match bH,h with
     | 0,h=>exact h
     | 1,h=>exact h
     | 2,h=>exact h
     | 3,h=>exact h
     | 4,h=>exact h
     | 5,h=>exact h
     | 6,h=>exact h
     | 7,h=>exact h
     | 8,h=>exact h
     | 9,h=>exact h
     | 10,h=>exact h
     | 11,h=>exact (by obtain ⟨x,h1,h2⟩:=h;exact ⟨x,h1,h2.mono hm⟩)
     | 12,h=>exact (by obtain ⟨x,h1,h2⟩:=h;exact ⟨x,h1,h2.mono hm⟩)
     | 13,h=>exact av.mono hm h
     | 14,h=>exact h
     | 15,h=>exact av.mono hm h
     | 16,h=>exact trivial
     | _+17,h=>exact trivial
    refine yJ (hmx) [[],[],[0,1],[0,1,2],(ra 0 4),[],[],[5,6],[5,6,7],(ra 5 4),[],(ra 0 11),(ra 0 12),(ra 0 13),(ra 0 13),(ra 0 14),(ra 0 16)] [16] (by kernel_rfl) (by kernel_rfl) (fun (bH:Nat) (v:aj) (G:GH)=>match bH with|0=>v=.slice (some ⟨b,o,none⟩) l.length c|1=>v=vi k|2=>v=(aJ b (o+k*11))|3=>v=(aJ b (o+k*11+9))|4=>v=.slice fA fn fc|5=>v=.slice (some ⟨b,o,none⟩) l.length c|6=>v=vi k|7=>v=(aJ b (o+k*11))|8=>v=(aJ b (o+k*11+2))|9=>v=vi x.id|10=>v=vi id|11=>∃ y,v=.tuple #[y,.bool (fK ((x.id,x.flow) :: iy x.flow) id).isSome]∧av G (.sl 11 (((fK ((x.id,x.flow) :: iy x.flow) id).getD []).map ay.dat)) y|12=>∃ y,v=.tuple #[y,.bool (fK ((x.id,x.flow) :: iy x.flow) id).isSome]∧av G (.sl 11 (((fK ((x.id,x.flow) :: iy x.flow) id).getD []).map ay.dat)) y|13=>av G (.sl 11 (((fK ((x.id,x.flow) :: iy x.flow) id).getD []).map ay.dat)) v|14=>v=.bool (fK ((x.id,x.flow) :: iy x.flow) id).isSome|15=>av G (.sl 11 (((fK ((x.id,x.flow) :: iy x.flow) id).getD []).map ay.dat)) v|_=>True) qW H ?_ ?_
    ·clear H;refine aG ?_ ?_ ?_ ?_ (aG ?_ ?_ ?_ ?_ (aG ?_ ?_ ?_ ?_ (aG ?_ ?_ ?_ ?_ (aU (bN rfl) bZ))))
     ·refine bW [] rfl trivial (by kernel_rfl) qW rfl rfl ?_;intro bg a w G1 hG HT H fin;exact kH H (Rm rfl fun _ H=>fin H iJ rfl)
     ·refine bW [] rfl trivial (by kernel_rfl) qW rfl rfl ?_;intro bg a w G1 hG HT H fin;exact kH H (Rm rfl fun _ H=>fin H iJ rfl)
     ·refine bW [(0,33,_),(1,34,_)] rfl ⟨fun _ _ h=>h,fun _ _ h=>h,aD⟩ (by kernel_rfl) qW rfl rfl ?_;intro bg a w G1 hG HT H fin;exact kH H (Ri fU dx rfl rfl fun _ H=>fin H iJ rfl)
     ·refine bW [(2,35,_)] rfl ⟨fun _ _ h=>h,aD⟩ (by kernel_rfl) qW rfl rfl ?_;intro bg a w G1 hG HT H fin;exact kH H (Rf wW rfl fun _ H=>fin H iJ rfl)
     ·refine bW [(3,36,_)] rfl ⟨fun _ _ h=>h,aD⟩ (by kernel_rfl) qW rfl rfl ?_;intro bg a w G1 hG HT H fin;exact kH H (Rg gW rfl (aM hG (hrow 9 _ rfl)) fun _ H=>fin H iJ rfl)
     ·refine bW [] rfl trivial (by kernel_rfl) qW rfl rfl ?_;intro bg a w G1 hG HT H fin;exact kH H (Rm rfl fun _ H=>fin H iJ rfl)
     ·refine bW [] rfl trivial (by kernel_rfl) qW rfl rfl ?_;intro bg a w G1 hG HT H fin;exact kH H (Rm rfl fun _ H=>fin H iJ rfl)
     ·refine bW [(5,38,_),(6,39,_)] rfl ⟨fun _ _ h=>h,fun _ _ h=>h,aD⟩ (by kernel_rfl) qW rfl rfl ?_;intro bg a w G1 hG HT H fin;exact kH H (Ri fU dx rfl rfl fun _ H=>fin H iJ rfl)
     ·refine bW [(7,40,_)] rfl ⟨fun _ _ h=>h,aD⟩ (by kernel_rfl) qW rfl rfl ?_;intro bg a w G1 hG HT H fin;exact kH H (Rf yO rfl fun _ H=>fin H iJ rfl)
     ·refine bW [(8,41,_)] rfl ⟨fun _ _ h=>h,aD⟩ (by kernel_rfl) qW rfl rfl ?_;intro bg a w G1 hG HT H fin;exact kH H (Rg aH rfl (aM hG (hrow 2 _ rfl)) fun _ H=>fin H iJ rfl)
     ·refine bW [] rfl trivial (by kernel_rfl) qW rfl rfl ?_;intro bg a w G1 hG HT H fin;exact kH H (Rm rfl fun _ H=>fin H iJ rfl)
     ·refine bW [(4,37,_),(9,42,_),(10,43,_)] rfl ⟨fun _ _ h=>h,fun _ _ h=>h,fun _ _ h=>h,aD⟩ (by kernel_rfl) qW rfl rfl ?_;intro bg a w G1 hG HT H fin;refine s_call Na H wn rfl (ih _ _ H.ro x.id id x.flow _ (hfl.mono hG) hox.fl (by omega)) rfl ?_;clear H;rintro v44 ZA a w ⟨x44,rfl,Pg⟩ afo H;exact fin H afo (⟨_,rfl,Pg⟩)
     ·intro bg a w G1 _ bE hc hG HT hv;have H:=HT;clear bE;obtain ⟨u44,agZ,VJ⟩:=hv 11 44 (hc 11 (by decide)) rfl;(try dsimp only at VJ);obtain ⟨x44,rfl,Pg⟩:=VJ;have H:=H.iY agZ;have Hb:=H.full;have H:=Hb;clear hc;refine kH H (Rm rfl ?_);clear H;intro a H;refine aI ⟨rfl,?_⟩;exact iP (by kernel_rfl) qW rfl rfl HT Hb hG hv (fun _ _ h=>h) (⟨_,rfl,Pg⟩) H
     ·intro bg a w G1 _ bE hc hG HT hv;have H:=HT;clear bE;obtain ⟨u32,O7,HV⟩:=hv 12 32 (hc 12 (by decide)) rfl;(try dsimp only at HV);obtain ⟨x32,rfl,hx32⟩:=HV;have H:=H.iY O7;have Hb:=H.full;have H:=Hb;clear hc;refine jN H wn rfl rfl rfl ?_;clear H;intro a H;refine aI ⟨rfl,?_⟩;exact iP (by kernel_rfl) qW rfl rfl HT Hb hG hv (fun _ _ h=>h) (hx32) H
     ·intro bg a w G1 _ bE hc hG HT hv;have H:=HT;clear bE;obtain ⟨u32,O7,HV⟩:=hv 12 32 (hc 12 (by decide)) rfl;(try dsimp only at HV);obtain ⟨x32,rfl,hx32⟩:=HV;have H:=H.iY O7;have Hb:=H.full;have H:=Hb;clear hc;refine jN H wn rfl rfl rfl ?_;clear H;intro a H;refine aI ⟨rfl,?_⟩;exact iP (by kernel_rfl) qW rfl rfl HT Hb hG hv (fun _ _ h=>h) (rfl) H
     intro bg a w G1 _ bE hc hG HT hv;have H:=HT;clear bE;obtain ⟨u45,aha,E8⟩:=hv 13 45 (hc 13 (by decide)) rfl;(try dsimp only at E8);have H:=H.iY aha;have Hb:=H.full;have H:=Hb;clear hc;refine kH H (Ra rfl ?_);clear H;intro a H;refine aI ⟨rfl,?_⟩;exact iP (by kernel_rfl) qW rfl rfl HT Hb hG hv (fun _ _ h=>h) (E8) H
    clear H;intro a w G xB H hv;obtain ⟨u9,hu9,OY⟩:=hv 15 9 (by decide) rfl;(try dsimp only at OY);obtain ⟨A9,n9,c9,rfl⟩:=OY.form;have H:=H.iY hu9;have H:=H.aQ (hv 14 46 rfl rfl) rfl;clear hv;refine kH H (Ra rfl ?_);clear H;intro a H;refine aI ⟨rfl,?_⟩;refine bC _ _ ?_;clear bC;refine kP H (SR fun _ bJ=>Rm rfl (Kz bJ (Cd rfl ?_ ?_))) <;> clear H bJ
    ·intro h47 a H
     refine kP H (SR fun _ bT=>Rm rfl (Ra rfl (ak bT rfl ?_)));clear H bT;intro a H;refine cB ?_;refine (eB H results23 (.cons (aR H rfl) (.cons (aR H rfl) .nil)) ?_).1;obtain ⟨L,hL⟩:=Option.isSome_iff_exists.1 h47;rw [au p31,hL,Option.some_or] at hX;have VK:av _ (.sl 11 (((fK ((x.id,x.flow) :: iy x.flow) id).getD []).map ay.dat)) (.slice A9 n9 c9):=OY;rw [hL] at VK;exact H.rt ⟨_,by rw [K0,hX];rfl,by rw [K0,hX];exact VK⟩
    intro h47 a H
    refine fT ?_;refine ⟨_,by exact (H).sub ⟨rfl,rfl,rfl,aD⟩,?_⟩;rw [au p31,show fK ((x.id,x.flow) :: iy x.flow) id=none from Option.not_isSome_iff_eq_none.1 (by simpa using h47),Option.none_or] at hX;exact ⟨hX,xB⟩
   intro h31 a H
   try have p31:=dF h31
   refine fT ?_;refine ⟨g1,by exact (H).sub ⟨rfl,rfl,rfl,aD⟩,?_⟩;rw [ah p31,JH,Option.none_or] at hX;exact ⟨hX,fun _ _ h=>h⟩
  clear H;intro gh a w hI H;obtain ⟨g2,hgh⟩:∃ x,x=gh:=⟨_,rfl⟩;subst hgh;obtain ⟨hX2,hg2⟩:=hI;dsimp only [lca,bD] at H;refine kP H (SR fun _ bS=>ak bS rfl (SB ?_));clear H bS;intro a H;skip;refine eU (ι:=Nat × GH) (Tc:=[(0,_),(2,_),(8,_)]) (Lc:=[]) (fun gh=>[(11,vi gh.1)]) (fun gh=>[]) (fun gh=>gh.2) (fun gh=>gh.1≤x.rows.length∧K=(fK (vw (x.rows.drop gh.1)) id).or (fK (iy (l.drop (k+1))) id)∧(∀ b o,g1 b=some o→gh.2 b=some o)) (fun gh=>x.rows.length - gh.1) ((0,g2)) (by exact (H).sub ⟨rfl,rfl,rfl,rfl,aD⟩) ?_ ?_
  ·exact ⟨ig _,hX2,hg2⟩
  clear H;intro gh a w hI H;obtain ⟨rk,g3⟩:=gh;dsimp only at hI H;obtain ⟨HY,Dj,hg3⟩:=hI;have aja:=aM hg3 Fu;dsimp only [lca,bD] at H;refine kP H (SQ fun _ dD=>SR fun _ dM=>Rm rfl (Rm rfl (Rm rfl (Ri fU dx rfl rfl (Rf oH rfl (Rg oQ rfl aja (Rl lS rfl (Rc rfl (Kz dM (Cd rfl ?_ ?_)))))))))) <;> clear H dM
  ·intro NI a H
   try have p56:=dT NI
   have hk3:rk < x.rows.length:=by omega
   obtain ⟨b2,o2,qA,qn,qc,eA,en,ec,zA,zn,zc,cA,cn,cc,rfl,hrow2,xJ,hcl⟩:=Fx hk3 (hrw.mono hg3).at_;have hcn:=hcl.len;rw [bU] at hcn;subst hcn;have r5:aL g3 b2 (o2+rk*6+5)=some (.slice cA x.rows[rk].cells.length cc):=hrow2 5 _ rfl;have hsz2:=IQ hk3;have hcs:=FR x.rows[rk].cells;have hoc:=hox.rw _ (iM hk3);rw [kS hk3,vw,ahD,JG,Option.or_assoc] at Dj;obtain ⟨y,hy⟩:∃ y,y=x.rows[rk]:=⟨_,rfl⟩;rw [← hy] at r5 Dj hrow2 xJ hcl hsz2 hcs hoc;refine kP H (Kc dD (SQ fun _ cZ=>SB (SR fun _ dW=>ak dW rfl (SB ?_))));clear H dD dW;intro a H;skip;refine eU (ι:=Nat × GH) (Tc:=[(0,_),(2,_),(8,_),(11,_)]) (Lc:=[]) (fun gh=>[(12,vi gh.1)]) (fun gh=>[]) (fun gh=>gh.2) (fun gh=>gh.1≤y.cells.length∧K=(fK (Ay (y.cells.drop gh.1)) id).or ((fK (vw (x.rows.drop (rk+1))) id).or (fK (iy (l.drop (k+1))) id))∧(∀ b o,g1 b=some o→gh.2 b=some o)∧(∀ b o,g3 b=some o→gh.2 b=some o)) (fun gh=>y.cells.length - gh.1) ((0,g3)) (by exact (H).sub ⟨rfl,rfl,rfl,rfl,rfl,aD⟩) ?_ ?_
   ·exact ⟨ig _,Dj,hg3,fun _ _ h=>h⟩
   clear H;intro gh a w hI H;obtain ⟨ck,g4⟩:=gh;dsimp only at hI H;obtain ⟨hck,rO,hg4,OE⟩:=hI;have Xz:=aM hg4 Fu;have Fv:=aM OE r5;dsimp only [lca,bD] at H;refine kP H (SQ fun _ fZ=>SR fun _ eG=>Rm rfl (Rm rfl (Rm rfl (Ri fU dx rfl rfl (Rf oH rfl (Rg oQ rfl Xz (Rm rfl (Ri lS jV rfl rfl (Rf uf rfl (Rg uI rfl Fv (Rl oV rfl (Rc rfl (Kz eG (Cd rfl ?_ ?_)))))))))))))) <;> clear H eG
   ·intro qO a H
    try have p70:=dT qO
    have hk4:ck < y.cells.length:=by omega
    obtain ⟨b3,o3,sA,sn,sc,tA,tn,tc,uA,un,uc,gA,gn,gc,rfl,hrow3,hch,hcf⟩:=EC hk4 (hcl.mono OE).at_;have H7:=IJ hk4;have Dr:=hoc _ (iM hk4);rw [kS hk4,Ay,ahB,JG,Option.or_assoc] at rO;obtain ⟨z,hzy⟩:∃ z,z=y.cells[ck]:=⟨_,rfl⟩;rw [← hzy] at rO hrow3 hch hcf H7 Dr;refine kP H (Kc fZ (SQ fun _ gq=>SB (SR fun _ iB=>Rm rfl (Rm rfl (Ri fU dx rfl rfl (Rf oH rfl (Rg oQ rfl Xz (Rm rfl (Ri lS jV rfl rfl (Rf uf rfl (Rg uI rfl Fv (Rm rfl (Ri oV kN rfl rfl ?_)))))))))))));clear H fZ;intro a H;refine bK kN (cs:=[vi z.id,.slice sA sn sc,vi z.head.marks.ins,vi z.head.marks.move,.slice tA tn tc,.slice uA un uc,.slice gA gn gc]) H wn rfl rfl (fun j v hj=>H.hp.aL (hrow3 j v hj)) rfl ?_;clear H;intro a H;refine eZ kN H wn rfl ?_;clear H;intro b13 a w JZ H;refine bM kN 0 (vs:=[_,_,_,_,_,_,_]) _ H wn rfl rfl rfl rfl rfl rfl rfl rfl ?_;clear H;intro w H;dsimp only [List.set,setRow] at H;refine iB _ _ ?_;clear iB;refine kP H (SR fun _ jv=>aW CZ gW 0 rfl rfl (aW EN aH 0 rfl rfl (Rm rfl ?_)));clear H;intro a H;refine s_call Na H wn rfl (ih _ _ H.ro z.id id z.flow _ hcf Dr (by omega)) rfl ?_;clear H;rintro v91 G91 a w ⟨x91,rfl,hx91⟩ Vv H;obtain ⟨A91,n91,c91,rfl⟩:=hx91.form;refine kH H (Rm rfl ?_);clear H;intro a H;(iterate 2 refine jN H wn rfl rfl rfl ?_;clear H;intro a H);refine kH H (Ra rfl (ak jv rfl (SR fun _ jB=>Rm rfl (Kz jB (Cd rfl ?_ ?_))))) <;> clear H jv jB
    ·intro JU a H
     refine kP H (SR fun _ iX=>Rm rfl (Ra rfl (ak iX rfl ?_)));clear H iX;intro a H;refine cB ?_;refine (eB H results23 (.cons (aR H rfl) (.cons (aR H rfl) .nil)) ?_).1;obtain ⟨L,hL⟩:=Option.isSome_iff_exists.1 JU;rw [hL,Option.some_or] at rO;rw [hL] at hx91;exact H.rt ⟨_,by rw [K0,rO];rfl,by rw [K0,rO];exact hx91⟩
    intro JU a H
    try have p94:=dF JU
    refine kP H (Kc gq (SC (Rm rfl (Rd rfl (Ra rfl ?_)))));clear H gq;intro a H;refine aI ?_;refine cK ((ck+1,_)) (by exact (H.dV (Pl:=[_]) (dz:=[]) [] (by decide) rfl).sub ⟨rfl,rfl,rfl,rfl,rfl,aD⟩) ?_ ?_
    ·(try dsimp only);rw [show fK ((z.id,z.flow) :: iy z.flow) id=none from Option.not_isSome_iff_eq_none.1 (by simpa using JU),Option.none_or] at rO;exact ⟨by omega,rO,fun b o h=>Vv b o (hg4 b o h),fun b o h=>Vv b o (OE b o h)⟩
    first|omega|(dsimp only;omega)
   intro qO a H
   try have p70:=dF qO
   refine dQ ?_;refine cZ _ _ ?_;clear cZ;refine kP H (SC (Rm rfl (Rd rfl (Ra rfl ?_))));clear H;intro a H;refine aI ?_;refine cK ((rk+1,g4)) (by exact (H).sub ⟨rfl,rfl,rfl,rfl,aD⟩) ?_ ?_
   ·(try dsimp only);rw [iq (by omega),Ay,JH,Option.none_or] at rO;exact ⟨by omega,rO,hg4⟩
   first|omega|(dsimp only;omega)
  intro NI a H
  try have p56:=dF NI
  refine dQ ?_;refine K9 _ _ ?_;clear K9;refine kP H (SC (Rm rfl (Rd rfl (Ra rfl ?_))));clear H;intro a H;refine aI ?_;refine cK ((k+1,g3)) (by exact (H).sub ⟨rfl,rfl,rfl,aD⟩) ?_ ?_
  ·(try dsimp only);rw [iq (by omega),vw,JH,Option.none_or] at Dj;exact ⟨by omega,Dj,hok2,fun b o h=>hg3 b o (hg1 b o h)⟩
  first|omega|(dsimp only;omega)
 intro h23 a H
 try have rW:=dF h23
 refine dQ ?_;refine K5 _ _ ?_;clear K5;refine kP H (SR fun _ kD=>Ra rfl (ak kD rfl ?_));clear H kD;intro a H;refine cB ?_;refine (eB H results23 (.cons (aR H rfl) (.cons (aR H rfl) .nil)) ?_).1;rw [iq (by omega),iy,JH] at hX;exact H.rt ⟨_,by rw [K0,hX];rfl,by rw [K0,hX];exact av.jo (A:=none) (n:=0) (c:=0) rfl (by decide)⟩
theorem WX:∀ m:Nat,m≤1073741825→Mc m
 | 0,_=>fun _ _ _ _ _ _ _ _ _ h=>absurd h (by omega)
 | m+1,hm=>ain (WX m (by omega)) (by omega)
theorem aio (G:GH) (w0:World) (hG:Hold G w0) (id:Int) (l:List ay) (u:aj) (hu:av G (.sl 11 (l.map ay.dat)) u) (hok:dX l) (hz:bq l≤1073741824) :
  Calls prog 23 #[u,vi 0,vi id] w0 (bF w0 G fun r G'=>∃ v,r=.tuple #[v,.bool (jc l id).isSome]∧av G' (.sl 11 (((jc l id).getD []).map ay.dat)) v):=by
 rw [← aek];exact WX 1073741825 (bV _) G w0 hG 0 id l u hu hok (by omega)
theorem Qz:∀ p q:List ay,iW (p++q)=iW p+iW q
 | [],q=>by rw [jX,iW,kT]
 | x :: p,q=>by rw [nH,iW,iW,Qz p q,Nat.add_assoc]
theorem akA {l:List ay} {k:Nat} (hk:k < l.length):iW (l.take (k+1))=iW (l.take k)+eD l[k]:=by
 rw [jF hk,Qz]
 simp [iW]
theorem akC (l:List ay) (k:Nat):iW (l.take k)≤iW l:=by
 have:=Qz (l.take k) (l.drop k);rw [List.take_append_drop] at this
 omega
theorem Xa (G:GH) (w0:World) (hG:Hold G w0) (l:List ay) (u:aj) (hu:av G (.sl 11 (l.map ay.dat)) u) (hz:bq l≤1073741824) :
  Calls prog 24 #[u] w0 (bF w0 G fun v G'=>v=vi (iW l:Nat)∧G=G'):=by
 obtain ⟨A,c,rfl,hc1,hc2,hgu⟩:=hu.slice;rw [bU] at *;have hll:=zF l;have hss:∀ m:List ay,iW m≤bq m:=fun m=>Nat.le_trans (QA m) (Lj m);have hml:maxLen=9223372036854775807:=rfl;refine eN [(0,_)] func24 rfl ntmps24 rfl rfl hG ?_;intro a H;refine kP H (SR fun _ K1=>ak K1 rfl (SR fun _ K2=>ak K2 rfl (SQ fun _ K3=>SR fun _ K4=>ak K4 rfl (SB ?_))));clear H K1 K2 K4;intro a H;skip;refine eU (ι:=Nat) (Tc:=[(0,_)]) (Lc:=[]) (fun gh=>[(3,vi (iW (l.take gh):Nat)),(4,vi gh)]) (fun gh=>[]) (fun gh=>G) (fun gh=>gh≤l.length) (fun gh=>l.length - gh) (0) (by exact (H).sub ⟨rfl,rfl,rfl,aD⟩) ?_ ?_
 ·exact ig _
 clear H;intro gh a w hI H;obtain ⟨k,hgh⟩:∃ x,x=gh:=⟨_,rfl⟩;subst hgh;have hk:=hI;dsimp only [lca,bD] at H;refine kP H (SQ fun _ K5=>SR fun _ K6=>Rm rfl (Rm rfl (Rl fU rfl (Rc rfl (Kz K6 (Cd rfl ?_ ?_)))))) <;> clear H K6
 ·intro h8 a H
  try have p8:=dT h8
  have hk2:k < l.length:=by omega
  obtain ⟨b,o,pA,pn,pc,dA,dn,dc,yA,yn,yc,fA,fn,fc,rA,rn,rc,rfl,hrow,hhd,hfl,hrw⟩:=wX hk2 hgu;have hzi:=nU l[k];have DF:=Ei (iM hk2);have hs1:=akA hk2;have hs2:=hss l;have hs3:=akC l (k+1);refine kP H (Kc K5 (SQ fun _ K7=>SB (SC (Rm rfl (Rm rfl (Rm rfl (Ri fU dx rfl rfl ?_)))))));clear H K5;intro a H;refine bK dx (cs:=[vi l[k].kind,vi l[k].code,vi l[k].id,.string l[k].text,.slice pA pn pc,vi l[k].head.marks.ins,vi l[k].head.marks.move,.slice dA dn dc,.slice yA yn yc,.slice fA fn fc,.slice rA rn rc]) H wn rfl rfl (fun j v hj=>H.hp.aL (hrow j v hj)) rfl ?_;clear H;intro a H;refine s_call TV H wn rfl (Yz _ _ H.ro l[k] _ _ _ _ _ _ _ _ _ (by omega)) rfl ?_;clear H;rintro v16 _ a w ⟨rfl,rfl⟩ - H;refine Ip ((iW (l.take (k+1)):Nat):Int) H wn rfl rfl (by omega) (by omega) (by omega) rfl ?_;clear H;intro a H;refine kH H (aV K7 rfl (SC (Rm rfl (Rd rfl (Ra rfl ?_)))));clear H K7;intro a H;refine aI ?_;refine cK ((k+1)) (by exact (H).sub ⟨rfl,rfl,rfl,aD⟩) ?_ ?_
  ·omega
  first|omega|(dsimp only;omega)
 intro h8 a H
 try have p8:=dF h8
 obtain rfl:k=l.length:=by omega
 rw [uP] at H;refine dQ ?_;refine K3 _ _ ?_;clear K3;exact kP H (SR fun _ K8=>Rm rfl (ak K8 rfl (LR results24 rfl fun H=>H.rt ⟨rfl,rfl⟩)))
end
section
open Go.RowKit
theorem Uh:∀ args w,(callFunc 9 args).run prog w=.ok (.enter 9 args) w:=enters func9 rfl (by kernel_rfl)
theorem acn:∀ args w,(callFunc 10 args).run prog w=.ok (.enter 10 args) w:=enters func10 rfl (by kernel_rfl)
theorem adk:∀ args w,(callFunc 22 args).run prog w=.ok (.enter 22 args) w:=enters func22 rfl (by kernel_rfl)
theorem TS:∀ args w,(callFunc 24 args).run prog w=.ok (.enter 24 args) w:=enters func24 rfl (by kernel_rfl)
theorem TN:∀ args w,(callFunc 15 args).run prog w=.ok (.enter 15 args) w:=enters func15 rfl (by kernel_rfl)
theorem TT:∀ args w,(callFunc 25 args).run prog w=.ok (.enter 25 args) w:=enters func25 rfl (by kernel_rfl)
theorem aas {l:List ay} (h:zK l):(dB 0 0 l).Nodup:=by
 have h1:=(Jp 0 0 l h.ok).nodup h.vnd
 unfold List.Nodup at h1
 rw [List.pairwise_map] at h1;exact h1.imp fun hne e=>hne (by rw [e])
mutual
theorem alf (note:Bool) (t:Int) {F:jg}:∀ x:ay,vP x→F∈vL note t x→dX F.items
 | .mk k c i tx h fl r,hx,hF=>by
  have hf:=LP true t (F:=F) fl hx.fl;have hr:=Y3 note t (F:=F) r hx.rw;have hok:=hx.fl;rw [vL] at hF
  by_cases h6:k=6
  ·rw [au h6] at hF
   rcases lq.1 hF with rfl|hF
   ·exact hok
   exact hf hF
  rw [ah h6] at hF
  by_cases h7:k=7
  ·rw [au h7] at hF;exact hr hF
  rw [ah h7] at hF;cases hF
theorem LP (note:Bool) (t:Int) {F:jg}:∀ l:List ay,dX l→F∈iT note t l→dX F.items
 | [],_,hF=>by rw [iT] at hF;cases hF
 | x :: l,hl,hF=>by
  obtain ⟨hx,hl⟩:=hl.head;rw [iT] at hF
  rcases kR.1 hF with hF|hF
  ·exact alf note t x hx hF
  exact LP note t l hl hF
theorem Y3 (note:Bool) (t:Int) {F:jg}:∀ l:List bP,(∀ r∈l,∀ c∈r.cells,dX c.flow)→F∈nR note t l→dX F.items
 | [],_,hF=>by rw [nR] at hF;cases hF
 | x :: l,hl,hF=>by
  rw [nR] at hF
  rcases kR.1 hF with hF|hF
  ·exact alg note t x (hl x iC) hF
  exact Y3 note t l (fun r hr=>hl r (jZ _ hr)) hF
theorem alg (note:Bool) (t:Int) {F:jg}:∀ x:bP,(∀ c∈x.cells,dX c.flow)→F∈vM note t x→dX F.items
 | .mk h cs,hx,hF=>by rw [vM] at hF;exact Y2 note t cs hx hF
theorem Y2 (note:Bool) (t:Int) {F:jg}:∀ l:List bO,(∀ c∈l,dX c.flow)→F∈ow note t l→dX F.items
 | [],_,hF=>by rw [ow] at hF;cases hF
 | x :: l,hl,hF=>by
  rw [ow] at hF
  rcases kR.1 hF with hF|hF
  ·exact ale note t x (hl x iC) hF
  exact Y2 note t l (fun c hc=>hl c (jZ _ hc)) hF
theorem ale (note:Bool) (t:Int) {F:jg}:∀ x:bO,dX x.flow→F∈vK note t x→dX F.items
 | .mk i h fl,hx,hF=>by
  have hok:dX fl:=hx;rw [vK] at hF
  rcases lq.1 hF with rfl|hF
  ·exact hok
  exact LP note (t+1) fl hok hF
end
theorem aeS {l:List ay} (h:dX l) {id:Int} {L:List ay} (hf:jc l id=some L):dX L:=by
 unfold jc at hf
 obtain ⟨F,hF,rfl⟩:=lu.1 hf;have hm:=List.mem_of_find?_eq_some hF
 rcases lq.1 hm with rfl|hm
 ·exact h
 exact LP false 0 l h hm
theorem Mw {l:List ay} {f t:Int} (h:¬ (jc l f).isSome=true):kF l f t=8:=by
 unfold kF;rw [Option.not_isSome_iff_eq_none.1 h]
theorem Jq {l:List ay} (hok:dX l) {f t:Int} (h:(jc l f).isSome=true):kF l f t=if t < 0∨(iW ((jc l f).getD []):Int) < t then 2 else 0:=by
 obtain ⟨L,hL⟩:=Option.isSome_iff_exists.1 h
 unfold kF
 rw [hL];dsimp only [Option.getD_some];rw [(aeS hok hL).len]
set_option maxHeartbeats 4000000 in
theorem aiY (G:GH) (w0:World) (hG:Hold G w0) (D:nE) (d:wL) (hR:Cr G D d) (hz:IY d) (f t:Int) :
  Calls prog 6 #[D.val,.agg #[vi f,vi t]] w0 (bF w0 G fun u G'=>u=.bool true):=by
 have yY:=hz.fl;have Vb:=yE 0 0 d.flow;refine eN [(0,_),(1,_)] func6 rfl ntmps6 rfl rfl hG ?_;intro a H;refine dH (fun _ K1=>?_);refine fq (cs:=[_,_,_,_,_,_,_,_,_,_,_]) H wn rfl rfl rfl ?_;clear H;intro b2 a w hb2 H;refine fq (cs:=[_,_]) H wn rfl rfl rfl ?_;clear H;intro b3 a w hb3 H;refine kH H (ak K1 rfl (SQ fun _ K2=>SQ fun _ K3=>?_));clear H K1;intro a H;obtain ⟨Ga0,agv,um,H⟩:=H.dS;obtain ⟨Ga,Vx,hb2',H⟩:=H.dS;have hga:=fun j v hj=>wY hb2' 0 D.cells rfl j v hj;have oh:∀ j v,[vi f,vi t][j]?=some v→aL Ga b3 (0+j)=some v:=fun j v hj=>aM Vx (wY um 0 [vi f,vi t] rfl j v hj);replace hR:=(hR.mono agv).mono Vx;refine nY ?_;refine s_call Uh H wn rfl (Wz _ _ H.ro) rfl ?_;clear H;rintro v12 zI a w rfl xD H;replace hR:=hR.mono xD;replace hga:=fun j v hj=>aM xD (hga j v hj);replace oh:=fun j v hj=>aM xD (oh j v hj);refine kH H (Rn rfl (Rm rfl (Sp 14 rfl ?_ ?_))) <;> clear H
 ·intro dN a H
  exact absurd dN (by decide)
 intro dN a H
 try have mH:=dF dN
 first
 | (exfalso;omega)
 | (exact absurd dN (by decide))
 |skip
  refine bK rz (cs:=D.cells) H (wg H rfl rfl dN) rfl rfl (fun j v hj=>H.hp.aL (hga j v hj)) rfl ?_;clear H;intro a H;refine s_call acn H (wg H rfl rfl dN) rfl (akl _ _ H.ro D d hR hz) rfl ?_;clear H;rintro v16 oW a w ⟨b16,rfl,Ve⟩ kV H;replace hR:=hR.mono kV;replace hga:=fun j v hj=>aM kV (hga j v hj);replace oh:=fun j v hj=>aM kV (oh j v hj);refine kH H (YN dN rfl (Pf dN rfl (Kn K3 (Cd rfl ?_ ?_)))) <;> clear H K3
  ·intro h18 a H
   try have rV:=dT h18
   first
   | (exfalso;omega)
   | (exact absurd h18 (by decide))
   |skip
    refine dH (fun _ K4=>?_);refine s_call Uh H wn rfl (Wz _ _ H.ro) rfl ?_;clear H;rintro v19 Zt a w rfl rQ H;refine kH H (ak K4 rfl ?_);clear H K4;intro a H;refine lr H results6 rfl ?_
    first|exact H.rt rfl|exact H.rt (aB (aC hE2))
  intro h18 a H
  try have rV:=dF h18
  first
  | (exfalso;omega)
  | (exact absurd h18 (by decide))
  |skip
   refine fT ?_;refine K2 _ _ ?_;clear K2;refine bG (fun _ K5=>?_)
   have hc:mO d=0:=by first|exact Ve (by assumption)|(simp_all;done)
   have hok:=aiF hc;obtain ⟨l,hl⟩:∃ l,l=d.flow:=⟨_,rfl⟩;have hfl:=hR.fl;rw [← hl] at hok yY hfl Vb;have hgf:aL oW b2 0=some (fI D.f):=hga 0 _ rfl;refine nY ?_;refine bK rz (cs:=D.cells) H wn rfl rfl (fun j v hj=>H.hp.aL (hga j v hj)) rfl ?_;clear H;intro a H;refine bK wK (cs:=[vi f,vi t]) H wn rfl rfl (fun j v hj=>H.hp.aL (oh j v hj)) rfl ?_;clear H;intro a H;refine s_call adk H wn rfl (aaw _ _ H.ro D l f t hfl hok.ok yY) rfl ?_;clear H;rintro v23 I6 a w ⟨va,vb,rfl,hva,hvb⟩ nJ H;obtain ⟨aA,an,ac,rfl⟩:=hva.form;obtain ⟨bA,bn,bc,rfl⟩:=hvb.form;have han:=hva.len;have hbn:=hvb.len;rw [bU] at han hbn;replace hfl:=hfl.mono nJ;replace hgf:=aM nJ hgf;replace oh:=fun j v hj=>aM nJ (oh j v hj);refine kH H (Rm rfl ?_);clear H;intro a H;(iterate 3 refine jN H wn rfl rfl rfl ?_;clear H;intro a H);refine kH H (Ra rfl (Ra rfl (aV K5 rfl (SR fun _ K6=>Rf Bo rfl (Rg gW rfl hgf (Rf pO rfl (Rg aH rfl (oh 0 _ rfl) ?_)))))));clear H K5;intro a H;refine s_call Na H wn rfl (aio _ _ H.ro f l _ hfl hok.ok yY) rfl ?_;clear H;rintro v32 Q8 a w ⟨x32,rfl,hx32⟩ Hq H;obtain ⟨A32,n32,c32,rfl⟩:=hx32.form
   have hLz:bq ((jc l f).getD [])≤1073741824:=by
    cases hf:jc l f with
    | none=>exact ig _
    | some L=>exact Nat.le_trans (UR hf) yY
   replace hfl:=hfl.mono Hq;replace hgf:=aM Hq hgf;replace oh:=fun j v hj=>aM Hq (oh j v hj);replace hva:=hva.mono Hq;replace hvb:=hvb.mono Hq;refine kH H (Rm rfl ?_);clear H;intro a H;(iterate 2 refine jN H wn rfl rfl rfl ?_;clear H;intro a H);refine kH H (Ra rfl (ak K6 rfl (SQ fun _ K7=>SQ fun _ K8=>?_)));clear H K6;intro a H
   by_cases c0:¬ (jc l f).isSome=true
   ·skip;refine dI hmx [[],[0],[0,1],[0,1,2],(ra 0 4),(ra 0 5),(ra 0 6),(ra 0 7),(ra 0 8),(ra 0 9),(ra 0 8),(ra 0 8++[10]),(ra 0 12),(ra 0 13)] [] (by kernel_rfl) [.bool (decide ((jc l f).isSome=true)),.bool (decide (¬ (jc l f).isSome=true)),_,undef,undef,undef,_,_,undef,undef,undef,undef,undef,_] H (aG ?_ ?_ (Z1 1 36 rfl (Rm rfl)) (aN (j:=2) (by kernel_rfl) (fun _ _ _ _ _ h=>h) rfl rfl rfl rfl rfl (fun _ _ h=>aO h (aB (aC c0))) rfl (fun _=>rfl)) (aG (aN (j:=2) (by kernel_rfl) (fun _ _ _ _ _ h=>h) rfl rfl rfl rfl rfl (fun _ _ h=>aO h (aB (aC c0))) rfl (fun _=>rfl)) (aN (j:=2) (by kernel_rfl) (fun _ _ _ _ _ h=>h) rfl rfl rfl rfl rfl (fun _ _ h=>aO h (aB (aC c0))) rfl (fun _=>rfl)) (Z2 2 37 5 40 rfl (Pt (aC c0) rfl)) (Z1 6 41 rfl (Rm rfl)) (aG (aN (j:=7) (by kernel_rfl) (fun _ _ _ _ _ h=>h) rfl rfl rfl rfl rfl (fun _ _ h=>aO h (aB rfl)) rfl (fun _=>rfl)) (aN (j:=7) (by kernel_rfl) (fun _ _ _ _ _ h=>h) rfl rfl rfl rfl rfl (fun _ _ h=>aO h (aB rfl)) rfl (fun _=>rfl)) (aN (j:=7) (by kernel_rfl) (fun _ _ _ _ _ h=>h) rfl rfl rfl rfl rfl (fun _ _ h=>aO h (aB rfl)) rfl (fun _=>rfl)) (aN (j:=7) (by kernel_rfl) (fun _ _ _ _ _ h=>h) rfl rfl rfl rfl rfl (fun _ _ h=>aO h (aB rfl)) rfl (fun _=>rfl)) (aU (aN (j:=7) (by kernel_rfl) (fun _ _ _ _ _ h=>h) rfl rfl rfl rfl rfl (fun _ _ h=>aO h (aB rfl)) rfl (fun _=>rfl)) (aU (Z2 7 42 12 47 rfl (Pt rfl rfl)) bZ))))) ?_
    ·refine uN rfl fun _ a w G1 hG HT H fin=>?_;refine kH H (Rm rfl ?_);clear H;intro a H;exact fin H iJ (aB (by simp))
    ·refine dO 0 35 rfl rfl fun _ a w G1 hG HT H fin=>?_;refine kH H (Rn rfl ?_);clear H;intro a H;exact fin H iJ (aB decide_not.symm)
    clear H;intro a w G lM H hv;have H:=H.aQ (hv 13 48 rfl rfl) rfl;clear hv;refine aI ⟨rfl,?_⟩;refine K8 _ _ ?_;clear K8;refine qL H rfl rfl ?_;refine bG (fun _ K9=>?_)
    have hE:kF l f t=if (jc l f).isSome=true then 2 else 8:=by
     first
      | (rw [ah c0];exact Mw c0)
      | (rw [Jq hok.ok (jJ.1 c0),au (by omega),au (jJ.1 c0)])
    have hne:¬ kF l f t=0:=by rw [hE];split <;> decide
    rw [wQ hne] at han hbn;have Vd:an=0:=han;have Vg:bn=0:=hbn;refine kP H (SC (aV K9 rfl (SQ fun _ aT=>SR fun _ bC=>Rm rfl (Rn rfl (Kz bC (Cd rfl ?_ ?_)))))) <;> clear H K9 bC
    ·intro h50 a H
     try have p50:=dT h50
     first
     | (exfalso;omega)
     | (exact absurd h50 (by decide))
     |skip
      have hE2:kF l f t=8:=by rw [hE,ah (by simpa using h50)]
      refine kP H (SC (aV aT rfl (SR fun _ bJ=>Rm rfl (Rl kY rfl (Rm rfl (Rl kY rfl (Rd rfl (Rc rfl (Rm rfl (Sp 57 rfl ?_ ?_)))))))))) <;> clear H aT
      ·intro h57 a H
       try have p57:=dT h57
       first
       | (exfalso;omega)
       | (exact absurd h57 (by decide))
       |skip
        refine kH H (YM h57 rfl (YM h57 rfl (YC h57 rfl (Pt h57 rfl (ak bJ rfl ?_)))));clear H bJ;intro a H;refine lr H results6 rfl ?_
        first|exact H.rt rfl|exact H.rt (aB (aC hE2))
      intro h57 a H
      try have p57:=dF h57
      first
      | (exfalso;omega)
      | (exact absurd h57 (by decide))
      |skip
       refine kH H (aY h57 rfl (Pf h57 rfl (ak bJ rfl ?_)));clear H bJ;intro a H;refine lr H results6 rfl ?_
       first|exact H.rt rfl|exact H.rt (aB (aC hE2))
    intro h50 a H
    try have p50:=dF h50
    first
    | (exfalso;omega)
    | (exact absurd h50 (by decide))
    |skip
     have hE2:kF l f t=2:=by rw [hE,au (by simpa using h50)]
     refine kP H (Kc aT (SR fun _ bT=>Rm rfl (Rl kY rfl (Rm rfl (Rl kY rfl (Rd rfl (Rc rfl (Rm rfl (Sp 57 rfl ?_ ?_))))))))) <;> clear H aT
     ·intro h57 a H
      try have p57:=dT h57
      first
      | (exfalso;omega)
      | (exact absurd h57 (by decide))
      |skip
       refine kH H (YM h57 rfl (YM h57 rfl (YC h57 rfl (Pt h57 rfl (ak bT rfl ?_)))));clear H bT;intro a H;refine lr H results6 rfl ?_
       first|exact H.rt rfl|exact H.rt (aB (aC hE2))
     intro h57 a H
     try have p57:=dF h57
     first
     | (exfalso;omega)
     | (exact absurd h57 (by decide))
     |skip
      refine kH H (aY h57 rfl (Pf h57 rfl (ak bT rfl ?_)));clear H bT;intro a H;refine lr H results6 rfl ?_
      first|exact H.rt rfl|exact H.rt (aB (aC hE2))
   skip
   by_cases c1:t < 0
   ·skip;refine dI hmx [[],[0],[0,1],[0,1,2],(ra 0 4),(ra 0 5),(ra 0 6),(ra 0 7),(ra 0 8),(ra 0 9),(ra 0 8),(ra 0 8++[10]),(ra 0 12),(ra 0 13)] [] (by kernel_rfl) [.bool (decide ((jc l f).isSome=true)),.bool (decide (¬ (jc l f).isSome=true)),_,_,_,_,_,_,undef,undef,undef,undef,undef,_] H (aG ?_ ?_ (Z1 1 36 rfl (Rm rfl)) (Z1 2 37 rfl (YF jK (aK c0) rfl)) (aG (X2 3 38 2 37 rfl fun hG=>YR aH (aK c0) rfl (aM hG (oh 1 _ rfl))) (Z2 4 39 2 37 rfl (YC (aK c0) rfl)) (Z2 2 37 5 40 rfl (Pf (aK c0) rfl)) (Z1 6 41 rfl (Rm rfl)) (aG (aN (j:=7) (by kernel_rfl) (fun _ _ _ _ _ h=>h) rfl rfl rfl rfl rfl (fun _ _ h=>aO h (aB (aC c1))) rfl (fun _=>rfl)) (aN (j:=7) (by kernel_rfl) (fun _ _ _ _ _ h=>h) rfl rfl rfl rfl rfl (fun _ _ h=>aO h (aB (aC c1))) rfl (fun _=>rfl)) (aN (j:=7) (by kernel_rfl) (fun _ _ _ _ _ h=>h) rfl rfl rfl rfl rfl (fun _ _ h=>aO h (aB (aC c1))) rfl (fun _=>rfl)) (aN (j:=7) (by kernel_rfl) (fun _ _ _ _ _ h=>h) rfl rfl rfl rfl rfl (fun _ _ h=>aO h (aB (aC c1))) rfl (fun _=>rfl)) (aU (aN (j:=7) (by kernel_rfl) (fun _ _ _ _ _ h=>h) rfl rfl rfl rfl rfl (fun _ _ h=>aO h (aB (aC c1))) rfl (fun _=>rfl)) (aU (Z2 7 42 12 47 rfl (Pt (aC c1) rfl)) bZ))))) ?_
    ·refine uN rfl fun _ a w G1 hG HT H fin=>?_;refine kH H (Rm rfl ?_);clear H;intro a H;exact fin H iJ (aB (by simp))
    ·refine dO 0 35 rfl rfl fun _ a w G1 hG HT H fin=>?_;refine kH H (Rn rfl ?_);clear H;intro a H;exact fin H iJ (aB decide_not.symm)
    clear H;intro a w G lM H hv;have H:=H.aQ (hv 13 48 rfl rfl) rfl;clear hv;refine aI ⟨rfl,?_⟩;refine K8 _ _ ?_;clear K8;refine qL H rfl rfl ?_;refine bG (fun _ bS=>?_)
    have hE:kF l f t=if (jc l f).isSome=true then 2 else 8:=by
     first
      | (rw [ah c0];exact Mw c0)
      | (rw [Jq hok.ok (jJ.1 c0),au (by omega),au (jJ.1 c0)])
    have hne:¬ kF l f t=0:=by rw [hE];split <;> decide
    rw [wQ hne] at han hbn;have Vd:an=0:=han;have Vg:bn=0:=hbn;refine kP H (SC (aV bS rfl (SQ fun _ dD=>SR fun _ dM=>Rm rfl (Rn rfl (Kz dM (Cd rfl ?_ ?_)))))) <;> clear H bS dM
    ·intro h50 a H
     try have p50:=dT h50
     first
     | (exfalso;omega)
     | (exact absurd h50 (by decide))
     |skip
      have hE2:kF l f t=8:=by rw [hE,ah (by simpa using h50)]
      refine kP H (SC (aV dD rfl (SR fun _ cZ=>Rm rfl (Rl kY rfl (Rm rfl (Rl kY rfl (Rd rfl (Rc rfl (Rm rfl (Sp 57 rfl ?_ ?_)))))))))) <;> clear H dD
      ·intro h57 a H
       try have p57:=dT h57
       first
       | (exfalso;omega)
       | (exact absurd h57 (by decide))
       |skip
        refine kH H (YM h57 rfl (YM h57 rfl (YC h57 rfl (Pt h57 rfl (ak cZ rfl ?_)))));clear H cZ;intro a H;refine lr H results6 rfl ?_
        first|exact H.rt rfl|exact H.rt (aB (aC hE2))
      intro h57 a H
      try have p57:=dF h57
      first
      | (exfalso;omega)
      | (exact absurd h57 (by decide))
      |skip
       refine kH H (aY h57 rfl (Pf h57 rfl (ak cZ rfl ?_)));clear H cZ;intro a H;refine lr H results6 rfl ?_
       first|exact H.rt rfl|exact H.rt (aB (aC hE2))
    intro h50 a H
    try have p50:=dF h50
    first
    | (exfalso;omega)
    | (exact absurd h50 (by decide))
    |skip
     have hE2:kF l f t=2:=by rw [hE,au (by simpa using h50)]
     refine kP H (Kc dD (SR fun _ dW=>Rm rfl (Rl kY rfl (Rm rfl (Rl kY rfl (Rd rfl (Rc rfl (Rm rfl (Sp 57 rfl ?_ ?_))))))))) <;> clear H dD
     ·intro h57 a H
      try have p57:=dT h57
      first
      | (exfalso;omega)
      | (exact absurd h57 (by decide))
      |skip
       refine kH H (YM h57 rfl (YM h57 rfl (YC h57 rfl (Pt h57 rfl (ak dW rfl ?_)))));clear H dW;intro a H;refine lr H results6 rfl ?_
       first|exact H.rt rfl|exact H.rt (aB (aC hE2))
     intro h57 a H
     try have p57:=dF h57
     first
     | (exfalso;omega)
     | (exact absurd h57 (by decide))
     |skip
      refine kH H (aY h57 rfl (Pf h57 rfl (ak dW rfl ?_)));clear H dW;intro a H;refine lr H results6 rfl ?_
      first|exact H.rt rfl|exact H.rt (aB (aC hE2))
   skip
   by_cases c2:(iW ((jc l f).getD []):Int) < t
   ·skip;refine dI hmx [[],[0],[0,1],[0,1,2],(ra 0 4),(ra 0 5),(ra 0 6),(ra 0 7),(ra 0 8),(ra 0 9),(ra 0 8),(ra 0 8++[10]),(ra 0 12),(ra 0 13)] [] (by kernel_rfl) [.bool (decide ((jc l f).isSome=true)),.bool (decide (¬ (jc l f).isSome=true)),_,_,_,_,_,_,_,_,_,vi (iW ((jc l f).getD []):Nat),_,_] H (aG ?_ ?_ (Z1 1 36 rfl (Rm rfl)) (Z1 2 37 rfl (YF jK (aK c0) rfl)) (aG (X2 3 38 2 37 rfl fun hG=>YR aH (aK c0) rfl (aM hG (oh 1 _ rfl))) (Z2 4 39 2 37 rfl (YC (aK c0) rfl)) (Z2 2 37 5 40 rfl (Pf (aK c0) rfl)) (Z1 6 41 rfl (Rm rfl)) (aG (Z1 7 42 rfl (YF jK (aK c1) rfl)) (X2 8 43 7 42 rfl fun hG=>YR aH (aK c1) rfl (aM hG (oh 1 _ rfl))) (Z1 7 42 rfl (YM (aK c1) rfl)) ?_ (aU (Z3 9 44 11 46 7 42 rfl (YC (aK c1) rfl)) (aU (Z2 7 42 12 47 rfl (Pf (aK c1) rfl)) bZ))))) ?_
    ·refine uN rfl fun _ a w G1 hG HT H fin=>?_;refine kH H (Rm rfl ?_);clear H;intro a H;exact fin H iJ (aB (by simp))
    ·refine dO 0 35 rfl rfl fun _ a w G1 hG HT H fin=>?_;refine kH H (Rn rfl ?_);clear H;intro a H;exact fin H iJ (aB decide_not.symm)
    ·refine dG 10 45 7 42 rfl rfl fun _ a w G1 hG HT H fin=>?_;refine s_call TS H (wg H rfl rfl (aK c1)) rfl (Xa _ _ H.ro _ _ (hx32.mono hG) hLz) rfl ?_;clear H;rintro v46 _ a w ⟨rfl,rfl⟩ - H;have N8:∀ (k:Nat) (o:Obj),G1 k=some o→G1 k=some o:=fun _ _ h=>h;exact fin H N8 (rfl)
    clear H;intro a w G lM H hv;have H:=H.aQ (hv 13 48 rfl rfl) rfl;clear hv;refine aI ⟨rfl,?_⟩;refine K8 _ _ ?_;clear K8;refine qL H rfl (aC c2) ?_;refine bG (fun _ fZ=>?_)
    have hE:kF l f t=if (jc l f).isSome=true then 2 else 8:=by
     first
      | (rw [ah c0];exact Mw c0)
      | (rw [Jq hok.ok (jJ.1 c0),au (by omega),au (jJ.1 c0)])
    have hne:¬ kF l f t=0:=by rw [hE];split <;> decide
    rw [wQ hne] at han hbn;have Vd:an=0:=han;have Vg:bn=0:=hbn;refine kP H (SC (aV fZ rfl (SQ fun _ eG=>SR fun _ gq=>Rm rfl (Rn rfl (Kz gq (Cd rfl ?_ ?_)))))) <;> clear H fZ gq
    ·intro h50 a H
     try have p50:=dT h50
     first
     | (exfalso;omega)
     | (exact absurd h50 (by decide))
     |skip
      have hE2:kF l f t=8:=by rw [hE,ah (by simpa using h50)]
      refine kP H (SC (aV eG rfl (SR fun _ iB=>Rm rfl (Rl kY rfl (Rm rfl (Rl kY rfl (Rd rfl (Rc rfl (Rm rfl (Sp 57 rfl ?_ ?_)))))))))) <;> clear H eG
      ·intro h57 a H
       try have p57:=dT h57
       first
       | (exfalso;omega)
       | (exact absurd h57 (by decide))
       |skip
        refine kH H (YM h57 rfl (YM h57 rfl (YC h57 rfl (Pt h57 rfl (ak iB rfl ?_)))));clear H iB;intro a H;refine lr H results6 rfl ?_
        first|exact H.rt rfl|exact H.rt (aB (aC hE2))
      intro h57 a H
      try have p57:=dF h57
      first
      | (exfalso;omega)
      | (exact absurd h57 (by decide))
      |skip
       refine kH H (aY h57 rfl (Pf h57 rfl (ak iB rfl ?_)));clear H iB;intro a H;refine lr H results6 rfl ?_
       first|exact H.rt rfl|exact H.rt (aB (aC hE2))
    intro h50 a H
    try have p50:=dF h50
    first
    | (exfalso;omega)
    | (exact absurd h50 (by decide))
    |skip
     have hE2:kF l f t=2:=by rw [hE,au (by simpa using h50)]
     refine kP H (Kc eG (SR fun _ jv=>Rm rfl (Rl kY rfl (Rm rfl (Rl kY rfl (Rd rfl (Rc rfl (Rm rfl (Sp 57 rfl ?_ ?_))))))))) <;> clear H eG
     ·intro h57 a H
      try have p57:=dT h57
      first
      | (exfalso;omega)
      | (exact absurd h57 (by decide))
      |skip
       refine kH H (YM h57 rfl (YM h57 rfl (YC h57 rfl (Pt h57 rfl (ak jv rfl ?_)))));clear H jv;intro a H;refine lr H results6 rfl ?_
       first|exact H.rt rfl|exact H.rt (aB (aC hE2))
     intro h57 a H
     try have p57:=dF h57
     first
     | (exfalso;omega)
     | (exact absurd h57 (by decide))
     |skip
      refine kH H (aY h57 rfl (Pf h57 rfl (ak jv rfl ?_)));clear H jv;intro a H;refine lr H results6 rfl ?_
      first|exact H.rt rfl|exact H.rt (aB (aC hE2))
   skip;refine dI hmx [[],[0],[0,1],[0,1,2],(ra 0 4),(ra 0 5),(ra 0 6),(ra 0 7),(ra 0 8),(ra 0 9),(ra 0 8),(ra 0 8++[10]),(ra 0 12),(ra 0 13)] [] (by kernel_rfl) [.bool (decide ((jc l f).isSome=true)),.bool (decide (¬ (jc l f).isSome=true)),_,_,_,_,_,_,_,_,_,vi (iW ((jc l f).getD []):Nat),_,_] H (aG ?_ ?_ (Z1 1 36 rfl (Rm rfl)) (Z1 2 37 rfl (YF jK (aK c0) rfl)) (aG (X2 3 38 2 37 rfl fun hG=>YR aH (aK c0) rfl (aM hG (oh 1 _ rfl))) (Z2 4 39 2 37 rfl (YC (aK c0) rfl)) (Z2 2 37 5 40 rfl (Pf (aK c0) rfl)) (Z1 6 41 rfl (Rm rfl)) (aG (Z1 7 42 rfl (YF jK (aK c1) rfl)) (X2 8 43 7 42 rfl fun hG=>YR aH (aK c1) rfl (aM hG (oh 1 _ rfl))) (Z1 7 42 rfl (YM (aK c1) rfl)) ?_ (aU (Z3 9 44 11 46 7 42 rfl (YC (aK c1) rfl)) (aU (Z2 7 42 12 47 rfl (Pf (aK c1) rfl)) bZ))))) ?_
   ·refine uN rfl fun _ a w G1 hG HT H fin=>?_;refine kH H (Rm rfl ?_);clear H;intro a H;exact fin H iJ (aB (by simp))
   ·refine dO 0 35 rfl rfl fun _ a w G1 hG HT H fin=>?_;refine kH H (Rn rfl ?_);clear H;intro a H;exact fin H iJ (aB decide_not.symm)
   ·refine dG 10 45 7 42 rfl rfl fun _ a w G1 hG HT H fin=>?_;refine s_call TS H (wg H rfl rfl (aK c1)) rfl (Xa _ _ H.ro _ _ (hx32.mono hG) hLz) rfl ?_;clear H;rintro v46 _ a w ⟨rfl,rfl⟩ - H;have N8:∀ (k:Nat) (o:Obj),G1 k=some o→G1 k=some o:=fun _ _ h=>h;exact fin H N8 (rfl)
   clear H;intro a w G lM H hv;have H:=H.aQ (hv 13 48 rfl rfl) rfl;clear hv;refine aI ⟨rfl,?_⟩;refine K8 _ _ ?_;clear K8;refine lI H rfl (aK c2) ?_;refine fT ?_;refine K7 _ _ ?_;clear K7;refine bG (fun _ jB=>?_)
   have hE0:kF l f t=0:=by rw [Jq hok.ok (jJ.1 c0),ah (by omega)]
   rw [hE0] at H
   have H8:av Q8 (.sl 1 ((kM (jq (dB 0 0 l) 1) f t).map oo)) (.slice aA an ac):=by have:=hva;unfold vU at this;rwa [au hE0] at this
   have H9:av Q8 (.sl 1 ((kM (jq (dB 0 0 l) 3) f t).map oo)) (.slice bA bn bc):=by have:=hvb;unfold vU at this;rwa [au hE0] at this
   replace H8:=H8.mono lM;replace H9:=H9.mono lM;replace hfl:=hfl.mono lM;replace hgf:=aM lM hgf;replace oh:=fun j v hj=>aM lM (oh j v hj);have hnd:=aas hok;have Dl:∀ a∈dB 0 0 l,0≤a.at_∧a.at_≤4294967296:=fun a ha=>⟨(Ew 0 0 l a ha).1,by have:=(Ew 0 0 l a ha).2;omega⟩;have hl1:=La (dB 0 0 l) 1;have hl3:=La (dB 0 0 l) 3;refine kP H (SC (Rf Bo rfl (Rg gW rfl hgf ?_)));clear H;intro a H;refine s_call M5 H wn rfl (W9 1073741825 (bV _) _ _ H.ro 0 l _ hfl hok.ok (by omega)) rfl ?_;clear H;rintro v64 Rh a w OX OO H;obtain ⟨Ej,n64,c64,rfl⟩:=OX.form;replace H8:=H8.mono OO;replace H9:=H9.mono OO;replace oh:=fun j v hj=>aM OO (oh j v hj);refine kH H (aV jB rfl (SQ fun _ iX=>?_));clear H jB;intro a H
   have qV:∀ (bH:Nat) (v:aj) (G G':GH),(∀ k o,G k=some o→G' k=some o)→(fun (bH:Nat) (v:aj) (G:GH)=>match bH with|0=>v=vi 0|1=>v=.bool true|2=>v=.bool true|3=>v=.slice Ej n64 c64|4=>av G (.sl 6 ((jq (dB 0 0 l) 1).map fP.dat)) v|5=>v=.agg #[vi f,vi t]|6=>v=.slice aA an ac|7=>v=.bool true|8=>v=.bool true|9=>v=.bool true|10=>v=.slice Ej n64 c64|11=>av G (.sl 6 ((jq (dB 0 0 l) 3).map fP.dat)) v|12=>v=.agg #[vi f,vi t]|13=>v=.slice bA bn bc|14=>v=.bool true|15=>v=.bool true|_=>True) bH v G→(fun (bH:Nat) (v:aj) (G:GH)=>match bH with|0=>v=vi 0|1=>v=.bool true|2=>v=.bool true|3=>v=.slice Ej n64 c64|4=>av G (.sl 6 ((jq (dB 0 0 l) 1).map fP.dat)) v|5=>v=.agg #[vi f,vi t]|6=>v=.slice aA an ac|7=>v=.bool true|8=>v=.bool true|9=>v=.bool true|10=>v=.slice Ej n64 c64|11=>av G (.sl 6 ((jq (dB 0 0 l) 3).map fP.dat)) v|12=>v=.agg #[vi f,vi t]|13=>v=.slice bA bn bc|14=>v=.bool true|15=>v=.bool true|_=>True) bH v G':=by
    intro bH v G G' hm h
    match bH,h with
    | 0,h=>exact h
    | 1,h=>exact h
    | 2,h=>exact h
    | 3,h=>exact h
    | 4,h=>exact av.mono hm h
    | 5,h=>exact h
    | 6,h=>exact h
    | 7,h=>exact h
    | 8,h=>exact h
    | 9,h=>exact h
    | 10,h=>exact h
    | 11,h=>exact av.mono hm h
    | 12,h=>exact h
    | 13,h=>exact h
    | 14,h=>exact h
    | 15,h=>exact h
    | 16,h=>exact trivial
    | _+17,h=>exact trivial
   refine yJ (hmx) [[],[0],[0,1],[0,1,2],(ra 0 4),[0,1,2],[0,1,2],(ra 0 7),(ra 0 8),(ra 0 9),(ra 0 10),(ra 0 11),(ra 0 10),(ra 0 10),(ra 0 14),(ra 0 15),(ra 0 16)] [16] (by kernel_rfl) (by kernel_rfl) (fun (bH:Nat) (v:aj) (G:GH)=>match bH with|0=>v=vi 0|1=>v=.bool true|2=>v=.bool true|3=>v=.slice Ej n64 c64|4=>av G (.sl 6 ((jq (dB 0 0 l) 1).map fP.dat)) v|5=>v=.agg #[vi f,vi t]|6=>v=.slice aA an ac|7=>v=.bool true|8=>v=.bool true|9=>v=.bool true|10=>v=.slice Ej n64 c64|11=>av G (.sl 6 ((jq (dB 0 0 l) 3).map fP.dat)) v|12=>v=.agg #[vi f,vi t]|13=>v=.slice bA bn bc|14=>v=.bool true|15=>v=.bool true|_=>True) qV H ?_ ?_
   ·clear H;refine aG ?_ ?_ ?_ ?_ (aG ?_ ?_ ?_ ?_ (aG ?_ ?_ ?_ ?_ (aG ?_ ?_ ?_ ?_ (aU (bN rfl) bZ))))
    ·refine bW [] rfl trivial (by kernel_rfl) qV rfl rfl ?_;intro bg a w G1 hG HT H fin;exact kH H (Rm rfl fun _ H=>fin H iJ rfl)
    ·refine bW [(0,65,_)] rfl ⟨fun _ _ h=>h,aD⟩ (by kernel_rfl) qV rfl rfl ?_;intro bg a w G1 hG HT H fin;exact kH H (Rc rfl fun _ H=>fin H iJ rfl)
    ·refine bW [(1,66,_)] rfl ⟨fun _ _ h=>h,aD⟩ (by kernel_rfl) qV rfl rfl ?_;intro bg a w G1 hG HT H fin;exact kH H (Rm rfl fun _ H=>fin H iJ rfl)
    ·refine bW [(2,67,_)] rfl ⟨fun _ _ h=>h,aD⟩ (by kernel_rfl) qV rfl rfl ?_;intro bg a w G1 hG HT H fin;refine vG H (wg H rfl rfl rfl) rfl rfl ?_;clear H;intro a H;exact fin H iJ rfl
    ·refine bW [(3,68,_),(2,67,_)] rfl ⟨fun _ _ h=>h,fun _ _ h=>h,aD⟩ (by kernel_rfl) qV rfl rfl ?_;intro bg a w G1 hG HT H fin;refine s_call TN H (wg H rfl rfl rfl) rfl (Xb _ _ H.ro _ _ 1 (OX.mono hG) (by omega) hnd Dl (by decide)) rfl ?_;clear H;rintro v69 Rj a w Kl afp H;exact fin H afp (Kl)
    ·refine bW [(2,67,_)] rfl ⟨fun _ _ h=>h,aD⟩ (by kernel_rfl) qV rfl rfl ?_;intro bg a w G1 hG HT H fin;refine bK wK (cs:=[vi f,vi t]) H (wg H rfl rfl rfl) rfl rfl (fun j v hj=>H.hp.aL (aM hG (oh j v hj))) rfl ?_;clear H;intro a H;exact fin H iJ rfl
    ·refine bW [(2,67,_)] rfl ⟨fun _ _ h=>h,aD⟩ (by kernel_rfl) qV rfl rfl ?_;intro bg a w G1 hG HT H fin;refine vG H (wg H rfl rfl rfl) rfl rfl ?_;clear H;intro a H;exact fin H iJ rfl
    ·intro bg a w G1 _ bE hc hG HT hv;have H:=HT;clear bE;obtain ⟨u69,ahb,Kl⟩:=hv 4 69 (hc 4 (by decide)) rfl;(try dsimp only at Kl);have H:=H.iY ahb;have H:=H.aQ (hv 5 70 (hc 5 (by decide)) rfl) rfl;have H:=H.aQ (hv 6 71 (hc 6 (by decide)) rfl) rfl;have H:=H.aQ (hv 2 67 (hc 2 (by decide)) rfl) rfl;have Hb:=H.full;have H:=Hb;clear hc;refine s_call TT H (wg H rfl rfl rfl) rfl (YZ _ _ H.ro _ f t _ _ Kl (H8.mono hG) (by omega)) rfl ?_;clear H;rintro v72 ZM a w rfl Oe H;refine aI ⟨rfl,?_⟩;exact iP (by kernel_rfl) qV rfl rfl HT Hb hG hv Oe (rfl) H
    ·refine bW [(2,67,_),(7,72,_)] rfl ⟨fun _ _ h=>h,fun _ _ h=>h,aD⟩ (by kernel_rfl) qV rfl rfl ?_;intro bg a w G1 hG HT H fin;exact kH H (Pt rfl rfl fun _ H=>fin H iJ rfl)
    ·refine bW [(8,73,_)] rfl ⟨fun _ _ h=>h,aD⟩ (by kernel_rfl) qV rfl rfl ?_;intro bg a w G1 hG HT H fin;exact kH H (Rm rfl fun _ H=>fin H iJ rfl)
    ·refine bW [(9,74,_)] rfl ⟨fun _ _ h=>h,aD⟩ (by kernel_rfl) qV rfl rfl ?_;intro bg a w G1 hG HT H fin;refine vG H (wg H rfl rfl rfl) rfl rfl ?_;clear H;intro a H;exact fin H iJ rfl
    ·refine bW [(10,75,_),(9,74,_)] rfl ⟨fun _ _ h=>h,fun _ _ h=>h,aD⟩ (by kernel_rfl) qV rfl rfl ?_;intro bg a w G1 hG HT H fin;refine s_call TN H (wg H rfl rfl rfl) rfl (Xb _ _ H.ro _ _ 3 (OX.mono hG) (by omega) hnd Dl (by decide)) rfl ?_;clear H;rintro v76 ZN a w Ko afr H;exact fin H afr (Ko)
    ·refine bW [(9,74,_)] rfl ⟨fun _ _ h=>h,aD⟩ (by kernel_rfl) qV rfl rfl ?_;intro bg a w G1 hG HT H fin;refine bK wK (cs:=[vi f,vi t]) H (wg H rfl rfl rfl) rfl rfl (fun j v hj=>H.hp.aL (aM hG (oh j v hj))) rfl ?_;clear H;intro a H;exact fin H iJ rfl
    ·refine bW [(9,74,_)] rfl ⟨fun _ _ h=>h,aD⟩ (by kernel_rfl) qV rfl rfl ?_;intro bg a w G1 hG HT H fin;refine vG H (wg H rfl rfl rfl) rfl rfl ?_;clear H;intro a H;exact fin H iJ rfl
    ·intro bg a w G1 _ bE hc hG HT hv;have H:=HT;clear bE;obtain ⟨u76,ahc,Ko⟩:=hv 11 76 (hc 11 (by decide)) rfl;(try dsimp only at Ko);have H:=H.iY ahc;have H:=H.aQ (hv 12 77 (hc 12 (by decide)) rfl) rfl;have H:=H.aQ (hv 13 78 (hc 13 (by decide)) rfl) rfl;have H:=H.aQ (hv 9 74 (hc 9 (by decide)) rfl) rfl;have Hb:=H.full;have H:=Hb;clear hc;refine s_call TT H (wg H rfl rfl rfl) rfl (YZ _ _ H.ro _ f t _ _ Ko (H9.mono hG) (by omega)) rfl ?_;clear H;rintro v79 G79 a w rfl afu H;refine aI ⟨rfl,?_⟩;exact iP (by kernel_rfl) qV rfl rfl HT Hb hG hv afu (rfl) H
    refine bW [(9,74,_),(14,79,_)] rfl ⟨fun _ _ h=>h,fun _ _ h=>h,aD⟩ (by kernel_rfl) qV rfl rfl ?_;intro bg a w G1 hG HT H fin;exact kH H (Pt rfl rfl fun _ H=>fin H iJ rfl)
   clear H;intro a w G jS H hv;have H:=H.aQ (hv 15 80 rfl rfl) rfl;clear hv;refine kH H (Ra rfl ?_);clear H;intro a H;refine aI ⟨rfl,?_⟩;refine iX _ _ ?_;clear iX;refine lr H results6 rfl ?_
   first|exact H.rt rfl|exact H.rt (aB (aC hE2))
end
section
open Go.ChangeShapes Go.RowKit Go.Deep
abbrev oJ (W:World):GH:=fun k=>W.heap[k]?
theorem afc {W:World} {b o:Nat} {v:aj} (h:W.cell? ⟨b,o,none⟩=some v):aL (oJ W) b o=some v:=by
 unfold World.cell? at h
 unfold aL oJ
 split at h
 ·rename_i c e f hh
  simp only at hh
  rw [hh];simpa using h
 cases h
theorem WG {α:Type} {p:Nat→α→Prop}:∀ n:Nat,(∀ i,i < n→∃ x,p i x)→∃ l:List α,l.length=n∧∀ i x,l[i]?=some x→p i x
 | 0,_=>⟨[],rfl,fun i x h=>by simp at h⟩
 | n+1,h=>by
  obtain ⟨l,hl,hp⟩:=WG n (fun i hi=>h i (by omega));obtain ⟨x,hx⟩:=h n (by omega);refine ⟨l++[x],by simp [hl],fun i y hy=>?_⟩
  by_cases hi:i < l.length
  ·exact hp i y (by rwa [vS hi] at hy)
  rw [vT (by omega)] at hy
  have hin:i - l.length=0:=by
   have:=(ji.1 hy).1
   simp at this;omega
  rw [hin] at hy
  simp only [Bl,nG] at hy
  subst hy;rw [show i=n by omega];exact hx
theorem aaC {H:Type} (d:DataW H):1≤Rows.uptoBulk d:=by
 cases d <;> (try simp only [Rows.uptoBulk]) <;> (try omega)
 rename_i x;cases x <;> simp only [Rows.uptoBulk] <;> omega
theorem SK {H ρ:Type} {dat:ρ→List Dat}:∀ (rs:List ρ) (D:Nat→DataW H),(∀ i r,rs[i]?=some r→dw (dat r)+1≤8*Rows.uptoBulk (D i))→eX (rs.map dat)≤8*Rows.uptoBulkAll ((List.range rs.length).map D)
 | [],D,_=>ig _
 | r :: rs,D,h=>by
  have h0:=h 0 r rfl;have hp:=aaC (D 0);have ih:=SK rs (fun i=>D (i+1)) (fun i r hr=>h (i+1) r (by simpa using hr));rw [nV,List.range_succ_eq_map]
  simp only [eT,List.map_map,eX,Rows.uptoBulkAll]
  have e:(List.map (D ∘ Nat.succ) (List.range rs.length))=(List.map (fun i=>D (i+1)) (List.range rs.length)):=rfl;rw [e];omega
theorem SI {H:Type} {D:Nat→DataW H}:∀ {n i:Nat},i < n→Rows.uptoBulk (D i)≤Rows.uptoBulkAll ((List.range n).map D)
 | 0,i,h=>absurd h (by omega)
 | n+1,i,h=>by
  have key:∀ (l m:List (DataW H)),Rows.uptoBulkAll (l++m)=Rows.uptoBulkAll l+Rows.uptoBulkAll m:=by
   intro l m
   induction l with
   | nil=>simp [Rows.uptoBulkAll]
   | cons x l ih=>simp only [nH,Rows.uptoBulkAll,ih];omega
  rw [List.range_succ,lG,key]
  by_cases hi:i < n
  ·have:=SI (D:=D) hi;omega
  have:i=n:=by omega
  subst this
  simp only [eT,qx,Rows.uptoBulkAll];omega
section
variable {H:Type} {enc:TypeId × aj→H} {P:Program} {W:World} {base:Nat} {spare:Nat→Bool} {held:Bool}
theorem tu {ρ:Type} {dat:ρ→List Dat} {t e:TypeId} {sz:Nat} (hsz:0 < sz) {fuel:Nat} {cs:List aj} {x:DataW H × List MemPlace} (ht:P.underlying t=some (.slice e)) (hc:P.cellsOf e=sz) (h:DataW.trod enc P W base spare held fuel t cs=some x)
  (row:∀ n cs' D Pl,DataW.trod enc P W base spare held n e cs'=some (D,Pl)→Rows.uptoBulk D < Rows.uptoBulk x.1→∃ r:ρ,aZ (oJ W) (dat r) cs'∧dw (dat r)+1≤8*Rows.uptoBulk D) :
  ∃ (rs:List ρ) (v:aj),cs=[v]∧av (oJ W) (.sl sz (rs.map dat)) v∧eX (rs.map dat)+8≤8*Rows.uptoBulk x.1:=by
 rcases open_slice ht h with ⟨rfl,rfl⟩|⟨a,len,cap,m,n,D,Pl,rfl,hb,hl,hm,hmm,rfl,hx⟩
 ·exact ⟨[],_,rfl,av.jo rfl (by decide),by simp [eX,Rows.uptoBulk]⟩
 obtain ⟨rs,hrl,hrs⟩:=WG (p:=fun i (r:ρ)=>∃ cs',W.cells? base (a.add (i*sz)) sz=some cs'∧aZ (oJ W) (dat r) cs'∧dw (dat r)+1≤8*Rows.uptoBulk (D i)) len (fun i hi=>by
  have him:i < m:=by rw [hmm];split <;> omega
  obtain ⟨cs',h1,h2⟩:=hx i him;rw [hc] at h1;have hb1:=SI (D:=D) hi;obtain ⟨r,hr1,hr2⟩:=row n cs' (D i) (Pl i) h2 (by simp only [Rows.uptoBulk];omega)
  exact ⟨r,cs',h1,hr1,hr2⟩)
 refine ⟨rs,_,rfl,?_,?_⟩
 ·simp only [av,bU]
  refine ⟨some a,cap,by rw [hrl],by omega,hm,fun hne=>?_⟩;obtain ⟨b,off,spot⟩:=a
  have hlen:0 < rs.length:=by cases rs with|nil=>simp at hne|cons _ _=>simp
  obtain ⟨cs0,h1,-,-⟩:=hrs 0 rs[0] (gY hlen);obtain ⟨-,hl0,hg0⟩:=World.cells?_some h1
  have hspot:spot=none:=by
   have h3:=hg0 0 hsz;rw [gY (by omega)] at h3
   simpa [Addr.add] using World.cell?_spot h3
  subst hspot;refine ⟨b,off,rfl,lg.mk fun k r hk=>?_⟩;rw [qp] at hk;obtain ⟨y,hy,rfl⟩:=lu.1 hk;obtain ⟨cs',h2,h3,-⟩:=hrs k y hy;obtain ⟨-,hl1,hg1⟩:=World.cells?_some h2;refine ⟨cs',hl1,fun j u hj=>afc ?_,h3⟩
  have hj2:j < sz:=by rw [← hl1];exact (ji.1 hj).1
  have:=hg1 j hj2;rw [add_add,Go.WideShapes.add_plain] at this;rw [show off+k*sz+j=off+(k*sz+j) by omega,this];exact hj
 have:=SK rs D (fun i r hr=>(hrs i r hr).choose_spec.2.2);rw [hrl] at this
 simp only [Rows.uptoBulk];omega
end
structure qo (P:Program) (t:TypeId) (sz:Nat) (fs:List (TypeId × Nat × Nat)):Prop where
 und:P.underlying t=some (.struct (P.fieldsOf t))
 cells:P.cellsOf t=sz
 ug:(P.fieldsOf t).toList.map (fun f=>(f.type,f.offset,P.cellsOf f.type))=fs
theorem qY {P:Program} {H:Type} {enc:TypeId × aj→H} {W:World} {base:Nat} {spare:Nat→Bool} {held:Bool} {t:TypeId} {sz fuel:Nat} {fs:List (TypeId × Nat × Nat)} {cs:List aj} {x:DataW H × List MemPlace} (hs:qo P t sz fs) (h:DataW.trod enc P W base spare held fuel t cs=some x) :
  ∃ (xs:List (DataW H × List MemPlace)) (n:Nat),x.1=.agg (xs.map (·.1))∧cs.length=sz∧xs.length=fs.length∧∀ (i:Nat) (ti:TypeId) (off k:Nat),fs[i]?=some (ti,off,k)→DataW.trod enc P W base spare held n ti ((cs.drop off).take k)=xs[i]?:=by
 obtain ⟨xs,n,-,rfl,hl,hxl,hf⟩:=DataW.trod_struct hs.und h;refine ⟨xs,n,rfl,by rw [hl,hs.cells],by rw [hxl,← hs.ug];simp,fun i ti off k hi=>?_⟩;rw [← hs.ug,qp] at hi;obtain ⟨f,hf1,hf2⟩:=lu.1 hi
 simp only [gK] at hf2
 obtain ⟨rfl,rfl,rfl⟩:=hf2;exact hf i f (by simpa using hf1)
section
variable {H:Type} {enc:TypeId × aj→H} {W:World} {base:Nat} {spare:Nat→Bool} {held:Bool}
theorem akd:qo prog 187 2 [(3,0,1),(3,1,1)]:=⟨by kernel_rfl,by kernel_rfl,by kernel_rfl⟩
theorem XC {n:Nat} {cs:List aj} {D:DataW H} {Pl:List MemPlace} (h:DataW.trod enc prog W base spare held n 187 cs=some (D,Pl)):∃ r:iH,aZ (oJ W) r.dat cs∧dw r.dat+1≤8*Rows.uptoBulk D:=by
 obtain ⟨xs,m,hx,hl,hxl,hf⟩:=qY akd h
 match cs,hl,xs,hxl with
 | [c0,c1],_,[y0,y1],_ =>
  have h0:=hf 0 _ _ _ rfl;have h1:=hf 1 _ _ _ rfl;obtain ⟨k0,e0,d0,-⟩:=DataW.trod_int underlying3 h0;obtain ⟨k1,e1,d1,-⟩:=DataW.trod_int underlying3 h1
  simp at e0 e1
  subst e0 e1
  simp only at hx
  refine ⟨⟨k0,k1⟩,?_,?_⟩
  ·simp [aZ,iH.dat,av,Value.oneCell']
  rw [hx];simp [d0,d1,iH.dat,dw,oP,Rows.uptoBulk,Rows.uptoBulkAll]
theorem ajV:qo prog 190 2 [(3,0,1),(3,1,1)]:=⟨by kernel_rfl,by kernel_rfl,by kernel_rfl⟩
theorem ajd {n:Nat} {cs:List aj} {D:DataW H} {Pl:List MemPlace} (h:DataW.trod enc prog W base spare held n 190 cs=some (D,Pl)):∃ r:jE,aZ (oJ W) r.dat cs∧dw r.dat+1≤8*Rows.uptoBulk D:=by
 obtain ⟨xs,m,hx,hl,hxl,hf⟩:=qY ajV h
 match cs,hl,xs,hxl with
 | [c0,c1],_,[y0,y1],_ =>
  have h0:=hf 0 _ _ _ rfl;have h1:=hf 1 _ _ _ rfl;obtain ⟨k0,e0,d0,-⟩:=DataW.trod_int underlying3 h0;obtain ⟨k1,e1,d1,-⟩:=DataW.trod_int underlying3 h1
  simp at e0 e1
  subst e0 e1
  simp only at hx
  refine ⟨⟨k0,k1⟩,?_,?_⟩
  ·simp [aZ,jE.dat,av,Value.oneCell']
  rw [hx];simp [d0,d1,jE.dat,dw,oP,Rows.uptoBulk,Rows.uptoBulkAll]
theorem ajY:qo prog 199 4 [(3,0,1),(3,1,1),(3,2,1),(4,3,1)]:=⟨by kernel_rfl,by kernel_rfl,by kernel_rfl⟩
theorem ajg {n:Nat} {cs:List aj} {D:DataW H} {Pl:List MemPlace} (h:DataW.trod enc prog W base spare held n 199 cs=some (D,Pl)):∃ r:jh,aZ (oJ W) r.dat cs∧dw r.dat+1≤8*Rows.uptoBulk D:=by
 obtain ⟨xs,m,hx,hl,hxl,hf⟩:=qY ajY h
 match cs,hl,xs,hxl with
 | [c0,c1,c2,c3],_,[y0,y1,y2,y3],_ =>
  have h0:=hf 0 _ _ _ rfl;have h1:=hf 1 _ _ _ rfl;have h2:=hf 2 _ _ _ rfl;have h3:=hf 3 _ _ _ rfl;obtain ⟨k0,e0,d0,-⟩:=DataW.trod_int underlying3 h0;obtain ⟨k1,e1,d1,-⟩:=DataW.trod_int underlying3 h1;obtain ⟨k2,e2,d2,-⟩:=DataW.trod_int underlying3 h2;obtain ⟨k3,e3,d3⟩:=DataW.trod_bool underlying4 h3
  simp at e0 e1 e2 e3
  subst e0 e1 e2 e3
  simp only at hx
  refine ⟨⟨k0,k1,k2,k3⟩,?_,?_⟩
  ·simp [aZ,jh.dat,av,Value.oneCell']
  rw [hx];simp [d0,d1,d2,d3,jh.dat,dw,oP,Rows.uptoBulk,Rows.uptoBulkAll]
theorem akc:qo prog 27 4 [(3,0,1),(3,1,1),(24,2,1),(25,3,1)]:=⟨by kernel_rfl,by kernel_rfl,by kernel_rfl⟩
theorem ajW:qo prog 29 5 [(23,0,1),(27,1,4)]:=⟨by kernel_rfl,by kernel_rfl,by kernel_rfl⟩
theorem Td:prog.cellsOf 187=2:=by kernel_rfl
theorem aaQ:prog.cellsOf 190=2:=by kernel_rfl
theorem aaR:prog.cellsOf 199=4:=by kernel_rfl
theorem KP {n:Nat} {cs:List aj} {x:DataW H × List MemPlace} (h:DataW.trod enc prog W base spare held n 29 cs=some x):∃ (r:iG) (p d l:aj),cs=[p,vi r.marks.ins,vi r.marks.move,d,l]∧jI (oJ W) r p d l∧qh r+15≤8*Rows.uptoBulk x.1:=by
 obtain ⟨xs,m,hx,hl,hxl,hf⟩:=qY ajW h
 match cs,hl,xs,hxl with
 | [c0,c1,c2,c3,c4],_,[y0,y1],_ =>
  have h0:=hf 0 _ _ _ rfl;have h1:=hf 1 _ _ _ rfl;obtain ⟨ps,pv,e0,rp,sp⟩:=tu (dat:=iH.dat) (sz:=2) (by omega) underlying23 Td h0 (fun n cs' D Pl hh _=>XC hh);obtain ⟨zs,m2,hz,hzl,hzx,yY⟩:=qY akc h1
  match zs,hzx with
  | [z0,z1,z2,z3],_ =>
   have g0:=yY 0 _ _ _ rfl;have g1:=yY 1 _ _ _ rfl;have g2:=yY 2 _ _ _ rfl;have g3:=yY 3 _ _ _ rfl;obtain ⟨k0,e1,d0,-⟩:=DataW.trod_int underlying3 g0;obtain ⟨k1,e2,d1,-⟩:=DataW.trod_int underlying3 g1;obtain ⟨ds,dv,e3,rd,sd⟩:=tu (dat:=jE.dat) (sz:=2) (by omega) underlying24 aaQ g2 (fun n cs' D Pl hh _=>ajd hh);obtain ⟨ls,lv,e4,rl,sl⟩:=tu (dat:=jh.dat) (sz:=4) (by omega) underlying25 aaR g3 (fun n cs' D Pl hh _=>ajg hh)
   simp at e0 e1 e2 e3 e4
   subst e0 e1 e2 e3 e4;refine ⟨⟨ps,⟨k0,k1,ds,ls⟩⟩,_,_,_,rfl,⟨rp,rd,rl⟩,?_⟩;have hzh:=IK ⟨ps,⟨k0,k1,ds,ls⟩⟩
   simp only at hzh
   rw [hx]
   simp only [eT,qx,Rows.uptoBulk,Rows.uptoBulkAll,hz,d0,d1]
   omega
theorem ajX:qo prog 63 11 [(3,0,1),(3,1,1),(3,2,1),(9,3,1),(29,4,5),(22,9,1),(61,10,1)]:=⟨by kernel_rfl,by kernel_rfl,by kernel_rfl⟩
theorem ake:qo prog 96 6 [(29,0,5),(94,5,1)]:=⟨by kernel_rfl,by kernel_rfl,by kernel_rfl⟩
theorem ajT:qo prog 98 7 [(3,0,1),(29,1,5),(22,6,1)]:=⟨by kernel_rfl,by kernel_rfl,by kernel_rfl⟩
theorem MF:prog.cellsOf 63=11:=by kernel_rfl
theorem aaU:prog.cellsOf 96=6:=by kernel_rfl
theorem aaO:prog.cellsOf 98=7:=by kernel_rfl
theorem XB:∀ (N:Nat) (n:Nat) (cs:List aj) (D:DataW H) (Pl:List MemPlace),DataW.trod enc prog W base spare held n 63 cs=some (D,Pl)→Rows.uptoBulk D < N→∃ r:ay,aZ (oJ W) r.dat cs∧dw r.dat+1≤8*Rows.uptoBulk D
 | 0,_,_,_,_,_,hN=>absurd hN (by omega)
 | N+1,n,cs,D,Pl,h,hN=>by
  have ih:=XB N;obtain ⟨xs,m,hx,hl,hxl,hf⟩:=qY ajX h
  match cs,hl,xs,hxl with
  | [c0,c1,c2,c3,c4,c5,c6,c7,c8,c9,c10],_,[y0,y1,y2,y3,y4,y5,y6],_ =>
   have h0:=hf 0 _ _ _ rfl;have h1:=hf 1 _ _ _ rfl;have h2:=hf 2 _ _ _ rfl;have h3:=hf 3 _ _ _ rfl;have h4:=hf 4 _ _ _ rfl;have h5:=hf 5 _ _ _ rfl;have h6:=hf 6 _ _ _ rfl
   simp only at hx
   have hD:Rows.uptoBulk D=Rows.uptoBulk y0.1+(Rows.uptoBulk y1.1+(Rows.uptoBulk y2.1+(Rows.uptoBulk y3.1+(Rows.uptoBulk y4.1+(Rows.uptoBulk y5.1+(Rows.uptoBulk y6.1+0))))))+1:=by
    rw [hx];simp only [eT,qx,Rows.uptoBulk,Rows.uptoBulkAll]
   obtain ⟨k0,e0,d0,-⟩:=DataW.trod_int underlying3 h0;obtain ⟨k1,e1,d1,-⟩:=DataW.trod_int underlying3 h1;obtain ⟨k2,e2,d2,-⟩:=DataW.trod_int underlying3 h2;obtain ⟨s,e3,d3,-⟩:=DataW.trod_string underlying9 h3;obtain ⟨hd,p,d,l,e4,rh,sh⟩:=KP h4;obtain ⟨fl,fv,e5,rf,sf⟩:=tu (dat:=ay.dat) (sz:=11) (by omega) underlying22 MF h5 (fun n cs' D' dz hh hlt=>ih n cs' D' dz hh (by omega))
   obtain ⟨rs,rv,e6,rr,sr⟩:=tu (dat:=bP.dat) (sz:=6) (by omega) underlying61 aaU h6 (fun n cs' D' dz hh hlt=>by
    obtain ⟨xs,m,hx,hl,hxl,hf⟩:=qY ake hh
    match cs',hl,xs,hxl with
    | [a0,a1,a2,a3,a4,a5],_,[w0,w1],_ =>
     have g0:=hf 0 _ _ _ rfl;have g1:=hf 1 _ _ _ rfl
     simp only at hx
     have hD':Rows.uptoBulk D'=Rows.uptoBulk w0.1+(Rows.uptoBulk w1.1+0)+1:=by
      rw [hx];simp only [eT,qx,Rows.uptoBulk,Rows.uptoBulkAll]
     obtain ⟨hd2,p2,d2',l2,q0,rh2,sh2⟩:=KP g0
     obtain ⟨cl,cv,q1,rc,sc⟩:=tu (dat:=bO.dat) (sz:=7) (by omega) underlying94 aaO g1 (fun n cs'' Zq alv hh2 hlt2=>by
      obtain ⟨xs,m,hx2,hl2,ahj,hf2⟩:=qY ajT hh2
      match cs'',hl2,xs,ahj with
      | [b0,b1,b2,b3,b4,b5,b6],_,[v0,v1,v2],_ =>
       have u0:=hf2 0 _ _ _ rfl;have u1:=hf2 1 _ _ _ rfl;have u2:=hf2 2 _ _ _ rfl
       simp only at hx2
       have alB:Rows.uptoBulk Zq=Rows.uptoBulk v0.1+(Rows.uptoBulk v1.1+(Rows.uptoBulk v2.1+0))+1:=by
        rw [hx2];simp only [eT,qx,Rows.uptoBulk,Rows.uptoBulkAll]
       obtain ⟨j0,t0,z0,-⟩:=DataW.trod_int underlying3 u0;obtain ⟨hd3,p3,d3',l3,t1,rh3,sh3⟩:=KP u1;obtain ⟨Nv,fv3,t2,rf3,sf3⟩:=tu (dat:=ay.dat) (sz:=11) (by omega) underlying22 MF u2 (fun n cs3 D3 Pl3 hh3 hlt3=>ih n cs3 D3 Pl3 hh3 (by omega))
       simp at t0 t1 t2
       obtain ⟨rfl,rfl,rfl,rfl,rfl⟩:=t1;subst t0 t2;have hz:=Bd (bO.mk j0 hd3 Nv)
       simp only [bO.head,bO.flow] at hz
       have bz:Rows.uptoBulk v0.1=1:=by rw [z0];rfl
       exact ⟨bO.mk j0 hd3 Nv,aZ.WY (x:=bO.mk j0 hd3 Nv) rh3 rf3,by simp only [bq] at hz;omega⟩)
     simp at q0 q1
     obtain ⟨rfl,rfl,rfl,rfl,rfl⟩:=q0;subst q1;have hz:=Bf (bP.mk hd2 cl)
     simp only [bP.head,bP.cells] at hz
     exact ⟨bP.mk hd2 cl,aZ.WZ (x:=bP.mk hd2 cl) rh2 rc,by simp only [jA] at hz;omega⟩)
   simp at e0 e1 e2 e3 e4 e5 e6
   obtain ⟨rfl,rfl,rfl,rfl,rfl⟩:=e4;subst e0 e1 e2 e3 e5 e6;have hz:=nU (ay.mk k0 k1 k2 s hd fl rs)
   simp only [ay.text,ay.head,ay.flow,ay.rows] at hz
   have b0:Rows.uptoBulk y0.1=1:=by rw [d0];rfl
   have b1:Rows.uptoBulk y1.1=1:=by rw [d1];rfl
   have b2:Rows.uptoBulk y2.1=1:=by rw [d2];rfl
   have b3:Rows.uptoBulk y3.1=s.size+1:=by rw [d3];show s.data.toList.length+1=s.data.size+1;rw [uO]
   exact ⟨ay.mk k0 k1 k2 s hd fl rs,aZ.mkItem (x:=ay.mk k0 k1 k2 s hd fl rs) rh rf rr,by simp only [bq,gZ] at hz;omega⟩
theorem ajf {n:Nat} {cs:List aj} {x:DataW H × List MemPlace} (h:DataW.trod enc prog W base spare held n 22 cs=some x):∃ (l:List ay) (v:aj),cs=[v]∧av (oJ W) (.sl 11 (l.map ay.dat)) v∧bq l+8≤8*Rows.uptoBulk x.1 :=
 tu (dat:=ay.dat) (sz:=11) (by omega) underlying22 MF h (fun n cs' D' dz hh _=>XB _ n cs' D' dz hh (Nat.lt_succ_self _))
end
end
section
open Go.ChangeShapes Go.RowKit Go.Deep
theorem Ea {ρ:Type} {dat:ρ→List Dat}:∀ {l:List ρ} {x:ρ},x∈l→dw (dat x)+1≤eX (l.map dat)
 | y :: l,x,h=>by
  rw [eT,eX]
  rcases lq.1 h with rfl|h
  ·omega
  have:=Ea (dat:=dat) h;omega
section
variable {H:Type} {enc:TypeId × aj→H} {W:World} {base:Nat} {spare:Nat→Bool} {held:Bool}
theorem akh:qo prog 181 6 [(3,0,1),(3,1,1),(9,2,1),(3,3,1),(3,4,1),(23,5,1)]:=⟨by kernel_rfl,by kernel_rfl,by kernel_rfl⟩
theorem aaW:prog.cellsOf 181=6:=by kernel_rfl
theorem ajl {n:Nat} {cs:List aj} {D:DataW H} {Pl:List MemPlace} (h:DataW.trod enc prog W base spare held n 181 cs=some (D,Pl)):∃ r:bR,aZ (oJ W) r.dat cs∧dw r.dat+1≤8*Rows.uptoBulk D:=by
 obtain ⟨xs,m,hx,hl,hxl,hf⟩:=qY akh h
 match cs,hl,xs,hxl with
 | [c0,c1,c2,c3,c4,c5],_,[y0,y1,y2,y3,y4,y5],_ =>
  have h0:=hf 0 _ _ _ rfl;have h1:=hf 1 _ _ _ rfl;have h2:=hf 2 _ _ _ rfl;have h3:=hf 3 _ _ _ rfl;have h4:=hf 4 _ _ _ rfl;have h5:=hf 5 _ _ _ rfl
  simp only at hx
  have hD:Rows.uptoBulk D=Rows.uptoBulk y0.1+(Rows.uptoBulk y1.1+(Rows.uptoBulk y2.1+(Rows.uptoBulk y3.1+(Rows.uptoBulk y4.1+(Rows.uptoBulk y5.1+0)))))+1:=by rw [hx];simp only [eT,qx,Rows.uptoBulk,Rows.uptoBulkAll]
  obtain ⟨k0,e0,d0,-⟩:=DataW.trod_int underlying3 h0;obtain ⟨k1,e1,d1,-⟩:=DataW.trod_int underlying3 h1;obtain ⟨k2,e2,d2,-⟩:=DataW.trod_string underlying9 h2;obtain ⟨k3,e3,d3,-⟩:=DataW.trod_int underlying3 h3;obtain ⟨k4,e4,d4,-⟩:=DataW.trod_int underlying3 h4;obtain ⟨k5,q5,e5,r5,d5⟩:=tu (dat:=iH.dat) (sz:=2) (by omega) underlying23 Td h5 (fun n cs' D Pl hh _=>XC hh)
  simp at e0 e1 e2 e3 e4 e5
  subst e0 e1 e2 e3 e4 e5
  have b0:Rows.uptoBulk y0.1=1:=by rw [d0];rfl
  have b1:Rows.uptoBulk y1.1=1:=by rw [d1];rfl
  have b2:Rows.uptoBulk y2.1=k2.size+1:=by rw [d2];show k2.data.toList.length+1=k2.data.size+1;rw [uO]
  have b3:Rows.uptoBulk y3.1=1:=by rw [d3];rfl
  have b4:Rows.uptoBulk y4.1=1:=by rw [d4];rfl
  refine ⟨⟨k0,k1,k2,k3,k4,k5⟩,?_,?_⟩
  ·exact ⟨_,_,rfl,(by simp [av,Value.oneCell']),⟨_,_,rfl,(by simp [av,Value.oneCell']),⟨_,_,rfl,(by simp [av,Value.oneCell']),⟨_,_,rfl,(by simp [av,Value.oneCell']),⟨_,_,rfl,(by simp [av,Value.oneCell']),⟨_,_,rfl,r5,rfl⟩⟩⟩⟩⟩⟩
  simp only [bR.dat,dw,oP];omega
theorem akb:qo prog 230 4 [(3,0,1),(3,1,1),(9,2,1),(3,3,1)]:=⟨by kernel_rfl,by kernel_rfl,by kernel_rfl⟩
theorem aaT:prog.cellsOf 230=4:=by kernel_rfl
theorem ajh {n:Nat} {cs:List aj} {D:DataW H} {Pl:List MemPlace} (h:DataW.trod enc prog W base spare held n 230 cs=some (D,Pl)):∃ r:oC,aZ (oJ W) r.dat cs∧dw r.dat+1≤8*Rows.uptoBulk D:=by
 obtain ⟨xs,m,hx,hl,hxl,hf⟩:=qY akb h
 match cs,hl,xs,hxl with
 | [c0,c1,c2,c3],_,[y0,y1,y2,y3],_ =>
  have h0:=hf 0 _ _ _ rfl;have h1:=hf 1 _ _ _ rfl;have h2:=hf 2 _ _ _ rfl;have h3:=hf 3 _ _ _ rfl
  simp only at hx
  have hD:Rows.uptoBulk D=Rows.uptoBulk y0.1+(Rows.uptoBulk y1.1+(Rows.uptoBulk y2.1+(Rows.uptoBulk y3.1+0)))+1:=by rw [hx];simp only [eT,qx,Rows.uptoBulk,Rows.uptoBulkAll]
  obtain ⟨k0,e0,d0,-⟩:=DataW.trod_int underlying3 h0;obtain ⟨k1,e1,d1,-⟩:=DataW.trod_int underlying3 h1;obtain ⟨k2,e2,d2,-⟩:=DataW.trod_string underlying9 h2;obtain ⟨k3,e3,d3,-⟩:=DataW.trod_int underlying3 h3
  simp at e0 e1 e2 e3
  subst e0 e1 e2 e3
  have b0:Rows.uptoBulk y0.1=1:=by rw [d0];rfl
  have b1:Rows.uptoBulk y1.1=1:=by rw [d1];rfl
  have b2:Rows.uptoBulk y2.1=k2.size+1:=by rw [d2];show k2.data.toList.length+1=k2.data.size+1;rw [uO]
  have b3:Rows.uptoBulk y3.1=1:=by rw [d3];rfl
  refine ⟨⟨k0,k1,k2,k3⟩,?_,?_⟩
  ·exact ⟨_,_,rfl,(by simp [av,Value.oneCell']),⟨_,_,rfl,(by simp [av,Value.oneCell']),⟨_,_,rfl,(by simp [av,Value.oneCell']),⟨_,_,rfl,(by simp [av,Value.oneCell']),rfl⟩⟩⟩⟩
  simp only [oC.dat,dw,oP];omega
theorem ajZ:qo prog 184 2 [(3,0,1),(182,1,1)]:=⟨by kernel_rfl,by kernel_rfl,by kernel_rfl⟩
theorem aaS:prog.cellsOf 184=2:=by kernel_rfl
theorem aji {n:Nat} {cs:List aj} {D:DataW H} {Pl:List MemPlace} (h:DataW.trod enc prog W base spare held n 184 cs=some (D,Pl)):∃ r:fV,aZ (oJ W) r.dat cs∧dw r.dat+1≤8*Rows.uptoBulk D:=by
 obtain ⟨xs,m,hx,hl,hxl,hf⟩:=qY ajZ h
 match cs,hl,xs,hxl with
 | [c0,c1],_,[y0,y1],_ =>
  have h0:=hf 0 _ _ _ rfl;have h1:=hf 1 _ _ _ rfl
  simp only at hx
  have hD:Rows.uptoBulk D=Rows.uptoBulk y0.1+(Rows.uptoBulk y1.1+0)+1:=by rw [hx];simp only [eT,qx,Rows.uptoBulk,Rows.uptoBulkAll]
  obtain ⟨k0,e0,d0,-⟩:=DataW.trod_int underlying3 h0;obtain ⟨k1,q1,e1,r1,d1⟩:=tu (dat:=oC.dat) (sz:=4) (by omega) underlying182 aaT h1 (fun n cs' D Pl hh _=>ajh hh)
  simp at e0 e1
  subst e0 e1
  have b0:Rows.uptoBulk y0.1=1:=by rw [d0];rfl
  refine ⟨⟨k0,k1⟩,?_,?_⟩
  ·exact ⟨_,_,rfl,(by simp [av,Value.oneCell']),⟨_,_,rfl,r1,rfl⟩⟩
  simp only [fV.dat,dw,oP];omega
theorem ajU:qo prog 67 6 [(3,0,1),(3,1,1),(9,2,1),(3,3,1),(9,4,1),(4,5,1)]:=⟨by kernel_rfl,by kernel_rfl,by kernel_rfl⟩
theorem aaP:prog.cellsOf 67=6:=by kernel_rfl
theorem ajc {n:Nat} {cs:List aj} {D:DataW H} {Pl:List MemPlace} (h:DataW.trod enc prog W base spare held n 67 cs=some (D,Pl)):∃ r:iL,aZ (oJ W) r.dat cs∧dw r.dat+1≤8*Rows.uptoBulk D:=by
 obtain ⟨xs,m,hx,hl,hxl,hf⟩:=qY ajU h
 match cs,hl,xs,hxl with
 | [c0,c1,c2,c3,c4,c5],_,[y0,y1,y2,y3,y4,y5],_ =>
  have h0:=hf 0 _ _ _ rfl;have h1:=hf 1 _ _ _ rfl;have h2:=hf 2 _ _ _ rfl;have h3:=hf 3 _ _ _ rfl;have h4:=hf 4 _ _ _ rfl;have h5:=hf 5 _ _ _ rfl
  simp only at hx
  have hD:Rows.uptoBulk D=Rows.uptoBulk y0.1+(Rows.uptoBulk y1.1+(Rows.uptoBulk y2.1+(Rows.uptoBulk y3.1+(Rows.uptoBulk y4.1+(Rows.uptoBulk y5.1+0)))))+1:=by rw [hx];simp only [eT,qx,Rows.uptoBulk,Rows.uptoBulkAll]
  obtain ⟨k0,e0,d0,-⟩:=DataW.trod_int underlying3 h0;obtain ⟨k1,e1,d1,-⟩:=DataW.trod_int underlying3 h1;obtain ⟨k2,e2,d2,-⟩:=DataW.trod_string underlying9 h2;obtain ⟨k3,e3,d3,-⟩:=DataW.trod_int underlying3 h3;obtain ⟨k4,e4,d4,-⟩:=DataW.trod_string underlying9 h4;obtain ⟨k5,e5,d5⟩:=DataW.trod_bool underlying4 h5
  simp at e0 e1 e2 e3 e4 e5
  subst e0 e1 e2 e3 e4 e5
  have b0:Rows.uptoBulk y0.1=1:=by rw [d0];rfl
  have b1:Rows.uptoBulk y1.1=1:=by rw [d1];rfl
  have b2:Rows.uptoBulk y2.1=k2.size+1:=by rw [d2];show k2.data.toList.length+1=k2.data.size+1;rw [uO]
  have b3:Rows.uptoBulk y3.1=1:=by rw [d3];rfl
  have b4:Rows.uptoBulk y4.1=k4.size+1:=by rw [d4];show k4.data.toList.length+1=k4.data.size+1;rw [uO]
  have b5:Rows.uptoBulk y5.1=1:=by rw [d5];rfl
  refine ⟨⟨k0,k1,k2,k3,k4,k5⟩,?_,?_⟩
  ·exact ⟨_,_,rfl,(by simp [av,Value.oneCell']),⟨_,_,rfl,(by simp [av,Value.oneCell']),⟨_,_,rfl,(by simp [av,Value.oneCell']),⟨_,_,rfl,(by simp [av,Value.oneCell']),⟨_,_,rfl,(by simp [av,Value.oneCell']),⟨_,_,rfl,(by simp [av,Value.oneCell']),rfl⟩⟩⟩⟩⟩⟩
  simp only [iL.dat,dw,oP];omega
theorem aki:qo prog 219 2 [(9,0,1),(9,1,1)]:=⟨by kernel_rfl,by kernel_rfl,by kernel_rfl⟩
theorem aaX:prog.cellsOf 219=2:=by kernel_rfl
theorem ajm {n:Nat} {cs:List aj} {D:DataW H} {Pl:List MemPlace} (h:DataW.trod enc prog W base spare held n 219 cs=some (D,Pl)):∃ r:mh,aZ (oJ W) r.dat cs∧dw r.dat+1≤8*Rows.uptoBulk D:=by
 obtain ⟨xs,m,hx,hl,hxl,hf⟩:=qY aki h
 match cs,hl,xs,hxl with
 | [c0,c1],_,[y0,y1],_ =>
  have h0:=hf 0 _ _ _ rfl;have h1:=hf 1 _ _ _ rfl
  simp only at hx
  have hD:Rows.uptoBulk D=Rows.uptoBulk y0.1+(Rows.uptoBulk y1.1+0)+1:=by rw [hx];simp only [eT,qx,Rows.uptoBulk,Rows.uptoBulkAll]
  obtain ⟨k0,e0,d0,-⟩:=DataW.trod_string underlying9 h0;obtain ⟨k1,e1,d1,-⟩:=DataW.trod_string underlying9 h1
  simp at e0 e1
  subst e0 e1
  have b0:Rows.uptoBulk y0.1=k0.size+1:=by rw [d0];show k0.data.toList.length+1=k0.data.size+1;rw [uO]
  have b1:Rows.uptoBulk y1.1=k1.size+1:=by rw [d1];show k1.data.toList.length+1=k1.data.size+1;rw [uO]
  refine ⟨⟨k0,k1⟩,?_,?_⟩
  ·exact ⟨_,_,rfl,(by simp [av,Value.oneCell']),⟨_,_,rfl,(by simp [av,Value.oneCell']),rfl⟩⟩
  simp only [mh.dat,dw,oP];omega
theorem akf:qo prog 176 3 [(3,0,1),(9,1,1),(3,2,1)]:=⟨by kernel_rfl,by kernel_rfl,by kernel_rfl⟩
theorem aaV:prog.cellsOf 176=3:=by kernel_rfl
theorem ajj {n:Nat} {cs:List aj} {D:DataW H} {Pl:List MemPlace} (h:DataW.trod enc prog W base spare held n 176 cs=some (D,Pl)):∃ r:fG,aZ (oJ W) r.dat cs∧dw r.dat+1≤8*Rows.uptoBulk D:=by
 obtain ⟨xs,m,hx,hl,hxl,hf⟩:=qY akf h
 match cs,hl,xs,hxl with
 | [c0,c1,c2],_,[y0,y1,y2],_ =>
  have h0:=hf 0 _ _ _ rfl;have h1:=hf 1 _ _ _ rfl;have h2:=hf 2 _ _ _ rfl
  simp only at hx
  have hD:Rows.uptoBulk D=Rows.uptoBulk y0.1+(Rows.uptoBulk y1.1+(Rows.uptoBulk y2.1+0))+1:=by rw [hx];simp only [eT,qx,Rows.uptoBulk,Rows.uptoBulkAll]
  obtain ⟨k0,e0,d0,-⟩:=DataW.trod_int underlying3 h0;obtain ⟨k1,e1,d1,-⟩:=DataW.trod_string underlying9 h1;obtain ⟨k2,e2,d2,-⟩:=DataW.trod_int underlying3 h2
  simp at e0 e1 e2
  subst e0 e1 e2
  have b0:Rows.uptoBulk y0.1=1:=by rw [d0];rfl
  have b1:Rows.uptoBulk y1.1=k1.size+1:=by rw [d1];show k1.data.toList.length+1=k1.data.size+1;rw [uO]
  have b2:Rows.uptoBulk y2.1=1:=by rw [d2];rfl
  refine ⟨⟨k0,k1,k2⟩,?_,?_⟩
  ·exact ⟨_,_,rfl,(by simp [av,Value.oneCell']),⟨_,_,rfl,(by simp [av,Value.oneCell']),⟨_,_,rfl,(by simp [av,Value.oneCell']),rfl⟩⟩⟩
  simp only [fG.dat,dw,oP];omega
theorem akg:qo prog 36 4 [(31,0,1),(32,1,1),(33,2,1),(34,3,1)]:=⟨by kernel_rfl,by kernel_rfl,by kernel_rfl⟩
structure Mg (s:zL) (n:Nat):Prop where
 st:eX (s.styles.map bR.dat)≤n
 li:eX (s.lists.map fV.dat)≤n
 cm:eX (s.comments.map iL.dat)≤n
 va:eX (s.vars.map mh.dat)≤n
theorem Mg.zn {s:zL} {n:Nat} (h:Mg s n) (hn:n≤4294967296):Mh s∧s.styles.length≤4294967296:=by
 obtain ⟨h1,h2,h3,h4⟩:=h;have l1:=sj (s.styles.map bR.dat);have l2:=sj (s.lists.map fV.dat);have l3:=sj (s.comments.map iL.dat);have l4:=sj (s.vars.map mh.dat);rw [bU] at l1 l2 l3 l4;refine ⟨⟨fun x hx=>?_,by omega,fun x hx y hy=>?_,by omega,fun x hx=>?_,by omega,fun x hx=>?_⟩,by omega⟩
 ·have:=Ea (dat:=bR.dat) hx
  simp only [bR.dat,dw,oP] at this;omega
 ·have:=Ea (dat:=fV.dat) hx
  simp only [fV.dat,dw,oP] at this
  have h5:=Ea (dat:=oC.dat) hy
  simp only [oC.dat,dw,oP] at h5;omega
 ·have:=Ea (dat:=iL.dat) hx
  simp only [iL.dat,dw,oP] at this;omega
 have:=Ea (dat:=mh.dat) hx
 simp only [mh.dat,dw,oP] at this;omega
theorem ajk {n:Nat} {cs:List aj} {x:DataW H × List MemPlace} (h:DataW.trod enc prog W base spare held n 36 cs=some x):∃ (s:zL) (a b c d:aj),cs=[a,b,c,d]∧Et (oJ W) s a b c d∧Mg s (8*Rows.uptoBulk x.1):=by
 obtain ⟨xs,m,hx,hl,hxl,hf⟩:=qY akg h
 match cs,hl,xs,hxl with
 | [c0,c1,c2,c3],_,[y0,y1,y2,y3],_ =>
  have h0:=hf 0 _ _ _ rfl;have h1:=hf 1 _ _ _ rfl;have h2:=hf 2 _ _ _ rfl;have h3:=hf 3 _ _ _ rfl;obtain ⟨k0,q0,e0,r0,d0⟩:=tu (dat:=bR.dat) (sz:=6) (by omega) underlying31 aaW h0 (fun n cs' D Pl hh _=>ajl hh);obtain ⟨k1,q1,e1,r1,d1⟩:=tu (dat:=fV.dat) (sz:=2) (by omega) underlying32 aaS h1 (fun n cs' D Pl hh _=>aji hh);obtain ⟨k2,q2,e2,r2,d2⟩:=tu (dat:=iL.dat) (sz:=6) (by omega) underlying33 aaP h2 (fun n cs' D Pl hh _=>ajc hh);obtain ⟨k3,q3,e3,r3,d3⟩:=tu (dat:=mh.dat) (sz:=2) (by omega) underlying34 aaX h3 (fun n cs' D Pl hh _=>ajm hh)
  simp at e0 e1 e2 e3
  subst e0 e1 e2 e3
  have hD:Rows.uptoBulk x.1=Rows.uptoBulk y0.1+(Rows.uptoBulk y1.1+(Rows.uptoBulk y2.1+(Rows.uptoBulk y3.1+0)))+1:=by rw [hx];simp only [eT,qx,Rows.uptoBulk,Rows.uptoBulkAll]
  exact ⟨⟨k0,k1,k2,k3⟩,_,_,_,_,rfl,⟨r0,r1,r2,r3⟩,⟨by show eX (k0.map _)≤_;omega,by show eX (k1.map _)≤_;omega,by show eX (k2.map _)≤_;omega,by show eX (k3.map _)≤_;omega⟩⟩
theorem Ya:qo prog 38 11 [(22,0,1),(29,1,5),(30,6,1),(36,7,4)]:=⟨by kernel_rfl,by kernel_rfl,by kernel_rfl⟩
theorem AU {G:GH} {sz:Nat} {rs:List (List Dat)} {v:aj} (h:av G (.sl sz rs) v):∃ x,v=fI x:=by
 obtain ⟨a,n,c,rfl⟩:=h.form;exact ⟨(a,n,c),rfl⟩
theorem aje {n:Nat} {cs:List aj} {x:DataW H × List MemPlace} (h:DataW.trod enc prog W base spare held n 38 cs=some x) (hb:Rows.uptoBulk x.1≤1048576):∃ (D:nE) (d:wL),cs=D.cells∧Cr (oJ W) D d∧IY d:=by
 obtain ⟨xs,m,hx,hl,hxl,hf⟩:=qY Ya h
 match cs,hl,xs,hxl with
 | [c0,c1,c2,c3,c4,c5,c6,c7,c8,c9,c10],_,[y0,y1,y2,y3],_ =>
  have h0:=hf 0 _ _ _ rfl;have h1:=hf 1 _ _ _ rfl;have h2:=hf 2 _ _ _ rfl;have h3:=hf 3 _ _ _ rfl;obtain ⟨l,q0,e0,r0,d0⟩:=ajf h0;obtain ⟨hd,p,dd,ll,e1,r1,d1⟩:=KP h1;obtain ⟨rv,q2,e2,r2,d2⟩:=tu (dat:=fG.dat) (sz:=3) (by omega) underlying30 aaV h2 (fun n cs' D Pl hh _=>ajj hh);obtain ⟨s,a,b,c,d,e3,r3,d3⟩:=ajk h3
  simp at e0 e1 e2 e3
  obtain ⟨rfl,rfl,rfl,rfl,rfl⟩:=e1;obtain ⟨rfl,rfl,rfl,rfl⟩:=e3;subst e0 e2
  have hD:Rows.uptoBulk x.1=Rows.uptoBulk y0.1+(Rows.uptoBulk y1.1+(Rows.uptoBulk y2.1+(Rows.uptoBulk y3.1+0)))+1:=by rw [hx];simp only [eT,qx,Rows.uptoBulk,Rows.uptoBulkAll]
  obtain ⟨x0,rfl⟩:=AU r0;obtain ⟨x1,rfl⟩:=AU r1.props;obtain ⟨x2,rfl⟩:=AU r1.dh;obtain ⟨x3,rfl⟩:=AU r1.layers;obtain ⟨x4,rfl⟩:=AU r2;obtain ⟨x5,rfl⟩:=AU r3.st;obtain ⟨x6,rfl⟩:=AU r3.li;obtain ⟨x7,rfl⟩:=AU r3.cm;obtain ⟨x8,rfl⟩:=AU r3.va;obtain ⟨hz1,hz2⟩:=d3.zn (by omega);have l2:=sj (rv.map fG.dat);rw [bU] at l2;refine ⟨⟨x0,x1,x2,x3,x4,x5,x6,x7,x8,hd.marks.ins,hd.marks.move⟩,⟨l,hd,rv,s⟩,rfl,⟨r0,r1,rfl,rfl,r2,r3⟩,⟨by show bq l≤_;omega,by show qh hd≤_;omega,by show rv.length≤_;omega,fun x hx=>?_,hz2,hz1⟩⟩;have:=Ea (dat:=fG.dat) hx
  simp only [fG.dat,dw,oP] at this
  omega
end
end
end Go.Proofs.YteopmoocmoigcaaGreat
