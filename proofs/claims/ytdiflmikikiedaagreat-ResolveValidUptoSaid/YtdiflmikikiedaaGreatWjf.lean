/-
  What the claim stands on, part 6: Nm Nml Nd13 Hg24 Ne13 Npre Rv24 Dx24 Cd24 Wh24 Dn Mw24 Kt Par Pas L14 L14b L14c It Div Nrm L14d L14e Sl Sm16 Kn24 Ls24 Eqi En Stq Dms Deq Rl24 Rk24 Vw24 Rj24 Cm24 Cn24 Cp24 Pj24 Dnc Dpk Sd24 Odc.
-/
import Derived.Test.YtdiflmikikiedaaGreatWje
namespace Go.Proofs.YtdiflmikikiedaaGreat
set_option linter.all false
open Go.Proofs.Tryz
open Go.RowKit
theorem Vz:aQ 58:=aR func58 rfl
theorem aoo:aQ 109:=aR func109 rfl
theorem aqr:aQ 52:=aR func52 rfl
theorem aoq:aQ 112:=aR func112 rfl
theorem ape:aQ 173:=aR func173 rfl
theorem aop:aQ 111:=aR func111 rfl
theorem awX {G:GH} (r:aS):uG (.func (.func 112) #[] #[]) G r.dat (decide (r.cells.length=0)):=by
 intro G1 w0 cs hm hG hr;refine jJ (caps:=[]) aoq ?_;obtain ⟨pA,pn,pc,dA,dn,dc,yA,yn,yc,fA,fn,fc,rfl,-,hf⟩:=hr.row;have hn:=hf.len;rw [bQ] at hn;subst hn;refine eN [(0,_)] func112 rfl ntmps112 rfl rfl hG ?_;intro a H;refine cO (fun _ K1=>?_);refine dW (cs:=[_,_,_,_,_,_]) H wn rfl rfl rfl ?_;clear H;intro b1 a w hb1 H;exact kH H (aj K1 rfl (SR fun _ K2=>bq zN Ad 0 rfl rfl (Rl qH rfl (Rc rfl (aj K2 rfl (LR results112 rfl fun H=>H.rt (iK (decide_eq_decide.2 (by omega)))))))))
theorem anW (G:GH) (w0:World) (hG:Hold G w0) (l:List aS) (v:ah) (hv:au G (.sl 6 (l.map aS.dat)) v) (hne:∀ r∈l,r.cells≠[]) :
  Calls prog 109 #[v,.func (.func 112) #[] #[]] w0 (bK w0 G fun u G'=>au G' (.sl 6 (l.map aS.dat)) u):=by
 obtain ⟨A,n,c,rfl⟩:=hv.form
 have hno:l.findIdx? (fun r=>decide (r.cells.length=0))=none:=by
  rw [List.findIdx?_eq_none_iff];intro r hr;exact qN fun h=>hne r hr (List.length_eq_zero_iff.1 h)
 refine eN [(0,_),(1,_)] func109 rfl ntmps109 rfl rfl hG ?_;intro a H;refine kP H (SR fun _ K1=>aj K1 rfl (SR fun _ K2=>Rm rfl (Rm rfl ?_)));clear H K1;intro a H;refine s_call apd H wn rfl (avx _ _ H.ro l (fun r=>decide (r.cells.length=0)) _ _ hv (fun r _=>awX r)) rfl ?_;clear H;rintro v10 Ev a w rfl DV H;rw [hno] at H;refine kH H (aj K2 rfl (SQ fun _ K3=>SR fun _ K4=>Rm rfl (Rc rfl (Kz K4 (Cd rfl ?_ ?_))))) <;> clear H K2 K4
 ·intro h12 a H
  exact kP H (SR fun _ K5=>Rm rfl (aj K5 rfl (LR results109 rfl fun H=>H.rt (hv.mono DV))))
 intro h12 a H
 try have qD:=dF h12
 exact absurd rfl qD
def F9 (n:Nat):Prop:=∀ (G:GH) (w0:World),Hold G w0->∀ (l:List ak) (v:ah),au G (.sl 11 (l.map ak.dat)) v->wR l->bO l < n ->
 Calls prog 58 #[v] w0 (bK w0 G fun u G'=>au G' (.sl 11 ((ku l).map ak.dat)) u)
theorem awS {n:Nat} (ih:F9 n) (hn:n<=4294967296) (G:GH) (w0:World) (hG:Hold G w0) (x:aV) (cs:List ah) (hv:aY G x.dat cs) (hne:Fu x) (hz:bV x.dat < n+1) :
  Calls prog 173 #[.agg cs.toArray] w0 (bK w0 G fun u G'=>∃ cs',u=.agg cs'.toArray∧aY G' (nC x).dat cs'):=by
 have he:=Ah x;obtain ⟨pA,pn,pc,dA,dn,dc,yA,yn,yc,fA,fn,fc,rfl,hh,hf⟩:=hv.cell;rw [awF] at hne;refine eN [(0,_)] func173 rfl ntmps173 rfl rfl hG ?_;intro a H;refine cO (fun _ K1=>?_);refine dW (cs:=[_,_,_,_,_,_,_]) H wn rfl rfl rfl ?_;clear H;intro b1 a w hb1 H;refine dO lg H wn rfl ?_;clear H;intro b2 a w hb2 H;refine K1 _ _ ?_;clear K1;refine bD (fun _ K2=>?_)
 have iW:BS (fun (bT:Nat) (v:ah) (G:GH)=>match bT with|0=>v=(aJ b1 0)|1=>v=vi x.id|2=>v=(aJ b1 1)|3=>v=.agg #[.slice pA pn pc,vi x.head.marks.ins,vi x.head.marks.move,.slice dA dn dc,.slice yA yn yc]|4=>∃ p d l,v=.agg #[p,vi x.head.marks.ins,vi x.head.marks.move,d,l]∧jy G x.head p d l|5=>v=(aJ b1 6)|6=>v=.slice fA fn fc|7=>au G (.sl 11 ((ku x.flow).map ak.dat)) v|_=>True):=by intro bT v G G' hm h;(iterate 10 (rcases bT with _|bT;(first|exact h|exact let ⟨p,d,l,h1,h2⟩:=h;⟨p,d,l,h1,h2.mono hm⟩|exact au.mono hm h)));exact trivial
 refine Au (hmx) [[],[0],[],[2],[2,3],[],[5],ra 2 5,ra 0 8,ra 0 9] [8,9] (by kernel_rfl) (by kernel_rfl) _ iW H ?_ ?_
 ·clear H;refine ay ?_ ?_ ?_ ?_ (ay ?_ ?_ ?_ ?_ (bF (bR rfl) (bF (bR rfl) cK)))
  ·exact acP
  ·exact acM
  ·exact acQ
  ·exact ace
  ·exact acp
  ·exact acR
  ·exact acV
  refine fP [(6,9,_)] rfl ⟨fun _ _ h=>h,aB⟩ (by kernel_rfl) iW rfl rfl ?_;intro bH a w G1 hG HT H fin;refine s_call Vz H wn rfl (ih _ _ H.ro x.flow _ (hf.mono hG) hne (by omega)) rfl ?_;exact Uo
 clear H;intro a w G nJ H hv;have H:=H.aM (hv 1 4 rfl rfl) rfl;obtain ⟨u7,Xz,sW⟩:=hv 4 7 (by decide) rfl;(try dsimp only at sW);obtain ⟨p7,d7,l7,rfl,A9⟩:=sW;obtain ⟨a1,a2,a3,rfl⟩:=A9.props.form;obtain ⟨a4,a5,a6,rfl⟩:=A9.bE.form;obtain ⟨a7,a8,a9,rfl⟩:=A9.layers.form;have H:=H.iI Xz;obtain ⟨u10,Nz,yU⟩:=hv 7 10 (by decide) rfl;(try dsimp only at yU);obtain ⟨ZG,n10,c10,rfl⟩:=yU.form;have H:=H.iI Nz;clear hv;refine jD Y6 [_,_,_,_,_,_,_] H wn rfl rfl rfl rfl ?_;clear H;intro a H;refine bC lg 0 (vs:=[_,_,_,_,_,_,_]) H wn rfl ?_;clear H;intro w H;refine aD ⟨rfl,?_⟩;refine K2 _ _ ?_;clear K2;refine eO ?_;refine (leave1 H results173 (.cons (ny lg (cs:=[_,_,_,_,_,_,_]) H rfl rfl (H.hp.dx 0 rfl rfl)) .nil) ?_).1;exact H.rt ⟨_,rfl,by rw [awt];exact aY.Rj (x:=.mk x.id x.head (ku x.flow)) A9 yU⟩
theorem awT {n:Nat} (ih:F9 n) (hn:n<=4294967296) {G:GH} {w0:World} (x:aV) (hne:Fu x) (hz:bV x.dat < n+1):Df (.func (.func 173) #[] #[]) w0 G x.dat (nC x).dat:=by
 intro G1 w1 cs hm1 hG1 hr;have h:=awS ih hn _ _ hG1 x cs hr hne hz;have h2:=jJ (P:=prog) (caps:=[]) (args:=[.agg cs.toArray]) ape h;exact h2
theorem awU {n:Nat} (ih:F9 n) (hn:n<=4294967296) (G:GH) (w0:World) (hG:Hold G w0) (x:aS) (cs:List ah) (hv:aY G x.dat cs) (hne:Fw x) (hz:bV x.dat < n+1) :
  Calls prog 111 #[.agg cs.toArray] w0 (bK w0 G fun u G'=>∃ cs',u=.agg cs'.toArray∧aY G' (nR x).dat cs'):=by
 have he:=Ai x;have hl:=IY x.cells;obtain ⟨pA,pn,pc,dA,dn,dc,yA,yn,yc,fA,fn,fc,rfl,hh,hf⟩:=hv.row;rw [aiu] at hne;refine eN [(0,_)] func111 rfl ntmps111 rfl rfl hG ?_;intro a H;refine cO (fun _ K1=>?_);refine dW (cs:=[_,_,_,_,_,_]) H wn rfl rfl rfl ?_;clear H;intro b1 a w hb1 H;refine dO jV H wn rfl ?_;clear H;intro b2 a w hb2 H;refine K1 _ _ ?_;clear K1;refine bD (fun _ K2=>?_)
 have iW:BS (fun (bT:Nat) (v:ah) (G:GH)=>match bT with|0=>v=(aJ b1 0)|1=>v=.agg #[.slice pA pn pc,vi x.head.marks.ins,vi x.head.marks.move,.slice dA dn dc,.slice yA yn yc]|2=>∃ p d l,v=.agg #[p,vi x.head.marks.ins,vi x.head.marks.move,d,l]∧jy G x.head p d l|3=>v=(aJ b1 5)|4=>v=.slice fA fn fc|5=>au G (.sl 7 (x.cells.map fun y=>(nC y).dat)) v|_=>True):=by intro bT v G G' hm h;(iterate 8 (rcases bT with _|bT;(first|exact h|exact let ⟨p,d,l,h1,h2⟩:=h;⟨p,d,l,h1,h2.mono hm⟩|exact au.mono hm h)));exact trivial
 refine Au (hmx) [[],[0],[0,1],[],[3],ra 0 5,ra 0 6,ra 0 7] [6,7] (by kernel_rfl) (by kernel_rfl) _ iW H ?_ ?_
 ·clear H;refine ay ?_ ?_ ?_ ?_ (ay ?_ ?_ (bR rfl) (bR rfl) cK)
  ·exact acS
  ·exact UA
  ·exact UD
  ·exact acT
  ·exact acL
  refine fP [(4,7,_)] rfl ⟨fun _ _ h=>h,aB⟩ (by kernel_rfl) iW rfl rfl ?_;intro bH a w G1 hG HT H fin;refine s_call aeC H wn rfl (aep nC _ _ H.ro x.cells _ _ (hf.mono hG) (by omega) (fun y hy=>awT ih hn y (ais hne.2 y hy) (by have:=akL hy;omega))) rfl ?_;exact Ur
 clear H;intro a w G nJ H hv;obtain ⟨u5,Ik,vT⟩:=hv 2 5 (by decide) rfl;(try dsimp only at vT);obtain ⟨p5,d5,l5,rfl,ug⟩:=vT;obtain ⟨a1,a2,a3,rfl⟩:=ug.props.form;obtain ⟨a4,a5,a6,rfl⟩:=ug.bE.form;obtain ⟨a7,a8,a9,rfl⟩:=ug.layers.form;have H:=H.iI Ik;obtain ⟨u8,Bg,pW⟩:=hv 5 8 (by decide) rfl;(try dsimp only at pW);obtain ⟨A8,n8,c8,rfl⟩:=pW.form;have H:=H.iI Bg;clear hv;refine jD Y5 [_,_,_,_,_,_] H wn rfl rfl rfl rfl ?_;clear H;intro a H;refine bC jV 0 (vs:=[_,_,_,_,_,_]) H wn rfl ?_;clear H;intro w H;refine aD ⟨rfl,?_⟩;refine K2 _ _ ?_;clear K2;refine eO ?_;refine (leave1 H results111 (.cons (ny jV (cs:=[_,_,_,_,_,_]) H rfl rfl (H.hp.dx 0 rfl rfl)) .nil) ?_).1;exact H.rt ⟨_,rfl,by rw [ain];exact aY.Rp (x:=.mk x.head (x.cells.map nC)) ug (by show au _ (.sl 7 ((x.cells.map nC).map aV.dat)) _;rw [List.map_map];exact pW)⟩
theorem awV {n:Nat} (ih:F9 n) (hn:n<=4294967296) {G:GH} {w0:World} (x:aS) (hne:Fw x) (hz:bV x.dat < n+1):Df (.func (.func 111) #[] #[]) w0 G x.dat (nR x).dat:=by
 intro G1 w1 cs hm1 hG1 hr;have h:=awU ih hn _ _ hG1 x cs hr hne hz;have h2:=jJ (P:=prog) (caps:=[]) (args:=[.agg cs.toArray]) aop h;exact h2
theorem joined {G:GH} {o:List ak} {z y:ak} {x0:List ah} {s p d q f r:ah} (hc:bZ G 11 (o.map ak.dat) x0) (hl:x0.length=o.length*11) (hh:jy G z.head p d q) (hf:au G (.sl 11 (z.flow.map ak.dat)) f) (hr:au G (.sl 6 (z.rows.map aS.dat)) r) (hs:s=.string (z.text++y.text)) :
  bZ G 11 ((o++[mH z y]).map ak.dat) ((x0++[vi z.kind,vi z.code,vi z.id,.string z.text,p,vi z.head.marks.ins,vi z.head.marks.move,d,q,f,r]).set (((o++[z]).length - 1)*11+3) s):=by
 rw [kF,iw,List.length_singleton,Nat.add_sub_cancel,List.set_append_right _ _ (by omega),hl,LW];refine hc.snoc ?_ rfl;rw [hs];exact aY.mkItem (x:=mH z y) hh hf hr
theorem Pw {s:ByteArray} {k:Int} {n:Nat} (hk:k=1):(s.toList == (⟨#[]⟩:ByteArray).toList)=true↔(k=7∧n=0)∨(k=1∧s.size=0):=by
 rw [beq_iff_eq,ByteArray.toList_eq,ByteArray.toList_eq]
 constructor
 ·intro h;refine .inr ⟨hk,?_⟩;have:=dh List.length h
  simpa using this
 rintro (⟨h,-⟩|⟨-,h⟩)
 ·omega
 have:s.data.toList.length=0:=by simpa using h
 rw [List.length_eq_zero_iff.1 this]
theorem abb {p:Prop} (h:p:=by
 exact fin H iJ (by show _=_;first|rfl|exact dh (fun A=>Value.slice A out.length vc) (hvA c2))):p:=h
theorem Md {p:Prop} (h:p:=by
 first
  | exact absurd ((aI c4).symm.trans h) (by decide)
  | (rw [hos]
     refine Dm hnd fun o2 z2 e2 hj=>?_;rw [pY,hyk,hyh] at hj;obtain ⟨j1,j2,j3⟩:=hj
     first
       | exact c1 j1
       | (have c2':0 < (out.length:Int):=by rw [e2,iw,List.length_singleton];omega
          obtain ⟨o,z,_,_,_,e,_,epk,_⟩:=Kr c2';obtain ⟨-,ez⟩:=List.append_inj' (e2.symm.trans e) rfl
          injection ez with ez
          subst ez
          first
            | exact c2 c2'
            | exact c3 (by rw [epk];exact j2)
            | exact c4 (by rw [epk];exact j3)))):p:=h
theorem aci {p:Prop} (h:p:=by
 refine dY 21 74 16 69 rfl rfl fun _ a w G1 hG HT H fin=>?_;obtain ⟨_,_,_,_,_,_,rfl,_,_,_,_,_,_,_,_,hx⟩:=Kr c2
 refine bP fH (cs:=[pp,vi pk.1.marks.ins,vi pk.1.marks.move,pd,pl]) H (wg H rfl rfl (aI c3)) rfl rfl (fun j u hj=>hrw.at H.hp (fun x hx=>gK _ hx) (by
     rw [gI,Nat.add_assoc];refine hx (4+j) u ?_
     match j,hj with
     | 0,hj=>exact hj
     | 1,hj=>exact hj
     | 2,hj=>exact hj
     | 3,hj=>exact hj
     | 4,hj=>exact hj)) rfl ?_;clear H;intro a H
 exact Jy):p:=h
theorem acj {p:Prop} (h:p:=by
 refine vZ 22 75 24 77 16 69 rfl rfl fun _ a w G1 hG HT H fin=>?_;refine s_call aqr H (wg H rfl rfl (aI c3)) rfl (aqO _ _ H.ro pk.1 l[k].head _ _ _ _ _ _ (by obtain ⟨_,_,_,_,_,_,_,e,_,_,_,_,hh,_⟩:=Kr c2;rw [e];exact hh.mono hG) (M8.mono fun b o h=>hG b o (Kg b o (H7 b o (uj b o h))))) rfl ?_;clear H;rintro v78 G78 a w rfl asD H;exact fin H asD (rfl)):p:=h
theorem UO {p:Prop} (h:p:=by
 refine gZ 7 60 rfl rfl fun _ a w G1 hG HT H fin=>?_;refine kH H (YM (aI c2) rfl ?_);clear H;intro a H;exact abb):p:=h
theorem abl {p:Prop} (h:p:=by
 refine gZ 16 69 rfl rfl fun _ a w G1 hG HT H fin=>?_;refine kH H (YM (aI c3) rfl ?_);clear H;intro a H;exact abb):p:=h
theorem Uv {p:Prop} (h:p:=by
 refine dY 12 65 7 60 rfl rfl fun _ a w G1 hG HT H fin=>?_;obtain ⟨_,_,_,_,_,_,rfl,_,_,_,_,_,_,_,_,hx⟩:=Kr c2;refine qE aC H (wg H rfl rfl (aI c2)) rfl (hrw.at H.hp (fun x hx=>gK _ hx) (by rw [gI];exact hx 0 _ rfl)) rfl ?_;exact jk):p:=h
theorem Uw {p:Prop} (h:p:=by
 refine dY 9 62 7 60 rfl rfl fun _ a w G1 hG HT H fin=>?_;refine zl _ H (wg H rfl rfl (aI c2)) rfl rfl rfl (by omega) (by omega) rfl ?_;exact Mh):p:=h
theorem abI {p:Prop} (h:p:=by
 refine dY 23 76 16 69 rfl rfl fun _ a w G1 hG HT H fin=>?_;refine bP fH (cs:=[_,_,_,_,_]) H (wg H rfl rfl (aI c3)) rfl rfl (H.hp.dx 0 rfl rfl) rfl ?_;exact jk):p:=h
set_option maxHeartbeats 4000000 in
theorem awW {n:Nat} (ih:F9 n) (hn:n<=1073741824):F9 (n+1):=by
  intro G w0 hG l v hv hne hz;obtain ⟨A,c,rfl,hc1,hc2,hg⟩:=hv.slice
  have hml:4294967297<=maxLen:=by decide
  have htl:mW l<=bO l:=SE l;have hll:l.length<=mW l:=Q5 l;rw [bQ] at *;refine eN [(0,_)] func58 rfl ntmps58 rfl rfl hG ?_;intro a H;refine kP H (SR fun _ K1=>aj K1 rfl (SR fun _ K2=>aj K2 rfl (SQ fun _ K3=>SR fun _ K4=>Rm rfl (Rl jq rfl (Rm rfl (Kz K4 (SB ?_)))))));clear H K1 K2 K4;intro a H;skip;refine eX (ι:=Nat × ah × List ah × OL × GH) (Tc:=[(7,_),(8,_)]) (Lc:=[]) (fun gh=>[(3,gh.2.1),(9,vi gh.1)]) (fun gh=>[]++gh.2.2.2.1) (fun gh=>gh.2.2.2.2) (fun gh=>gh.1<=l.length∧cu 68 11 gh.2.1 (uX l gh.1).length gh.2.2.1 gh.2.2.2.1∧bZ gh.2.2.2.2 11 ((uX l gh.1).map ak.dat) gh.2.2.1∧(∀ b o,G b=some o->gh.2.2.2.2 b=some o)) (fun gh=>l.length - gh.1) ((0,.slice none 0 0,[],[],G)) (by exact H.sub ⟨rfl,rfl,rfl,rfl,aB⟩) ?_ ?_
  · exact Jz
  clear H;rintro ⟨k,v,xs,Lo,g⟩ a w hI H;dsimp only at hI H;obtain ⟨hk,hrw,fG,hgm⟩:=hI;have hol:=axi hk;obtain ⟨out,hout⟩:∃ o,o=uX l k:=⟨_,rfl⟩;rw [<- hout] at hrw fG hol;dsimp only [lca,bJ] at H;refine kP H (SR fun _ K5=>Rc rfl (Kz K5 (SQ fun _ K6=>Cd rfl ?_ ?_))) <;> clear H K5
  · intro h10 a H
    try have nN:=dT h10
    have hk2:k < l.length:=by omega
    have hos:=aiE hk2;have hot:=Ym (l:=l) (k:=k) (by omega);have htt:=Zg l (k+1);rw [kg hk2,IU] at htt
    simp only [mW] at htt
    rw [<- hout] at hos hot;obtain ⟨vA,vc,rfl,-,-⟩:=hrw.shape;obtain ⟨b,o,pA,pn,pc,dA,dn,dc,yA,yn,yc,fA,fn,fc,rA,rn,rc,rfl,hrow,hhd,hfl,hrs⟩:=DF hk2 hg;replace hrow:=fun j u hj=>aF hgm (hrow j u hj);have hnx:=ait hne _ (jB hk2);rw [awG] at hnx;obtain ⟨hnf,hnr⟩:=hnx;have hzi:=Ot hk2;have hze:=wY l[k];have hrl:=IZ l[k].rows
    have auw:∀ r∈l[k].rows.map nR,r.cells≠[]:=fun r hr=>by
      obtain ⟨x,hx,rfl⟩:=List.mem_map.1 hr;have h1:=Yg hnr x hx;rw [aiu] at h1;rw [ain];exact fun e=>h1.1 (List.map_eq_nil_iff.1 e)
    refine kP H (Kc K6 (SQ fun _ K7=>SB (SR fun _ K8=>Ri jq gq rfl rfl ?_)));clear H K6;intro a H;refine bP gq (cs:=[_,_,_,_,_,_,_,_,_,_,_]) H wn rfl rfl (fun j v hj=>H.hp.aH (hrow j v hj)) rfl ?_;clear H;intro a H;refine dO gq H wn rfl ?_;clear H;intro b5 a w hb5 H;refine bC gq 0 (vs:=[_,_,_,_,_,_,_,_,_,_,_]) H wn rfl ?_;clear H;intro w H;refine K8 _ _ ?_;clear K8;refine kP H (SR fun _ K9=>Rf yN rfl ?_);clear H;intro a H;refine bP fH (cs:=[_,_,_,_,_]) H wn rfl rfl (H.hp.dx 0 rfl rfl) rfl ?_;clear H;intro a H;refine s_call PW H wn rfl (PG _ _ H.ro _ _ _ _ _ _ _ _ _ _ (hhd.mono hgm) (by omega)) rfl ?_;clear H;rintro v15 Ey a w ⟨tu,d15,l15,rfl,M8⟩ Cx H;obtain ⟨a1,a2,a3,rfl⟩:=M8.props.form;obtain ⟨a4,a5,a6,rfl⟩:=M8.bE.form;obtain ⟨a7,a8,a9,rfl⟩:=M8.layers.form;refine kH H (Rf yN rfl ?_);clear H;intro a H;refine bC fH 0 (vs:=[_,_,_,_,_]) H wn rfl ?_;clear H;intro w H;refine K9 _ _ ?_;clear K9;refine kP H (SR fun _ aW=>bq zM kC 0 rfl rfl ?_);clear H;intro a H;refine s_call Vz H wn rfl (ih _ _ H.ro l[k].flow _ (hfl.mono fun b o h=>Cx b o (hgm b o h)) hnf (by omega)) rfl ?_;clear H;rintro v19 I8 a w Nl uj H;obtain ⟨I6,n19,c19,rfl⟩:=Nl.form;refine kH H (Rf zM rfl ?_);clear H;intro a H;refine bC kC 0 (vs:=[_]) H wn rfl ?_;clear H;intro w H;refine aW _ _ ?_;clear aW;refine kP H (SR fun _ bM=>bq tZ uy 0 rfl rfl ?_);clear H;intro a H;refine s_call aeu H wn rfl (aer nR _ _ H.ro l[k].rows _ _ (hrs.mono fun b o h=>uj b o (Cx b o (hgm b o h))) (by omega) (fun x hx=>awV ih (by omega) x (Yg hnr x hx) (by have:=akP hx;omega))) rfl ?_;clear H;rintro v23 ZQ a w Xm H7 H;rw [show (l[k].rows.map fun x=>(nR x).dat)=(l[k].rows.map nR).map aS.dat by rw [List.map_map];rfl] at Xm;obtain ⟨A23,n23,c23,rfl⟩:=Xm.form;refine s_call aoo H wn rfl (anW _ _ H.ro (l[k].rows.map nR) _ Xm auw) rfl ?_;clear H;rintro v24 Ez a w Xn Kg H;obtain ⟨Ti,n24,c24,rfl⟩:=Xn.form;have agM:=Xn.len;rw [bQ,bQ] at agM;subst agM;refine kH H (Rf tZ rfl ?_);clear H;intro a H;refine bC uy 0 (vs:=[_]) H wn rfl ?_;clear H;intro w H;refine bM _ _ ?_;clear bM;refine bD (fun _ bU=>?_);obtain ⟨y,hy⟩:∃ y,y=nI l[k]:=⟨_,rfl⟩;have hye:=hy.trans (ail l[k])
    have hyk:y.kind=l[k].kind:=by rw [hye];rfl
    have NG:y.text=l[k].text:=by rw [hye];rfl
    have hyh:y.head=l[k].head:=by rw [hye];rfl
    have QW:y.rows.length=l[k].rows.length:=by rw [hye];simp [ak.rows]
    rw [<- hy] at hos;obtain ⟨Vh,Qt⟩:∃ x,x=[vi l[k].kind,vi l[k].code,vi l[k].id,.string l[k].text,.slice a1 a2 a3,vi l[k].head.marks.ins,vi l[k].head.marks.move,.slice a4 a5 a6,.slice a7 a8 a9,.slice I6 n19 c19,.slice Ti l[k].rows.length c24]:=⟨_,rfl⟩
    have ahd:aY Ez y.dat Vh:=by
      rw [Qt,hye];exact aY.mkItem (x:=.mk l[k].kind l[k].code l[k].id l[k].text l[k].head (ku l[k].flow) (l[k].rows.map nR)) (M8.mono fun b o h=>Kg b o (H7 b o (uj b o h))) (Nl.mono fun b o h=>Kg b o (H7 b o h)) Xn
    have Qr:=fG.mono fun b o h=>Kg b o (H7 b o (uj b o (Cx b o h)));have agx:∀ b o,G b=some o->Ez b=some o:=fun b o h=>Kg b o (H7 b o (uj b o (Cx b o (hgm b o h))));refine kP H (SC (Rm rfl (Rl jq rfl (aX bU rfl (SB ?_)))));clear H bU;intro a H;refine tT (ι:=Bool) (Tc:=[(3,_),(5,_),(6,_),(7,_),(8,_),(9,_)]) (Lc:=[]) (fun gh=>[(32,.bool gh)]) (fun gh=>[(b5,.cells [vi l[k].kind,vi l[k].code,vi l[k].id,.string l[k].text,.slice a1 a2 a3,vi l[k].head.marks.ins,vi l[k].head.marks.move,.slice a4 a5 a6,.slice a7 a8 a9,.slice I6 n19 c19,.slice Ti l[k].rows.length c24].toArray 68 (0,0))]++Lo) (fun gh=>Ez) (fun gh=>gh=true↔rD y) (by exact H.sub ⟨rfl,rfl,rfl,rfl,rfl,rfl,aB⟩) ?_ ?_
    · skip;refine kP H (SC (bq jF aC 0 rfl rfl (Rc rfl (Rm rfl (Sp 36 rfl ?_ ?_))))) <;> clear H
      · intro wI a H
        try have p36:=dT wI
        refine kH H (YF tZ wI rfl (YO uy 0 wI rfl (YL nP wI rfl (YC wI rfl (Pt wI rfl (Rm rfl (Sp 42 rfl ?_ ?_))))))) <;> clear H
        · intro jM a H
          try have p42:=dT jM
          refine kH H (aP jM rfl (aP jM rfl (Ku rfl (Ku rfl (Ku rfl (Ks jM rfl (Pt jM rfl (Ra rfl ?_))))))));clear H;intro a H;refine aD ?_;refine ⟨_,by exact H.sub ⟨rfl,rfl,rfl,rfl,rfl,rfl,rfl,aB⟩,?_⟩;rw [rD,hyk,QW,NG]
          first
            | exact ⟨fun _=>.inl ⟨p36,by omega⟩,fun _=>by first|rfl|exact nT p42⟩
            | exact ⟨fun h=>(by cases h),fun h=>(by exfalso;omega)⟩
            | exact Pw p46
            | fail
        intro jM a H
        try have p42:=dF jM
        refine kH H (YF jF jM rfl (YO aC 0 jM rfl (YC jM rfl (YM jM rfl (Sp 46 rfl ?_ ?_))))) <;> clear H
        · intro h46 a H
          try have p46:=dT h46
          exfalso;omega
        intro h46 a H
        try have p46:=dF h46
        refine kH H (bB h46 rfl (PF jM h46 rfl (Pf jM rfl (Ra rfl ?_))));clear H;intro a H;refine aD ?_;refine ⟨_,by exact H.sub ⟨rfl,rfl,rfl,rfl,rfl,rfl,rfl,aB⟩,?_⟩;rw [rD,hyk,QW,NG]
        first
          | exact ⟨fun _=>.inl ⟨p36,by omega⟩,fun _=>by first|rfl|exact nT p42⟩
          | exact ⟨fun h=>(by cases h),fun h=>(by exfalso;omega)⟩
          | exact Pw p46
          | fail
      intro wI a H
      try have p36:=dF wI
      refine kH H (aP wI rfl (aP wI rfl (Pf wI rfl (Rm rfl ?_))));clear H;intro a H;refine IK jF H (wg H rfl rfl rfl) rfl rfl ?_;clear H;intro a H;refine qE aC H (wg H rfl rfl rfl) rfl (H.hp.wS 0 rfl rfl) rfl ?_;clear H;intro a H;refine Fz H (wg H rfl rfl rfl) rfl rfl rfl rfl ?_;clear H;intro a H;refine FE H (wg H rfl rfl rfl) rfl rfl ?_;clear H;intro a H;refine YV H 46 rfl ?_ ?_
      · intro h46
        try have p46:=dT h46
        refine kH H (YF wD h46 rfl (YO jg 0 h46 rfl ?_));clear H;intro a H;refine FB H (wg H rfl rfl h46) rfl rfl rfl ?_;clear H;intro a H;refine N7 H (wg H rfl rfl rfl) rfl h46 rfl rfl ?_;clear H;intro a H;refine kH H (Pf rfl rfl (Ra rfl ?_));clear H;intro a H;refine aD ?_;refine ⟨_,by exact H.sub ⟨rfl,rfl,rfl,rfl,rfl,rfl,rfl,aB⟩,?_⟩;rw [rD,hyk,QW,NG]
        first
          | exact ⟨fun _=>.inl ⟨p36,by omega⟩,fun _=>by first|rfl|exact nT p42⟩
          | exact ⟨fun h=>(by cases h),fun h=>(by exfalso;omega)⟩
          | exact Pw p46
          | fail
      intro h46
      try have p46:=dF h46
      refine kH H (bB h46 rfl ?_);clear H;intro a H;refine Sn H (wg H rfl rfl rfl) rfl h46 rfl rfl ?_;clear H;intro a H;refine kH H (Pf rfl rfl (Ra rfl ?_));clear H;intro a H;refine aD ?_;refine ⟨_,by exact H.sub ⟨rfl,rfl,rfl,rfl,rfl,rfl,rfl,aB⟩,?_⟩;rw [rD,hyk,QW,NG]
      first
        | exact ⟨fun _=>.inl ⟨p36,by omega⟩,fun _=>by first|rfl|exact nT p42⟩
        | exact ⟨fun h=>(by cases h),fun h=>(by exfalso;omega)⟩
        | exact Pw p46
        | fail
    clear H;intro db a w hI H;skip;dsimp only [lca,bJ] at H;refine jS H rfl ?_ ?_
    · intro h32
      try have p32:=dT h32
      have hdp:=hI.1 (by assumption);rw [Jj hdp] at hos;refine kP H (Kc K7 (SC (Rd rfl (Rm rfl ?_))));clear H K7;intro a H;refine aD ?_;refine dG ((k+1,_,xs,Lo,_)) (by exact (H.eD (Pl:=[_]) (dN:=[]) [] (by decide) rfl).sub ⟨rfl,rfl,rfl,rfl,aB⟩) ?_
      (try dsimp only);exact ⟨by omega,by rw [hos];exact hrw,by rw [hos];exact Qr,agx⟩
    intro h32
    try have p32:=dF h32
    have hnd:¬ rD y:=fun h=>by have:=hI.2 h;simp_all
    obtain ⟨bo,pk,pt,pp,pd,pl,Kr⟩:∃ (bo:Nat) (pk:dJ × Int) (pt:ByteArray) (pp pd pl:ah),0 < (out.length:Int)->∃ (o:List ak) (z:ak) (x0:List ah) (f r:ah),out=o++[z]∧vA=some ⟨bo,0,none⟩∧pk=(z.head,z.kind)∧pt=z.text ∧
        xs=x0++[vi z.kind,vi z.code,vi z.id,.string z.text,pp,vi z.head.marks.ins,vi z.head.marks.move,pd,pl,f,r]∧x0.length=o.length*11∧bZ Ez 11 (o.map ak.dat) x0∧jy Ez z.head pp pd pl∧au Ez (.sl 11 (z.flow.map ak.dat)) f∧au Ez (.sl 6 (z.rows.map aS.dat)) r ∧
        ∀ j u,[vi pk.2,vi z.code,vi z.id,.string pt,pp,vi pk.1.marks.ins,vi pk.1.marks.move,pd,pl][j]?=some u->xs[(out.length - 1)*11+j]?=some u:=by
      by_cases h0:0 < out.length
      · obtain ⟨bo,hbo⟩:=hrw.ptr h0;obtain ⟨o,z,e⟩:∃ o z,out=o++[z]:=⟨_,_,(List.dropLast_concat_getLast (fun e=>by rw [e] at h0;simp at h0)).symm⟩;rw [e,kF] at Qr;obtain ⟨x0,cs,hxs,hc0,hrz,hcl,hxl⟩:=Qr.aAh;obtain ⟨qA,qn,qc,sA,sn,sc,tA,tn,tc,fA2,fn2,fc2,rA2,rn2,rc2,rfl,hh,hf2,hr2⟩:=hrz.item;rw [bQ] at hxl;refine ⟨bo,(z.head,z.kind),z.text,.slice qA qn qc,.slice sA sn sc,.slice tA tn tc,fun _=>⟨o,z,x0,_,_,e,hbo,rfl,rfl,hxs,hxl,hc0,hh,hf2,hr2,fun j u hj=>?_⟩⟩;rw [hxs,e,iw,List.length_singleton,Nat.add_sub_cancel,uJ (by omega),hxl,LW];rw [<- hj]
        match j,hj with
        | 0,hj=>rfl
        | 1,hj=>rfl
        | 2,hj=>rfl
        | 3,hj=>rfl
        | 4,hj=>rfl
        | 5,hj=>rfl
        | 6,hj=>rfl
        | 7,hj=>rfl
        | 8,hj=>rfl
        | _+9,hj=>simp at hj
      exact ⟨0,(⟨[],⟨0,0,[],[]⟩⟩,0),⟨#[]⟩,.slice none 0 0,.slice none 0 0,.slice none 0 0,fun h=>by omega⟩
    have hvA:0 < (out.length:Int)->vA=some ⟨bo,0,none⟩:=fun h=>by obtain ⟨_,_,_,_,_,_,e,_⟩:=Kr h;exact e
    refine tT (ι:=Bool × GH) (Tc:=[(3,_),(5,_),(6,_),(7,_),(8,_),(9,_)]) (Lc:=[]) (fun gh=>[(52,.bool gh.1)]) (fun gh=>[(b5,.cells [vi l[k].kind,vi l[k].code,vi l[k].id,.string l[k].text,.slice a1 a2 a3,vi l[k].head.marks.ins,vi l[k].head.marks.move,.slice a4 a5 a6,.slice a7 a8 a9,.slice I6 n19 c19,.slice Ti l[k].rows.length c24].toArray 68 (0,0))]++Lo) (fun gh=>gh.2) (fun gh=>(gh.1=true->(l[k].kind=1∧0 < (out.length:Int)∧pk.2=1∧pk.1=l[k].head))∧(gh.1=false->uX l (k+1)=out++[y])∧(∀ b o,Ez b=some o->gh.2 b=some o)) (by exact H.sub ⟨rfl,rfl,rfl,rfl,rfl,rfl,aB⟩) ?_ ?_
    · skip
      by_cases c1:l[k].kind=1
      · skip
        by_cases c2:0 < (out.length:Int)
        · skip
          by_cases c3:pk.2=1
          · skip
            by_cases c4:pk.1=l[k].head
            · skip;refine dI hmx [[],[0],[0,1],[0,1,2],ra 0 4,ra 0 5,ra 0 6,ra 0 7,ra 0 8,ra 0 8,(ra 0 8++[9]),ra 0 11,ra 0 12,ra 0 13,ra 0 14,ra 0 15,ra 0 16,ra 0 17,ra 0 17,(ra 0 17++[18]),ra 0 20,ra 0 21,ra 0 22,ra 0 17,(ra 0 17++[23]),ra 0 25,ra 0 26,ra 0 27] [] (by kernel_rfl) [_,vi l[k].kind,_,_,_,_,_,_,.slice (some ⟨bo,0,none⟩) out.length vc,_,vi ((out.length - 1:Nat):Int),_,_,vi pk.2,_,_,_,.slice (some ⟨bo,0,none⟩) out.length vc,_,vi ((out.length - 1:Nat):Int),_,_,rX pk.1 pp pd pl,_,rX l[k].head (.slice a1 a2 a3) (.slice a4 a5 a6) (.slice a7 a8 a9),.bool (decide (pk.1=l[k].head)),_,_] H (ay (Z0 rfl (Rf jF rfl)) (Z1 0 53 rfl (Ro aC 0 rfl)) (Z1 1 54 rfl (Rc rfl)) (Z1 2 55 rfl (Rm rfl)) (ay (Z1 3 56 rfl (YM (aI c1) rfl)) (Z2 4 57 3 56 rfl (YC (aI c1) rfl)) (Z2 3 56 5 58 rfl (Pt (aI c1) rfl)) (Z1 6 59 rfl (Rm rfl)) (ay ?_ (Z1 7 60 rfl (YM (aI c2) rfl)) ?_ (Z3 8 61 10 63 7 60 rfl (YI jq gq (aI c2) rfl rfl)) (ay (Z2 11 64 7 60 rfl (YF jF (aI c2) rfl)) ?_ (Z2 13 66 7 60 rfl (YC (aI c2) rfl)) (Z2 7 60 14 67 rfl (Pt (aI c2) rfl)) (ay (Z1 15 68 rfl (Rm rfl)) ?_ (Z1 16 69 rfl (YM (aI c3) rfl)) ?_ (ay (Z3 17 70 19 72 16 69 rfl (YI jq gq (aI c3) rfl rfl)) (Z2 20 73 16 69 rfl (YF yN (aI c3) rfl)) ?_ (Z1 16 69 rfl (YF yN (aI c3) rfl)) (ay ?_ ?_ (Z2 16 69 25 78 rfl (Pt (aI c3) rfl)) (Z1 26 79 rfl (Ra rfl)) cK))))))) ?_
              · exact UO
              · exact Uw
              · exact Uv
              · exact abl
              · refine dY 18 71 16 69 rfl rfl fun _ a w G1 hG HT H fin=>?_;exact Pg
              · exact aci
              · exact abI
              · exact acj
              clear H;intro a w G sU H hv;have H:=H.aM (hv 27 52 rfl rfl) rfl;clear hv;refine aD ⟨rfl,?_⟩;refine ⟨(_,_),by exact H.sub ⟨rfl,rfl,rfl,rfl,rfl,rfl,rfl,aB⟩,?_⟩;(try dsimp only);refine ⟨fun h=>by first|exact absurd h (by decide)|exact ⟨c1,c2,c3,pI h⟩,fun h=>?_,sU⟩
              exact Md
            skip;refine dI hmx [[],[0],[0,1],[0,1,2],ra 0 4,ra 0 5,ra 0 6,ra 0 7,ra 0 8,ra 0 8,(ra 0 8++[9]),ra 0 11,ra 0 12,ra 0 13,ra 0 14,ra 0 15,ra 0 16,ra 0 17,ra 0 17,(ra 0 17++[18]),ra 0 20,ra 0 21,ra 0 22,ra 0 17,(ra 0 17++[23]),ra 0 25,ra 0 26,ra 0 27] [] (by kernel_rfl) [_,vi l[k].kind,_,_,_,_,_,_,.slice (some ⟨bo,0,none⟩) out.length vc,_,vi ((out.length - 1:Nat):Int),_,_,vi pk.2,_,_,_,.slice (some ⟨bo,0,none⟩) out.length vc,_,vi ((out.length - 1:Nat):Int),_,_,rX pk.1 pp pd pl,_,rX l[k].head (.slice a1 a2 a3) (.slice a4 a5 a6) (.slice a7 a8 a9),.bool (decide (pk.1=l[k].head)),_,_] H (ay (Z0 rfl (Rf jF rfl)) (Z1 0 53 rfl (Ro aC 0 rfl)) (Z1 1 54 rfl (Rc rfl)) (Z1 2 55 rfl (Rm rfl)) (ay (Z1 3 56 rfl (YM (aI c1) rfl)) (Z2 4 57 3 56 rfl (YC (aI c1) rfl)) (Z2 3 56 5 58 rfl (Pt (aI c1) rfl)) (Z1 6 59 rfl (Rm rfl)) (ay ?_ (Z1 7 60 rfl (YM (aI c2) rfl)) ?_ (Z3 8 61 10 63 7 60 rfl (YI jq gq (aI c2) rfl rfl)) (ay (Z2 11 64 7 60 rfl (YF jF (aI c2) rfl)) ?_ (Z2 13 66 7 60 rfl (YC (aI c2) rfl)) (Z2 7 60 14 67 rfl (Pt (aI c2) rfl)) (ay (Z1 15 68 rfl (Rm rfl)) ?_ (Z1 16 69 rfl (YM (aI c3) rfl)) ?_ (ay (Z3 17 70 19 72 16 69 rfl (YI jq gq (aI c3) rfl rfl)) (Z2 20 73 16 69 rfl (YF yN (aI c3) rfl)) ?_ (Z1 16 69 rfl (YF yN (aI c3) rfl)) (ay ?_ ?_ (Z2 16 69 25 78 rfl (Pt (aI c3) rfl)) (Z1 26 79 rfl (Ra rfl)) cK))))))) ?_
            · exact UO
            · exact Uw
            · exact Uv
            · exact abl
            · refine dY 18 71 16 69 rfl rfl fun _ a w G1 hG HT H fin=>?_;exact Pg
            · exact aci
            · exact abI
            · exact acj
            clear H;intro a w G sU H hv;have H:=H.aM (hv 27 52 rfl rfl) rfl;clear hv;refine aD ⟨rfl,?_⟩;refine ⟨(_,_),by exact H.sub ⟨rfl,rfl,rfl,rfl,rfl,rfl,rfl,aB⟩,?_⟩;(try dsimp only);refine ⟨fun h=>by first|exact absurd h (by decide)|exact ⟨c1,c2,c3,pI h⟩,fun h=>?_,sU⟩
            exact Md
          skip;refine dI hmx [[],[0],[0,1],[0,1,2],ra 0 4,ra 0 5,ra 0 6,ra 0 7,ra 0 8,ra 0 8,(ra 0 8++[9]),ra 0 11,ra 0 12,ra 0 13,ra 0 14,ra 0 15,ra 0 16,ra 0 17,ra 0 17,(ra 0 17++[18]),ra 0 20,ra 0 21,ra 0 22,ra 0 17,(ra 0 17++[23]),ra 0 25,ra 0 26,ra 0 27] [] (by kernel_rfl) [_,vi l[k].kind,_,_,_,_,_,_,.slice (some ⟨bo,0,none⟩) out.length vc,_,vi ((out.length - 1:Nat):Int),_,_,vi pk.2,_,_,_,undef,undef,undef,undef,undef,undef,undef,undef,undef,_,_] H (ay (Z0 rfl (Rf jF rfl)) (Z1 0 53 rfl (Ro aC 0 rfl)) (Z1 1 54 rfl (Rc rfl)) (Z1 2 55 rfl (Rm rfl)) (ay (Z1 3 56 rfl (YM (aI c1) rfl)) (Z2 4 57 3 56 rfl (YC (aI c1) rfl)) (Z2 3 56 5 58 rfl (Pt (aI c1) rfl)) (Z1 6 59 rfl (Rm rfl)) (ay ?_ (Z1 7 60 rfl (YM (aI c2) rfl)) ?_ (Z3 8 61 10 63 7 60 rfl (YI jq gq (aI c2) rfl rfl)) (ay (Z2 11 64 7 60 rfl (YF jF (aI c2) rfl)) ?_ (Z2 13 66 7 60 rfl (YC (aI c2) rfl)) (Z2 7 60 14 67 rfl (Pt (aI c2) rfl)) (ay (Z1 15 68 rfl (Rm rfl)) (aU 16 (aT c3) rfl rfl) (aU 16 (aT c3) rfl rfl) (aU 16 (aT c3) rfl rfl) (ay (aU 16 (aT c3) rfl rfl) (aU 16 (aT c3) rfl rfl) (aU 16 (aT c3) rfl rfl) (aU 16 (aT c3) rfl rfl) (ay (aU 16 (aT c3) rfl rfl) (aU 16 (aT c3) rfl rfl) (Z2 16 69 25 78 rfl (Pf (aT c3) rfl)) (Z1 26 79 rfl (Ra rfl)) cK))))))) ?_
          · exact UO
          · exact Uw
          · exact Uv
          clear H;intro a w G sU H hv;have H:=H.aM (hv 27 52 rfl rfl) rfl;clear hv;refine aD ⟨rfl,?_⟩;refine ⟨(_,_),by exact H.sub ⟨rfl,rfl,rfl,rfl,rfl,rfl,rfl,aB⟩,?_⟩;(try dsimp only);refine ⟨fun h=>by first|exact absurd h (by decide)|exact ⟨c1,c2,c3,pI h⟩,fun h=>?_,sU⟩
          exact Md
        skip;refine dI hmx [[],[0],[0,1],[0,1,2],ra 0 4,ra 0 5,ra 0 6,ra 0 7,ra 0 8,ra 0 8,(ra 0 8++[9]),ra 0 11,ra 0 12,ra 0 13,ra 0 14,ra 0 15,ra 0 16,ra 0 17,ra 0 17,(ra 0 17++[18]),ra 0 20,ra 0 21,ra 0 22,ra 0 17,(ra 0 17++[23]),ra 0 25,ra 0 26,ra 0 27] [] (by kernel_rfl) [_,vi l[k].kind,_,_,_,_,_,_,undef,undef,undef,undef,undef,undef,undef,_,_,undef,undef,undef,undef,undef,undef,undef,undef,undef,_,_] H (ay (Z0 rfl (Rf jF rfl)) (Z1 0 53 rfl (Ro aC 0 rfl)) (Z1 1 54 rfl (Rc rfl)) (Z1 2 55 rfl (Rm rfl)) (ay (Z1 3 56 rfl (YM (aI c1) rfl)) (Z2 4 57 3 56 rfl (YC (aI c1) rfl)) (Z2 3 56 5 58 rfl (Pt (aI c1) rfl)) (Z1 6 59 rfl (Rm rfl)) (ay (aU 7 (aT c2) rfl rfl) (aU 7 (aT c2) rfl rfl) (aU 7 (aT c2) rfl rfl) (aU 7 (aT c2) rfl rfl) (ay (aU 7 (aT c2) rfl rfl) (aU 7 (aT c2) rfl rfl) (aU 7 (aT c2) rfl rfl) (Z2 7 60 14 67 rfl (Pf (aT c2) rfl)) (ay (Z1 15 68 rfl (Rm rfl)) (aU 16 rfl rfl rfl) (aU 16 rfl rfl rfl) (aU 16 rfl rfl rfl) (ay (aU 16 rfl rfl rfl) (aU 16 rfl rfl rfl) (aU 16 rfl rfl rfl) (aU 16 rfl rfl rfl) (ay (aU 16 rfl rfl rfl) (aU 16 rfl rfl rfl) (Z2 16 69 25 78 rfl (Pf rfl rfl)) (Z1 26 79 rfl (Ra rfl)) cK))))))) ?_
        clear H;intro a w G sU H hv;have H:=H.aM (hv 27 52 rfl rfl) rfl;clear hv;refine aD ⟨rfl,?_⟩;refine ⟨(_,_),by exact H.sub ⟨rfl,rfl,rfl,rfl,rfl,rfl,rfl,aB⟩,?_⟩;(try dsimp only);refine ⟨fun h=>by first|exact absurd h (by decide)|exact ⟨c1,c2,c3,pI h⟩,fun h=>?_,sU⟩
        exact Md
      skip;refine dI hmx [[],[0],[0,1],[0,1,2],ra 0 4,ra 0 5,ra 0 6,ra 0 7,ra 0 8,ra 0 8,(ra 0 8++[9]),ra 0 11,ra 0 12,ra 0 13,ra 0 14,ra 0 15,ra 0 16,ra 0 17,ra 0 17,(ra 0 17++[18]),ra 0 20,ra 0 21,ra 0 22,ra 0 17,(ra 0 17++[23]),ra 0 25,ra 0 26,ra 0 27] [] (by kernel_rfl) [_,vi l[k].kind,_,_,undef,undef,_,_,undef,undef,undef,undef,undef,undef,undef,_,_,undef,undef,undef,undef,undef,undef,undef,undef,undef,_,_] H (ay (Z0 rfl (Rf jF rfl)) (Z1 0 53 rfl (Ro aC 0 rfl)) (Z1 1 54 rfl (Rc rfl)) (Z1 2 55 rfl (Rm rfl)) (ay (aU 3 (aT c1) rfl rfl) (aU 3 (aT c1) rfl rfl) (Z2 3 56 5 58 rfl (Pf (aT c1) rfl)) (Z1 6 59 rfl (Rm rfl)) (ay (aU 7 rfl rfl rfl) (aU 7 rfl rfl rfl) (aU 7 rfl rfl rfl) (aU 7 rfl rfl rfl) (ay (aU 7 rfl rfl rfl) (aU 7 rfl rfl rfl) (aU 7 rfl rfl rfl) (Z2 7 60 14 67 rfl (Pf rfl rfl)) (ay (Z1 15 68 rfl (Rm rfl)) (aU 16 rfl rfl rfl) (aU 16 rfl rfl rfl) (aU 16 rfl rfl rfl) (ay (aU 16 rfl rfl rfl) (aU 16 rfl rfl rfl) (aU 16 rfl rfl rfl) (aU 16 rfl rfl rfl) (ay (aU 16 rfl rfl rfl) (aU 16 rfl rfl rfl) (Z2 16 69 25 78 rfl (Pf rfl rfl)) (Z1 26 79 rfl (Ra rfl)) cK))))))) ?_
      clear H;intro a w G sU H hv;have H:=H.aM (hv 27 52 rfl rfl) rfl;clear hv;refine aD ⟨rfl,?_⟩;refine ⟨(_,_),by exact H.sub ⟨rfl,rfl,rfl,rfl,rfl,rfl,rfl,aB⟩,?_⟩;(try dsimp only);refine ⟨fun h=>by first|exact absurd h (by decide)|exact ⟨c1,c2,c3,pI h⟩,fun h=>?_,sU⟩
      exact Md
    clear H;rintro ⟨jb,g9⟩ a w hI H;dsimp only at hI H;obtain ⟨hjy,hjn,Cv⟩:=hI;have ati:=Qr.mono Cv;have Ns:=ahd.mono Cv;have agy:∀ b o,G b=some o->g9 b=some o:=fun b o h=>Cv b o (agx b o h);dsimp only [lca,bJ] at H;refine jS H rfl ?_ ?_
    · intro qx
      try have p52:=dT qx
      obtain ⟨c1,c2,c3,c4⟩:=hjy (by assumption);obtain ⟨oo,z,x0,zf,zr,QF,rfl,rfl,rfl,hxs,hxl,hc0,hhz,hfz,hrz,hxj⟩:=Kr c2
      have hzt:z.text.size<=mW out:=by
        rw [QF,IU];simp only [mW];omega
      obtain ⟨cur,-,rfl,hcur,hset⟩:=hrw.set1;refine dI hmx [[],[],[1],[0,1,2],ra 0 4,ra 0 5,[],[6],ra 0 8,ra 0 9,ra 0 10,ra 0 11] [9,10,11] (by kernel_rfl) [_,_,vi ((out.length - 1:Nat):Int),_,_,.string z.text,_,.string l[k].text,.string (z.text++l[k].text)] H (ay (Z0 rfl (Rm rfl)) (Z0 rfl (Rm rfl)) ?_ (Z2 0 80 2 82 rfl (Ri jq gq rfl rfl)) (ay (Z1 3 83 rfl (Rf wD rfl)) ?_ (Z0 rfl (Rf wD rfl)) (Z1 6 86 rfl (Ro jg 0 rfl)) (ay ?_ (bR rfl) (bR rfl) (bR rfl) cK))) ?_
      · refine gZ 1 81 rfl rfl fun _ a w G1 hG HT H fin=>?_;refine kH H (Rs rfl ?_);exact Mh
      · refine gZ 4 84 rfl rfl fun _ a w G1 hG HT H fin=>?_;refine qE jg H wn rfl (hrw.at H.hp (fun x hx=>gK _ hx) (by rw [gI];exact hxj 3 _ rfl)) rfl ?_;exact jk
      · refine dY 5 85 7 87 rfl rfl fun _ a w G1 hG HT H fin=>?_;refine azf H wn rfl rfl (by omega) rfl ?_;exact jk
      clear H;intro a w G oH H hv;have H:=H.aM (hv 0 80 rfl rfl) rfl;have H:=H.aM (hv 2 82 rfl rfl) rfl;have H:=H.aM (hv 8 88 rfl rfl) rfl;clear hv;refine kH H (Ri jq gq rfl rfl (Rf wD rfl ?_));clear H;intro a H;refine KW jg 1 (c:=cur) (vs:=[.string (z.text++l[k].text)]) (cur.set ((out.length - 1)*11+3) (.string (z.text++l[k].text))) H wn rfl rfl rfl rfl rfl rfl (by simp;omega) (by rw [gI];rfl) ?_;clear H;intro w H;dsimp only [List.set] at H;have auJ:=hset ((out.length - 1)*11+3) (.string (z.text++l[k].text))
      have hnj:uX l (k+1)=oo++[mH z y]:=by rw [hos,QF];exact Ca hnd ⟨by rw [hyk];exact c1,c3,by rw [hyh];exact c4⟩
      refine aD ⟨rfl,?_⟩;refine K7 _ _ ?_;clear K7;refine kP H (SC (Rd rfl (Rm rfl ?_)));clear H;intro a H;refine aD ?_;refine dG ((k+1,_,xs.set ((out.length - 1)*11+3) (.string (z.text++l[k].text)),_,_)) (by exact (H.eD (Pl:=[_]) (dN:=[]) [] (by decide) rfl).sub ⟨rfl,rfl,rfl,rfl,aB⟩) ?_
      (try dsimp only);exact ⟨by omega,by rw [hnj,show (oo++[mH z y]).length=out.length by rw [QF];simp];exact auJ,by rw [hnj,hxs,QF];exact joined (hc0.mono fun b o h=>oH b o (Cv b o h)) hxl (hhz.mono fun b o h=>oH b o (Cv b o h)) (hfz.mono fun b o h=>oH b o (Cv b o h)) (hrz.mono fun b o h=>oH b o (Cv b o h)) (by rw [NG]),fun b o h=>oH b o (agy b o h)⟩
    intro qx
    try have p52:=dF qx
    have hnx:=hjn (by assumption);refine kP H (SC (Rm rfl ?_));clear H;intro a H;refine bP gq (cs:=[_,_,_,_,_,_,_,_,_,_,_]) H wn rfl rfl (H.hp.dx 0 rfl rfl) rfl ?_;clear H;intro a H;refine iT jq gq [_,_,_,_,_,_,_,_,_,_,_] [_,_,_,_,_,_,_,_,_,_,_] H wn rfl rfl rfl rfl rfl (by intro i q h;match i,h with|0,h=>exact h|n+1,h=>simp at h) rfl rfl ?_;clear H;intro b30 a w asW H;refine oh (Li:=[_,_]) (Lo:=Lo) (news:=Vh) jq gq rfl rfl H wn rfl rfl hrw (by rw [Qt];rfl) (by rw [Qt];exact H.hp.dx 0 rfl rfl) ahd.one (by omega) (by omega) rfl ?_;clear H;intro v31 alc a w QL H;refine kH H (aX K7 rfl (SC (Rd rfl (Rm rfl ?_))));clear H K7;intro a H;refine aD ?_;refine dG ((k+1,v31,xs++Vh,alc,_)) (by exact (H.eD (Pl:=[_,_]) (dN:=[]) [] (by decide) rfl).sub ⟨rfl,rfl,rfl,rfl,aB⟩) ?_
    (try dsimp only);exact ⟨by omega,by rw [hnx,iw];exact QL,by rw [hnx,kF];exact (ati.snoc Ns (by rw [Qt];rfl)),agy⟩
  intro h10 a H
  try have nN:=dF h10
  refine dP ?_;refine K3 _ _ ?_;clear K3;refine bD (fun _ bY=>?_)
  obtain rfl:k=l.length:=by omega
  obtain ⟨G',hm,hrep,H⟩:=H.qp (Li:=[]) hrw (rows:=out.map ak.dat) (by simp) fG;exact kP H (SC (Rm rfl (aX bY rfl (LR results58 rfl fun H=>H.rt (by rw [ku,<- hout];exact hrep)))))
theorem aiy:∀ n:Nat,n<=1073741825->F9 n
 | 0,_=>fun _ _ _ _ _ _ _ h=>absurd h (by omega)
 | n+1,hn=>awW (aiy n (by omega)) (by omega)
theorem awY (G:GH) (w0:World) (hG:Hold G w0) (l:List ak) (v:ah) (hv:au G (.sl 11 (l.map ak.dat)) v) (hne:wR l) (hz:bO l<=1073741824) :
  Calls prog 58 #[v] w0 (bK w0 G fun u G'=>au G' (.sl 11 ((ku l).map ak.dat)) u):=aiy 1073741825 (by omega) G w0 hG l v hv hne (by omega)
theorem aqs:aQ 59:=aR func59 rfl
theorem aqu:aQ 63:=aR func63 rfl
theorem aqt:aQ 61:=aR func61 rfl
theorem aAT {G:GH} {b3:Nat} {us:List Int} {uv:ah} (hb:aH G b3 0=some uv) (hu:au G (.sl 1 (us.map fun k=>[li k])) uv) (hl:us.length<=4294967296) (x:bW):uG (.func (.func 61) #[] #[(aJ b3 0)]) G x.dat (!oI us x.id):=by
 intro G1 w0 cs hm hG hr;obtain rfl:=YP hr;replace hb:=aF hm hb;replace hu:=hu.mono hm;obtain ⟨uA,uc,rfl,-,-,-⟩:=hu.slice;refine jJ (caps:=[(aJ b3 0)]) aqt ?_;refine eN [(0,_),(1,_)] func61 rfl ntmps61 rfl rfl hG ?_;intro a H;refine cO (fun _ K1=>?_);refine dW (cs:=[_,_,_]) H wn rfl rfl rfl ?_;clear H;intro b2 a w hb2 H;refine kH H (aj K1 rfl (SR fun _ K2=>Rg oq rfl hb (bq VH aC 0 rfl rfl ?_)));clear H K1;intro a H;refine s_call aeY H wn rfl (ade _ _ H.ro us x.id _ hu hl) rfl ?_;clear H;rintro v10 Ev a w ⟨rfl,rfl⟩ DV H;refine kH H (Rm rfl ?_);clear H;intro a H;(iterate 2 refine mg H wn rfl rfl rfl ?_;clear H;intro a H);exact kH H (Ra rfl (aj K2 rfl (SR fun _ K3=>Rm rfl (Rn rfl (aj K3 rfl (LR results61 rfl fun H=>H.rt rfl))))))
def nZ (d:gG):gG:=⟨ku d.flow,d.fin,d.revs,d.kY⟩
def nD (d:gG):gG:=⟨ku d.flow,d.fin,d.revs.filter fun r=>oI (oZ (lM (nZ d))) r.id,d.kY⟩
theorem ayq (G:GH) (l:List bW):bZ G 3 (l.map bW.dat) (oW l):=by
 have h:∀ (B A:List bW),bZ G 3 (A.map bW.dat) (oW A)->bZ G 3 ((A++B).map bW.dat) (oW (A++B)):=by
  intro B
  induction B with
  | nil=>intro A h;rw [ig];exact h
  | cons x B ih =>
   intro A h;have h2:=h.snoc (NV G x) rfl;have h3:=ih (A++[x]) (by rw [YH,kF];exact h2)
   simpa using h3
 exact h l [] bZ.nil
set_option maxHeartbeats 2000000 in
set_option maxRecDepth 8000 in
theorem aob (G:GH) (w0:World) (hG:Hold G w0) (D:jO) (d:gG) (hR:pz G D d) (hz:Al d) (hne:wR d.flow) (hz2:bO (ku d.flow)<=1073741824) (hw:∀ k∈lM (nZ d),-9223372036854775808<=k∧k < 9223372036854775808) (hl:(lM (nZ d)).length<=4294967296) :
  Calls prog 17 #[D.val] w0 (bK w0 G fun u G'=>∃ D':jO,u=D'.val∧pz G' D' (nD d)):=by
 obtain ⟨df,dp,dd,dy,dr,d1,d2,d3,d4,ins,mv⟩:=D;obtain ⟨zf,zh,zr,zt,zs,I4⟩:=hz;refine eN [(0,_)] func17 rfl ntmps17 rfl rfl hG ?_;intro a H;refine cO (fun _ K1=>?_);refine dW (cs:=[_,_,_,_,_,_,_,_,_,_,_]) H wn rfl rfl rfl ?_;clear H;intro b1 a w hb1 H;refine dO jf H wn rfl ?_;clear H;intro b2 a w hb2 H;refine K1 _ _ ?_;clear K1;refine kP H (SR fun _ K2=>bq vJ kC 1 rfl rfl ?_);clear H;intro a H;refine s_call Vz H wn rfl (awY _ _ H.ro d.flow _ hR.fl hne zf) rfl ?_;clear H;rintro v6 G6 a w hv6 Cz H;obtain ⟨fA,fn,fc,rfl⟩:=hv6.form;have yP:pz G6 ⟨(fA,fn,fc),dp,dd,dy,dr,d1,d2,d3,d4,ins,mv⟩ (nZ d):=⟨hv6,hR.hd.mono Cz,hR.ins,hR.mv,hR.rv.mono Cz,hR.st.mono Cz⟩;refine kH H (Rf vJ rfl ?_);clear H;intro a H;refine bC kC 1 (vs:=[_]) H wn rfl ?_;clear H;intro w H;refine K2 _ _ ?_;clear K2;refine cO (fun _ K3=>?_);refine bP jf (cs:=(⟨(fA,fn,fc),dp,dd,dy,dr,d1,d2,d3,d4,ins,mv⟩:jO).cells) H wn rfl rfl (H.hp.dx 1 rfl rfl) rfl ?_;clear H;intro a H;refine s_call aeU H wn rfl (aek _ _ H.ro _ _ yP (by show bO (ku d.flow)<=_;omega) hw hl) rfl ?_;clear H;rintro v9 G9 a w QT yS H;obtain ⟨uA,un,uc,rfl⟩:=QT.form;refine dO oq H wn rfl ?_;clear H;intro b3 a w hb3 H;refine bC oq 0 (vs:=[_]) H wn rfl ?_;clear H;intro w H;refine K3 _ _ ?_;clear K3;refine bD (fun _ K4=>?_);obtain ⟨Gb,hmb,yR,H⟩:=H.fB;have hq3:aH Gb b3 0=some (.slice uA un uc):=pR yR 0 [.slice uA un uc] rfl 0 _ rfl;replace QT:=QT.mono hmb;replace yP:=(yP.mono yS).mono hmb;refine kP H (SC (bq EM zm 1 rfl rfl ?_));clear H;intro a H;refine gy aeX (Li:=[_,_]) (L:=[]) H wn rfl (adG _ _ (wT H.ro) _ _ _ _ yP.rv (by simpa [nZ] using zr)) rfl ?_;clear H;rintro v12 BM L12 a w ⟨aCX,Xv,atf⟩ Cw H;obtain rfl:=ayr atf;rw [bQ] at Xv;obtain ⟨rA,rc,rfl,-,-⟩:=Xv.shape;refine rM H wn rfl rfl ?_;clear H;intro a H;refine gy aqs (Li:=[_,_]) (L:=L12) H wn rfl (anX d.revs (fun r=>!oI (oZ (lM (nZ d))) r.id) (Hp.owns (Li:=[_,_]) H.hp) Xv (fun x _=>aAT (aF Cw hq3) (QT.mono Cw) (by rw [oZ,List.length_mergeSort];exact hl) x)) rfl ?_;clear H;rintro v14 Ew L14 a w Nt DY H
 simp only [Bool.not_not] at Nt
 obtain ⟨Gr,hmr,ahg,H⟩:=St.qp (Li:=[_,_]) H Nt (rows:=(nD d).revs.map bW.dat) (by simp [nD]) (ayq _ _);obtain ⟨rB,rn,rd,rfl⟩:=ahg.form;replace yP:=((yP.mono Cw).mono DY).mono hmr;have hR2:pz Gr ⟨(fA,fn,fc),dp,dd,dy,(rB,rn,rd),d1,d2,d3,d4,ins,mv⟩ (nD d):=⟨yP.fl,yP.hd,yP.ins,yP.mv,ahg,yP.st⟩;refine kH H (Rf EM rfl ?_);clear H;intro a H;refine bC zm 1 (vs:=[_]) H wn rfl ?_;clear H;intro w H;refine aD ?_;refine K4 _ _ ?_;clear K4;refine cO (fun _ K5=>?_);refine bP jf (cs:=(⟨(fA,fn,fc),dp,dd,dy,(rB,rn,rd),d1,d2,d3,d4,ins,mv⟩:jO).cells) H wn rfl rfl (H.hp.dx 1 rfl rfl) rfl ?_;clear H;intro a H;refine gy aqu (Li:=[_,_]) (L:=[]) H wn rfl (aoa _ _ (wT H.ro) _ _ hR2 ⟨by show bO (ku d.flow)<=_;omega,zh,Nat.le_trans (List.length_filter_le _ _) zr,fun x hx=>zt x (List.mem_filter.1 hx).1,zs,I4⟩) rfl ?_;clear H;rintro v17 BN TB a w ⟨D',rfl,xf,Lf,xr,Lr,rfl,KA,WW,KC,WX,atL,atP,aud,hst'⟩ sV H;obtain ⟨Gs,hms,auy,H⟩:=St.qp (Li:=[_,_]++Lf) (by rw [iZ];exact H) KC (rows:=(nD d).revs.map bW.dat) (by simp) WX;obtain ⟨Gt,hmt,atG,H⟩:=St.qp (Li:=[_,_]) H KA (rows:=(nD d).flow.map ak.dat) (by simp) (WW.mono hms);refine bC jf 0 (vs:=[_,_,_,_,_,_,_,_,_,_,_]) H wn rfl ?_;clear H;intro w H;refine K5 _ _ ?_;clear K5;refine eO ?_;refine (leave1 H results17 (.cons (ny jf (cs:=[_,_,_,_,_,_,_,_,_,_,_]) H rfl rfl (H.hp.dx 0 rfl rfl)) .nil) ?_).1;exact H.rt ⟨D',rfl,atG,(atL.mono hms).mono hmt,atP,aud,auy.mono hmt,(hst'.mono hms).mono hmt⟩
theorem EP {l:List Int} (h:∀ x∈l,x=0):dL l=0:=by
 induction l with
 | nil=>rfl
 | cons x l ih=>rw [h x eT];simp only [dL,ne_eq,not_true_eq_false,if_false];exact ih fun y hy=>h y (gK _ hy)
theorem Jm {E:Nat->Int} {n:Nat} (h:∀ i,i < n->E i=0):iU E n=0:=EP fun x hx=>by
 obtain ⟨i,hi,rfl⟩:=List.mem_map.1 hx;exact h i (vD.1 hi)
def FZ (kM:List Int) (h:dJ):Prop:=∀ q∈refs h,q≠0->q∈kM
theorem M7 {C C':aZ} {e:Int} {h:dJ} (h1:C'.st=C.st) (h2:C'.nk=C.nk) (h0:0∉C.kM) (hin:FZ C'.kM h) (hE:iD C e h=0):iD C' e h=0:=by
 have z:=lu hE;have z1:=z (ru e h.props) (by simp);have z2:=z (zi C h.props) (by simp);have z3:=z (jX C h.marks) (by simp);have z4:=z (iU (tX C h.marks.bE) h.marks.bE.length) (by simp);have z5:=z (dz (decide (64 < (h.marks.layers.length:Int))) 9) (by simp);have z6:=z (iU (xR C e h.marks.layers) h.marks.layers.length) (by simp);have hr:∀ q∈refs h,q=0∨q∈C.kM:=WZ hE;refine EP fun x hx=>?_
 simp only [fV,List.not_mem_nil,or_false] at hx
 rcases hx with rfl|rfl|rfl|rfl|rfl|rfl
 ·exact z1
 ·rw [zi,h1,h2];exact z2
 ·unfold jX at z3 |-
  have hi:¬ (h.marks.ins≠0∧h.marks.ins∉C'.kM):=fun hn=>hn.2 (hin _ (by simp [refs]) hn.1)
  by_cases hq:h.marks.ins≠0∧h.marks.ins∉C.kM
  ·rw [aG hq] at z3;cases z3
  rw [av hq] at z3;rw [av hi];exact z3
 ·refine Jm fun k hk=>?_;have h5:=Cg z4 k hk
  unfold tX at h5 |-
  rw [dV hk] at h5 |-;dsimp only [uN] at h5 |-
  have hm:h.marks.bE[k].rev∈refs h:=by simp only [refs,fV,jA,List.mem_map];exact .inr (.inl ⟨_,jB hk,rfl⟩)
  by_cases hq:h.marks.bE[k].rev∉C.kM
  ·rw [aG hq] at h5;cases h5
  rw [av hq] at h5;rw [av (fun hn=>hn (hin _ hm fun e=>h0 (e ▸ nV.1 hq)))];exact h5
 ·exact z5
 refine Jm fun k hk=>?_;have h5:=Cg z6 k hk
 unfold xR at h5 |-
 rw [dV hk] at h5 |-;dsimp only [Bl] at h5 |-
 have hm:h.marks.layers[k].rev∈refs h:=by simp only [refs,fV,jA,List.mem_map];exact .inr (.inr ⟨_,jB hk,rfl⟩)
 by_cases hq:h.marks.layers[k].rev∉C.kM
 ·rw [aG hq] at h5;cases h5
 rw [av hq] at h5;rw [av (fun hn=>hn (hin _ hm fun e=>h0 (e ▸ nV.1 hq))),h1,h2];exact h5
mutual
theorem ayX {C C':aZ} (h1:C'.st=C.st) (h2:C'.nk=C.nk) (h0:0∉C.kM) (body note:Bool) (t:Int):∀ x:ak,(∀ h∈AX x,FZ C'.kM h)->lW C body note t x->lW C' body note t x
 | .mk k c i tx h f r,hh,hx=>by
  have hf:=NW h1 h2 h0 false true t f;have hr:=ajq h1 h2 h0 note (t+1) r;rw [AX] at hh;rw [lW] at hx |-;refine ⟨hx.1,hx.2.1,M7 h1 h2 h0 (hh h eT) hx.2.2.1,fun e=>?_,fun e=>⟨(hx.2.2.2.2 e).1,?_⟩⟩
  ·subst e;exact hf (fun y hy=>hh y (gK _ (by simpa using hy))) (hx.2.2.2.1 rfl)
  subst e;exact hr (fun y hy=>hh y (gK _ (by simpa using hy))) (hx.2.2.2.2 rfl).2
theorem ayY {C C':aZ} (h1:C'.st=C.st) (h2:C'.nk=C.nk) (h0:0∉C.kM) (note:Bool) (t:Int):∀ x:aS,(∀ h∈EX x,FZ C'.kM h)->qd C note t x->qd C' note t x
 | .mk h cs,hh,hx=>by
  have hc:=ajp h1 h2 h0 note t cs;rw [EX] at hh;rw [qd] at hx |-;refine ⟨EP fun y hy=>?_,hc (fun y hy=>hh y (gK _ hy)) hx.2⟩;have z:=lu hx.1
  simp only [fV,List.not_mem_nil,or_false] at hy
  rcases hy with rfl|rfl|rfl
  ·exact M7 h1 h2 h0 (hh h eT) (z _ eT)
  ·exact z _ (by simp)
  exact z _ (by simp)
theorem ayW {C C':aZ} (h1:C'.st=C.st) (h2:C'.nk=C.nk) (h0:0∉C.kM) (note:Bool) (t:Int):∀ x:aV,(∀ h∈EU x,FZ C'.kM h)->qb C note t x->qb C' note t x
 | .mk i h f,hh,hx=>by
  have hf:=NW h1 h2 h0 false note t f;rw [EU] at hh;rw [qb] at hx |-;exact ⟨M7 h1 h2 h0 (hh h eT) hx.1,hf (fun y hy=>hh y (gK _ hy)) hx.2⟩
theorem NW {C C':aZ} (h1:C'.st=C.st) (h2:C'.nk=C.nk) (h0:0∉C.kM) (body note:Bool) (t:Int):∀ l:List ak,(∀ h∈ko l,FZ C'.kM h)->iR C body note t l->iR C' body note t l
 | [],_,_=>by rw [iR];trivial
 | x :: l,hh,h=>by
  rw [ko] at hh;rw [iR] at h |-;exact ⟨ayX h1 h2 h0 body note t x (fun y hy=>hh y (List.mem_append_left _ hy)) h.1,NW h1 h2 h0 body note t l (fun y hy=>hh y (List.mem_append_right _ hy)) h.2⟩
theorem ajq {C C':aZ} (h1:C'.st=C.st) (h2:C'.nk=C.nk) (h0:0∉C.kM) (note:Bool) (t:Int):∀ l:List aS,(∀ h∈pV l,FZ C'.kM h)->kK C note t l->kK C' note t l
 | [],_,_=>by rw [kK];trivial
 | x :: l,hh,h=>by
  rw [pV] at hh;rw [kK] at h |-;exact ⟨ayY h1 h2 h0 note t x (fun y hy=>hh y (List.mem_append_left _ hy)) h.1,ajq h1 h2 h0 note t l (fun y hy=>hh y (List.mem_append_right _ hy)) h.2⟩
theorem ajp {C C':aZ} (h1:C'.st=C.st) (h2:C'.nk=C.nk) (h0:0∉C.kM) (note:Bool) (t:Int):∀ l:List aV,(∀ h∈qO l,FZ C'.kM h)->lI C note t l->lI C' note t l
 | [],_,_=>by rw [lI];trivial
 | x :: l,hh,h=>by
  rw [qO] at hh;rw [lI] at h |-;exact ⟨ayW h1 h2 h0 note t x (fun y hy=>hh y (List.mem_append_left _ hy)) h.1,ajp h1 h2 h0 note t l (fun y hy=>hh y (List.mem_append_right _ hy)) h.2⟩
end
theorem aiQ {α:Type} {l:List α} {R:α->α->Prop} (htr:∀ a b c,R a b->R b c->R a c) (h:∀ k (hk:k+1 < l.length),R l[k] l[k+1]):l.Pairwise R:=by
 rw [List.pairwise_iff_getElem];intro i j hi hj hij
 induction j with
 | zero=>omega
 | succ j ih =>
  by_cases e:i=j
  ·subst e;exact h i hj
  exact htr _ _ _ (ih (by omega) (by omega)) (h j hj)
def aak (C:aZ) (e k v:Int):Prop:=wE e k=true∧uL k v=0∧xX C.st C.nk k v=0
def xu (C:aZ) (e:Int) (l:List aL):Prop:=(∀ p∈l,aak C e p.key p.value)∧l.Pairwise fun x y=>x.key < y.key
def Ao (C:aZ) (e k:Int) (s:Int × Bool):Prop:=wE e k=true∧(s.2=true->uL k s.1=0∧xX C.st C.nk k s.1=0)∧(s.2=false->s.1=0)
def F8 (C:aZ) (e:Int) (y:bS):Prop:=y.rev∈C.kM∧Ao C e y.key (y.before,y.had)
structure Ja (C:aZ) (e:Int) (h:dJ):Prop where
 el:1<=e∧e<=10
 ps:xu C e h.props
 mrk:(h.marks.ins≠0->h.marks.ins∈C.kM)∧(0<=h.marks.move∧h.marks.move<=1073741824)∧(h.marks.move≠0->h.marks.ins≠0)∧h.marks.bE.length<=16
 dl:(∀ x∈h.marks.bE,x.rev∈C.kM∧0<=x.move∧x.move<=1073741824)∧h.marks.bE.Pairwise fun x y=>x.rev < y.rev
 ln:h.marks.layers.length<=64
 ly:(∀ y∈h.marks.layers,F8 C e y)∧h.marks.layers.Pairwise fun x y=>x.key<=y.key
theorem U8 (e:Int):∀ (l:List aL) (q:Option Int),zI e q l=0↔(∀ p∈l,wE e p.key=true∧uL p.key p.value=0)∧(l.Pairwise fun x y=>x.key < y.key)∧∀ j,q=some j->∀ p∈l,j < p.key
 | [],q=>by simp [zI]
 | p :: r,q=>by
  rw [zI];have ih:=U8 e r (some p.key)
  constructor
  ·intro h
   split at h
   ·cases h
   rename_i h1
   split at h
   ·cases h
   rename_i h2
   split at h
   ·cases h
   rename_i h3
   split at h
   ·rename_i h4
    obtain ⟨a,b,c⟩:=ih.1 h
    have hq:∀ j,q=some j->j < p.key:=fun j e=>by
     subst e;rw [Fp,qY] at h3;have:j≠p.key:=fun e=>h2 (by rw [e])
     omega
    refine ⟨fun x hx=>?_,?_,fun j e x hx=>?_⟩
    ·rcases fV.1 hx with rfl|hx
     ·exact ⟨by simpa using h1,h4⟩
     exact a x hx
    ·exact qm.2 ⟨fun y hy=>c _ rfl y hy,b⟩
    rcases fV.1 hx with rfl|hx
    ·exact hq j e
    exact Int.lt_trans (hq j e) (c _ rfl x hx)
   rename_i h4;exact absurd h h4
  rintro ⟨a,b,c⟩;obtain ⟨b1,b2⟩:=qm.1 b;obtain ⟨a1,a2⟩:=a p eT;rw [av (by simp [a1]),av (fun e=>by have:=c _ e p eT;omega),av,aG a2]
  ·exact ih.2 ⟨fun x hx=>a x (gK _ hx),b2,fun j e x hx=>by cases e;exact b1 x hx⟩
  intro hl
  cases q with
  | none=>cases hl
  | some j =>
   rw [Fp,qY] at hl;have:=c j rfl p eT;omega
theorem H6 (C:aZ) (e:Int) (h:dJ):iD C e h=0↔Ja C e h:=by
 constructor
 ·intro hE;have z:=lu hE;have z1:=z (ru e h.props) (by simp);have z2:=z (zi C h.props) (by simp);have z3:=z (jX C h.marks) (by simp);have z4:=z (iU (tX C h.marks.bE) h.marks.bE.length) (by simp);have z5:=z (dz (decide (64 < (h.marks.layers.length:Int))) 9) (by simp);have z6:=z (iU (xR C e h.marks.layers) h.marks.layers.length) (by simp)
  unfold ru at z1
  have hel:¬ (e < 1∨10 < e):=fun h=>by rw [aG h] at z1;cases z1
  rw [av hel,U8] at z1
  unfold jX at z3
  have hD:∀ k (hk:k < h.marks.bE.length),uN C k h.marks.bE[k] ((h.marks.bE[k - 1]?.map gF.rev).getD 0)=0:=fun k hk=>by
   have h5:=Cg z4 k hk
   unfold tX at h5
   rwa [dV hk] at h5
  have hL:∀ k (hk:k < h.marks.layers.length),Bl C e k h.marks.layers[k] ((h.marks.layers[k - 1]?.map bS.key).getD 0)=0:=fun k hk=>by
   have h5:=Cg z6 k hk
   unfold xR at h5
   rwa [dV hk] at h5
  refine ⟨by omega,⟨fun p hp=>⟨(z1.1 p hp).1,(z1.1 p hp).2,?_⟩,z1.2.1⟩,?_,⟨fun x hx=>?_,aiQ (fun a b c=>Int.lt_trans) fun k hk=>?_⟩,?_,⟨fun y hy=>?_,aiQ (fun a b c=>Int.le_trans) fun k hk=>?_⟩⟩
  ·exact lu z2 _ (List.mem_map.2 ⟨p,hp,rfl⟩)
  ·split at z3
   ·cases z3
   rename_i a1
   split at z3
   ·cases z3
   rename_i a2
   split at z3
   ·cases z3
   rename_i a3
   exact ⟨fun h0=>Decidable.byContradiction fun hn=>a1 ⟨h0,hn⟩,by omega,by omega,by omega⟩
  ·obtain ⟨k,hk,rfl⟩:=List.getElem_of_mem hx;have h6:=hD k hk
   unfold uN at h6
   split at h6
   ·cases h6
   rename_i a1
   split at h6
   ·cases h6
   split at h6
   ·cases h6
   rename_i a3
   exact ⟨nV.1 a1,by omega⟩
  ·have h6:=hD (k+1) hk;rw [Nat.add_sub_cancel,dV (by omega:k < h.marks.bE.length)] at h6
   unfold uN at h6
   split at h6
   ·cases h6
   split at h6
   ·cases h6
   rename_i a2
   simp only [wo,Option.getD_some] at a2
   omega
  ·unfold dz at z5
   split at z5
   ·cases z5
   rename_i a;simp only [qY] at a;omega
  ·obtain ⟨k,hk,rfl⟩:=List.getElem_of_mem hy;have h6:=hL k hk
   unfold Bl at h6
   split at h6
   ·cases h6
   rename_i a1
   split at h6
   ·cases h6
   rename_i a2
   split at h6
   ·cases h6
   refine ⟨nV.1 a1,by simpa using a2,fun ht=>?_,fun hf=>?_⟩
   ·dsimp only at ht;rw [av (by rw [ht];decide)] at h6;exact ⟨lu h6 _ eT,lu h6 _ (by simp)⟩
   dsimp only at hf;rw [aG hf,tK (by decide)] at h6
   simpa using h6
  have h6:=hL (k+1) hk;rw [Nat.add_sub_cancel,dV (by omega:k < h.marks.layers.length)] at h6
  unfold Bl at h6
  split at h6
  ·cases h6
  split at h6
  ·cases h6
  split at h6
  ·cases h6
  rename_i a2
  simp only [wo,Option.getD_some] at a2
  omega
 rintro ⟨hel,⟨hp,hps⟩,⟨m1,m2,m3,m4⟩,⟨d1,d2⟩,hln,⟨l1,l2⟩⟩;refine EP fun x hx=>?_
 simp only [fV,List.not_mem_nil,or_false] at hx
 rcases hx with rfl|rfl|rfl|rfl|rfl|rfl
 ·unfold ru
  rw [dw,U8];exact ⟨fun p h=>⟨(hp p h).1,(hp p h).2.1⟩,hps,fun j e=>by cases e⟩
 ·refine EP fun x hx=>?_;obtain ⟨p,h1,rfl⟩:=List.mem_map.1 hx;exact (hp p h1).2.2
 ·unfold jX
  rw [av fun h=>h.2 (m1 h.1),av fun h=>h.elim (fun h=>h m2) fun h=>m3 h.1 h.2,dw]
 ·refine Jm fun k hk=>?_
  unfold tX
  rw [dV hk];dsimp only [uN];have:=d1 _ (jB hk);rw [av fun h=>h this.1,av,av fun h=>h this.2];rintro ⟨h0,h1⟩;rw [dV (by omega:k - 1 < h.marks.bE.length)] at h1;have:=List.pairwise_iff_getElem.1 d2 (k - 1) k (by omega) hk (by omega)
  simp only [wo,Option.getD_some] at h1
  omega
 ·rw [tK (by decide),vE];omega
 refine Jm fun k hk=>?_
 unfold xR
 rw [dV hk];dsimp only [Bl];obtain ⟨a1,a2,a3,a4⟩:=l1 _ (jB hk);rw [av fun h=>h a1,av (by simp [a2]),av]
 ·split
  ·rename_i hf
   rw [tK (by decide)];have:=a4 hf
   simpa using this
  rename_i hf
  obtain ⟨b1,b2⟩:=a3 (by simpa using hf);exact Qg.2 ⟨b1,b2⟩
 rintro ⟨h0,h1⟩;rw [dV (by omega:k - 1 < h.marks.layers.length)] at h1;have:=List.pairwise_iff_getElem.1 l2 (k - 1) k (by omega) hk (by omega)
 simp only [wo,Option.getD_some] at h1
 omega
theorem J5 {l:List aL} {k:Int} (h:oI (l.map aL.key) k=true):∃ hi:gM (l.map aL.key) k < l.length,l[gM (l.map aL.key) k].key=k:=by
 have h1:=Qn h;rw [bQ] at h1;have h2:=pI h;rw [qL,dV h1] at h2;exact ⟨h1,by simpa using h2⟩
theorem arO {C:aZ} {e:Int} {l:List aL} (hp:xu C e l) {k:Int} (hf:wE e k=true):Ao C e k (kU l k):=by
 unfold kU
 split
 ·rename_i h
  obtain ⟨h1,h2⟩:=J5 h;have:=(hp.1 _ (jB h1)).2;rw [h2] at this;rw [List.getD_eq_getElem?_getD,dV h1];exact ⟨hf,fun _=>this,fun h=>by cases h⟩
 exact ⟨hf,fun h=>(by cases h),fun _=>rfl⟩
theorem ajN {C:aZ} {e k:Int} (hf:wE e k=true):Ao C e k (0,false):=⟨hf,fun h=>(by cases h),fun _=>rfl⟩
theorem amh {l:List aL} (hs:l.Pairwise fun x y=>x.key < y.key) (k:Int):(∀ p∈l.take (gM (l.map aL.key) k),p.key < k)∧∀ p∈l.drop (gM (l.map aL.key) k),k<=p.key:=by
 have hle:=GN (l.map aL.key) k;rw [bQ] at hle;have hp:(l.map aL.key).Pairwise (·<=·):=List.pairwise_map.2 (hs.imp fun h=>Int.le_of_lt h);obtain ⟨r1,r2⟩:=adf hp k;refine ⟨fun p h=>?_,fun p h=>?_⟩
 ·obtain ⟨i,hi,rfl⟩:=List.getElem_of_mem h;rw [List.length_take] at hi;have:=r1 i (by rw [bQ];omega) (by omega);rw [List.getElem_map] at this;rw [List.getElem_take];exact this
 obtain ⟨i,hi,rfl⟩:=List.getElem_of_mem h;rw [List.length_drop] at hi;have h1:=r2 (by rw [bQ];omega);rw [List.getElem_map] at h1;rw [List.getElem_drop]
 by_cases e:i=0
 ·subst e;exact h1
 have:=List.pairwise_iff_getElem.1 hs (gM (l.map aL.key) k) (gM (l.map aL.key) k+i) (by omega) (by omega) (by omega)
 omega
theorem anG {C:aZ} {e:Int} {l:List aL} (hp:xu C e l) (k:Int):xu C e (Aw l k):=by
 unfold Aw
 split
 ·have hs:(l.take (gM (l.map aL.key) k)++l.drop (gM (l.map aL.key) k+1)).Sublist l:=by
   conv=>rhs;rw [<- List.take_append_drop (gM (l.map aL.key) k) l]
   exact List.Sublist.append (jE _) (by rw [<- List.drop_drop];exact List.drop_sublist _ _)
  exact ⟨fun p h=>hp.1 p (hs.subset h),hp.2.sublist hs⟩
 exact hp
theorem azK {C:aZ} {e:Int} {l:List aL} (hp:xu C e l) {k v:Int} (hk:aak C e k v):xu C e (Bu l k v):=by
 obtain ⟨b1,b2⟩:=amh hp.2 k
 unfold Bu
 split
 ·rename_i h
  obtain ⟨h1,h2⟩:=J5 h;rw [List.getD_eq_getElem?_getD,dV h1,Option.getD_some,h2];refine ⟨fun p hpm=>?_,?_⟩
  ·rcases List.mem_or_eq_of_mem_set hpm with h|rfl
   ·exact hp.1 p h
   exact hk
  have e:(l.set (gM (l.map aL.key) k) ⟨k,v⟩).map aL.key=l.map aL.key:=by
   rw [List.map_set];refine List.ext_getElem (by simp) fun i h3 h4=>?_;rw [List.getElem_set]
   split
   ·rename_i hi;subst hi;rw [List.getElem_map,h2]
   rfl
  have:=List.pairwise_map.2 hp.2;rw [<- e] at this;exact List.pairwise_map.1 this
 rename_i h
 have hne:∀ p∈l,p.key≠k:=fun p hpm he=>by
  rw [J4 (List.pairwise_map.2 (hp.2.imp fun h=>Int.le_of_lt h)),qY] at h;exact h (List.mem_map.2 ⟨p,hpm,he⟩)
 refine ⟨fun p hpm=>?_,?_⟩
 ·rcases jA.1 hpm with h|h
  ·exact hp.1 p (List.mem_of_mem_take h)
  rcases fV.1 h with rfl|h
  ·exact hk
  exact hp.1 p (List.mem_of_mem_drop h)
 rw [List.pairwise_append];refine ⟨hp.2.sublist (List.take_sublist _ _),qm.2 ⟨fun p h=>?_,hp.2.sublist (List.drop_sublist _ _)⟩,fun p h q hq=>?_⟩
 ·have h1:=b2 p h;have h2:=hne p (List.mem_of_mem_drop h)
  show k < p.key
  omega
 have h1:=b1 p h
 rcases fV.1 hq with rfl|hq
 ·exact h1
 have h2:=b2 q hq
 show p.key < q.key
 omega
theorem akG {C:aZ} {e:Int} {l:List aL} (hp:xu C e l) {k:Int} {s:Int × Bool} (hs:Ao C e k s):xu C e (vw l k s):=by
 unfold vw
 split
 ·rename_i h
  exact azK hp ⟨hs.1,hs.2.1 h⟩
 exact anG hp k
theorem XU {C:aZ} {e:Int} (rej:Int->Bool) {yg:List (Int × Bool)} {k:Int} (hf:wE e k=true) (hst:∀ s∈yg,Ao C e k s):∀ (l:List bS) (j:Nat) (now:Int × Bool),(∀ y∈l,y.key=k∧y.rev∈C.kM)->Ao C e k now ->
  (∀ y∈(um rej yg l j now).1,y.key=k∧F8 C e y∧∃ z∈l,z.rev=y.rev∧rej z.rev=false)∧Ao C e k (um rej yg l j now).2
 | [],_,_,_,hn=>by rw [um];exact ⟨fun y h=>(by cases h),hn⟩
 | y :: r,j,now,hl,hn=>by
  obtain ⟨h1,h2⟩:=hl y eT;have hl2:=fun z hz=>hl z (gK _ hz);rw [um]
  split
  ·obtain ⟨a,b⟩:=XU rej hf hst r (j+1) now hl2 hn;refine ⟨fun z hz=>?_,b⟩;obtain ⟨c1,c2,x,c3,c4⟩:=a z hz;exact ⟨c1,c2,x,gK _ c3,c4⟩
  rename_i hr
  have hg:Ao C e k (yg.getD (j+1) (0,false)):=by
   rw [List.getD_eq_getElem?_getD]
   cases hx:yg[j+1]? with
   | none=>exact ajN hf
   | some s=>exact hst s (lQ hx)
  obtain ⟨a,b⟩:=XU rej hf hst r (j+1) _ hl2 hg;refine ⟨fun z hz=>?_,b⟩
  rcases fV.1 hz with rfl|hz
  ·refine ⟨h1,⟨h2,?_⟩,y,eT,rfl,by simpa using hr⟩;dsimp only;rw [h1];exact hn
  obtain ⟨c1,c2,x,c3,c4⟩:=a z hz;exact ⟨c1,c2,x,gK _ c3,c4⟩
theorem V3 (acc:Int->Bool):∀ (l:List bS) (k c:Nat),c<=k->c<=jd acc l k c
 | [],k,c,_=>by rw [jd];exact eu _
 | y :: r,k,c,h=>by
  rw [jd]
  split
  ·have:=V3 acc r (k+1) (k+1) (eu _);omega
  exact V3 acc r (k+1) c (by omega)
theorem afF (acc:Int->Bool):∀ (l:List bS) (k c:Nat),c<=k->∀ y∈l.drop (jd acc l k c - k),acc y.rev=false
 | [],_,_,_,y,h=>by rw [List.drop_nil] at h;cases h
 | x :: r,k,c,hc,y,h=>by
  rw [jd] at h
  have hc2:(if acc x.rev=true then k+1 else c)<=k+1:=by split <;> omega
  have ih:=afF acc r (k+1) (if acc x.rev=true then k+1 else c) hc2;have hge:=V3 acc r (k+1) (if acc x.rev=true then k+1 else c) hc2
  by_cases hk:jd acc r (k+1) (if acc x.rev=true then k+1 else c)<=k
  ·rw [show jd acc r (k+1) (if acc x.rev=true then k+1 else c) - k=0 by omega,wu] at h;rw [show jd acc r (k+1) (if acc x.rev=true then k+1 else c) - (k+1)=0 by omega,wu] at ih
   rcases fV.1 h with rfl|h
   ·cases ha:acc y.rev
    ·rfl
    rw [aG ha] at hge hk;omega
   exact ih y h
  rw [show jd acc r (k+1) (if acc x.rev=true then k+1 else c) - k=(jd acc r (k+1) (if acc x.rev=true then k+1 else c) - (k+1))+1 by omega,xB] at h;exact ih y h
theorem afN {C:aZ} {e:Int} (acc rej:Int->Bool) {props:List aL} (hp:xu C e props) {k:Int} {l:List bS} (hne:l≠[]) (hl:∀ y∈l,y.key=k∧F8 C e y) :
  (∀ y∈(lZ acc rej props k l).1,y.key=k∧F8 C e y∧∃ z∈l,z.rev=y.rev∧rej z.rev=false∧acc z.rev=false)∧Ao C e k (lZ acc rej props k l).2:=by
 have hf:wE e k=true:=by
  obtain ⟨y,r,rfl⟩:=List.exists_cons_of_ne_nil hne;obtain ⟨h1,-,h2,-⟩:=hl y eT;rw [<- h1];exact h2
 have hst:∀ s∈qg props k l,Ao C e k s:=fun s hs=>by
  unfold qg at hs
  rcases jA.1 hs with hs|hs
  ·obtain ⟨y,hy,rfl⟩:=List.mem_map.1 hs;obtain ⟨h1,-,h2⟩:=hl y hy;rw [<- h1];exact h2
  rw [pG.1 hs];exact arO hp hf
 unfold lZ
 have hn:Ao C e k ((qg props k l).getD (jd acc l 0 0) (0,false)):=by
  rw [List.getD_eq_getElem?_getD]
  cases hx:(qg props k l)[jd acc l 0 0]? with
  | none=>exact ajN hf
  | some s=>exact hst s (lQ hx)
 obtain ⟨a,b⟩:=XU rej hf hst (l.drop (jd acc l 0 0)) (jd acc l 0 0) _ (fun y hy=>⟨(hl y (List.mem_of_mem_drop hy)).1,(hl y (List.mem_of_mem_drop hy)).2.1⟩) hn;refine ⟨fun y hy=>?_,b⟩;obtain ⟨c1,c2,x,c3,c4⟩:=a y hy;exact ⟨c1,c2,x,List.mem_of_mem_drop c3,c4.1,c4.2,afF acc l 0 0 (eu _) x (by simpa using c3)⟩
theorem MZ:∀ (f:Nat) (l:List bS),∀ q∈rE f l,∀ y∈q.2,y.key=q.1
 | 0,_,q,hq=>by cases hq
 | f+1,[],q,hq=>by cases hq
 | f+1,y :: r,q,hq=>by
  rw [rE] at hq
  rcases fV.1 hq with rfl|hq
  ·intro z hz
   rcases fV.1 hz with rfl|hz
   ·rfl
   have:=List.all_takeWhile (l:=r) (p:=fun z=>decide (z.key=y.key));rw [jI] at this
   simpa using this z hz
  exact MZ f _ q hq
theorem adY {C:aZ} {e:Int} (acc rej:Int->Bool) {props:List aL} (hp:xu C e props):∀ (L:List (Int × List bS)) (s:List aL × List bS),xu C e s.1->(∀ q∈L,q.2≠[]∧∀ y∈q.2,y.key=q.1∧F8 C e y) ->
  xu C e (tV acc rej props L s).1∧∃ m,(tV acc rej props L s).2=s.2++m∧(m.map bS.key).Sublist ((L.flatMap Prod.snd).map bS.key)∧∀ y∈m,F8 C e y∧∃ z∈L.flatMap Prod.snd,z.rev=y.rev∧rej z.rev=false∧acc z.rev=false
 | [],s,h,_=>by rw [tV];exact ⟨h,[],by simp,jE _,fun y h=>by cases h⟩
 | (k,l) :: r,s,h,hL=>by
  obtain ⟨h1,h2⟩:=hL (k,l) eT;obtain ⟨a,b⟩:=afN acc rej hp h1 h2;have hln:=V6 acc rej props k l;rw [tV];obtain ⟨c,m,d1,d2,d3⟩:=adY acc rej hp r (vw s.1 k (lZ acc rej props k l).2,s.2++(lZ acc rej props k l).1) (akG h b) fun q hq=>hL q (gK _ hq);refine ⟨c,(lZ acc rej props k l).1++m,by rw [d1,iZ],?_,fun y hy=>?_⟩
  ·rw [List.flatMap_cons,kF,kF];refine List.Sublist.append ?_ d2;have e1:(lZ acc rej props k l).1.map bS.key=List.replicate (lZ acc rej props k l).1.length k:=List.eq_replicate_iff.2 ⟨by simp,fun x hx=>by obtain ⟨y,hy,rfl⟩:=List.mem_map.1 hx;exact (a y hy).1⟩;have e2:l.map bS.key=List.replicate l.length k:=List.eq_replicate_iff.2 ⟨by simp,fun x hx=>by obtain ⟨y,hy,rfl⟩:=List.mem_map.1 hx;exact (h2 y hy).1⟩;rw [e1,e2];exact (List.replicate_sublist_replicate k).2 hln
  rw [List.flatMap_cons]
  rcases jA.1 hy with hy|hy
  ·obtain ⟨-,c2,x,c3,c4⟩:=a y hy;exact ⟨c2,x,jA.2 (.inl c3),c4⟩
  obtain ⟨c2,x,c3,c4⟩:=d3 y hy;exact ⟨c2,x,jA.2 (.inr c3),c4⟩
theorem MG {C:aZ} {e:Int} (acc rej:Int->Bool) {h:dJ} (hh:Ja C e h):Ja C e (iE acc rej h)∧∀ y∈(iE acc rej h).marks.layers,∃ z∈h.marks.layers,z.rev=y.rev∧rej z.rev=false∧acc z.rev=false:=by
 obtain ⟨hel,hps,⟨m1,m2,m3,m4⟩,⟨d1,d2⟩,hln,⟨l1,l2⟩⟩:=hh;obtain ⟨f1,f2⟩:=Hg h.marks.layers.length h.marks.layers (eu _);obtain ⟨a,m,b1,b2,b3⟩:=adY acc rej hps (rE h.marks.layers.length h.marks.layers) (h.props,[]) hps fun q hq=>⟨f2 q hq,fun y hy=>⟨MZ _ _ q hq y hy,l1 y (by rw [<- f1];exact List.mem_flatMap.2 ⟨q,hq,hy⟩)⟩⟩;rw [f1] at b2 b3;rw [jR] at b1;have hsub:=List.filter_sublist (p:=fun x:gF=>!rej x.rev) (l:=h.marks.bE);have hlen:=b2.length_le;rw [bQ,bQ] at hlen
 have hmk:(if kW acc h then 0 else h.marks.ins)=0∧(if kW acc h then 0 else h.marks.move)=0∨(if kW acc h then 0 else h.marks.ins)=h.marks.ins∧(if kW acc h then 0 else h.marks.move)=h.marks.move:=by
  by_cases hi:kW acc h
  ·exact .inl ⟨aG hi,aG hi⟩
  exact .inr ⟨av hi,av hi⟩
 refine ⟨⟨hel,a,?_,⟨fun x hx=>d1 x (hsub.subset hx),d2.sublist hsub⟩,?_,⟨fun y hy=>?_,?_⟩⟩,fun y hy=>?_⟩
 ·have hd:=hsub.length_le
  unfold iE
  dsimp only
  rcases hmk with ⟨e1,e2⟩|⟨e1,e2⟩
  ·rw [e1,e2];exact ⟨fun h=>absurd rfl h,by omega,fun h=>absurd rfl h,by omega⟩
  rw [e1,e2];exact ⟨m1,m2,m3,by omega⟩
 ·unfold iE;dsimp only;rw [b1];omega
 ·unfold iE at hy;dsimp only at hy;rw [b1] at hy;exact (b3 y hy).1
 ·unfold iE;dsimp only;rw [b1]
  exact List.pairwise_map.1 ((List.pairwise_map.2 l2).sublist b2)
 unfold iE at hy;dsimp only at hy;rw [b1] at hy;exact (b3 y hy).2
theorem PN {C:aZ} {e:Int} (acc rej:Int->Bool) {h:dJ} (hh:iD C e h=0):iD C e (iE acc rej h)=0:=(H6 C e _).2 (MG acc rej ((H6 C e h).1 hh)).1
def LQ (l:List bW):Prop:=l.length<=256∧(∀ x∈l,xC x.author=true∧(0<=x.time∧x.time<=1099511627776)∧1<=x.id∧x.id<=1073741824)∧l.Pairwise fun x y=>x.id < y.id
theorem ajo {l:List bW} (h:Du l=0):LQ l:=by
 have h1:=lu h _ (eT);have h2:=lu h _ (gK _ eT)
 have hl:l.length<=256:=by
  rw [tK (by decide),vE] at h1;omega
 have hi:∀ i (hi:i < l.length),RY l i l[i]=0:=fun i hi=>by
  have h3:=Cg h2 i (by omega)
  unfold CU at h3
  rwa [dV hi] at h3
 refine ⟨hl,fun x hx=>?_,?_⟩
 ·obtain ⟨i,hi',rfl⟩:=List.getElem_of_mem hx;have z:=lu (hi i hi');have z1:=QX (z _ eT);rw [dV hi'] at z1;have z2:=z (dz (!xC l[i].author) 39) (by simp);have z3:=z (dz (!decide (0<=l[i].time∧l[i].time<=1099511627776)) 40) (by simp);rw [tK (by decide)] at z2 z3;exact ⟨by simpa using z2,by simpa using z3,z1.1,z1.2.1⟩
 have step:∀ i (hi':i+1 < l.length),l[i].id < l[i+1].id:=fun i hi'=>by
  have z1:=(QX (lu (hi (i+1) hi') _ eT)).2.2 (by omega);rw [Nat.add_sub_cancel,dV hi',dV (show i < l.length by omega)] at z1;exact z1
 rw [List.pairwise_iff_getElem];intro i j hi' hj hij
 induction j with
 | zero=>omega
 | succ j ih =>
  by_cases e:i=j
  ·subst e;exact step i hj
  exact Int.lt_trans (ih (by omega) (by omega)) (step j hj)
theorem avu {id:Nat->Int} {i:Nat} (h1:1<=id i∧id i<=1073741824) (h2:0 < i->id (i - 1) < id i):wO id i=0:=by
 unfold wO
 rw [av (fun hn=>hn h1),av (fun hn=>by have:=h2 hn.1;omega),av (fun hn=>by have:=h2 hn.1;omega)]
theorem afL {l:List bW} (h:LQ l):Du l=0:=by
 obtain ⟨hl,hx,hp⟩:=h;refine Qg.2 ⟨(tK (by decide)).2 (qN (by omega)),Jm fun i hi=>?_⟩
 have hi':i < l.length:=by omega
 unfold CU
 rw [dV hi'];have h1:=hx _ (jB hi');refine EP fun y hy=>?_
 simp only [fV,List.not_mem_nil,or_false] at hy
 rcases hy with rfl|rfl|rfl
 ·have e:∀ k (hk:k < l.length),(l[k]?.map bW.id).getD 0=l[k].id:=fun k hk=>by rw [dV hk];rfl
  exact avu (by rw [e i hi'];exact h1.2.2) (fun h0=>by
   rw [e i hi',e (i - 1) (by omega)]
   exact List.pairwise_iff_getElem.1 hp (i - 1) i (by omega) hi' (by omega))
 ·rw [tK (by decide),h1.1];rfl
 rw [tK (by decide),nT h1.2.1];rfl
theorem LQ.sub {l m:List bW} (h:LQ l) (hs:m.Sublist l):LQ m:=⟨Nat.le_trans hs.length_le h.1,fun x hx=>h.2.1 x (hs.subset hx),h.2.2.sublist hs⟩
def uF (A:List mq):Int:=(A.map fun f=>wP f.items).sum
theorem Zl (a b:List mq):uF (a++b)=uF a+uF b:=by simp [uF]
theorem SH (x:mq) (b:List mq):uF (x :: b)=wP x.items+uF b:=by simp [uF]
theorem aAI (A:List mq):qX A=uF A:=by
 have key:∀ (A:List mq) (n:Int),A.foldl (fun n f=>n+wP f.items) n=n+uF A:=by
  intro A
  induction A with
  | nil=>intro n;simp [uF]
  | cons x A ih=>intro n;rw [List.foldl_cons,ih,SH];omega
 rw [qX,key];omega
theorem XZ {C:aZ} {body note:Bool} {t:Int} {l:List ak} (h:iR C body note t l):wP l=uq l:=by
 unfold wP
 rw [aG]
 unfold zK
 rw [jI];intro x hx;have h1:=(He ((RB x).1 (Ee.1 h x hx)).1).1;refine nT ?_
 unfold Dc Lm;rw [aG h1];split <;> rfl
theorem aAG (k c i:Int) (tx:ByteArray) (h:dJ) (f:List ak) (r:List aS):uI (.mk k c i tx h f r)=jw (.mk k c i tx h f r)+(if k=6 then jZ f else if k=7 then oM r else 0):=by rw [uI];rfl
mutual
theorem aAK (C:aZ) (body note:Bool) (t:Int) (n2:Bool) (t2:Int):∀ x:ak,lW C body note t x->(jw x:Nat)+uF (BJ n2 t2 x)=(uI x:Nat)
 | .mk k c i tx h f r,hx=>by
  have hf:=SK C false true t true t2 f;have hr:=akf C note (t+1) n2 t2 r;rw [lW] at hx;rw [aAG,BJ]
  by_cases h6:k=6
  ·subst h6;have ho:=hx.2.2.2.1 rfl;have:=hf ho;rw [aG rfl,aG rfl,SH];dsimp only;rw [XZ ho];push_cast;omega
  by_cases h7:k=7
  ·subst h7;have:=hr (hx.2.2.2.2 rfl).2;rw [av h6,av h6,aG rfl,aG rfl];push_cast;omega
  rw [av h6,av h6,av h7,av h7];simp [uF]
theorem aAL (C:aZ) (note:Bool) (t:Int) (n2:Bool) (t2:Int):∀ x:aS,qd C note t x->uF (BK n2 t2 x)=(uR x:Nat)
 | .mk h cs,hx=>by
  have hc:=ake C note t n2 t2 cs;rw [qd] at hx;rw [uR,BK];exact hc hx.2
theorem aAJ (C:aZ) (note:Bool) (t:Int) (n2:Bool) (t2:Int):∀ x:aV,qb C note t x->uF (BI n2 t2 x)=(uC x:Nat)
 | .mk i h f,hx=>by
  have hf:=SK C false note t n2 (t2+1) f;rw [qb] at hx;have:=hf hx.2;rw [uC,BI,SH];dsimp only;rw [XZ hx.2];omega
theorem SK (C:aZ) (body note:Bool) (t:Int) (n2:Bool) (t2:Int):∀ l:List ak,iR C body note t l->(uq l:Nat)+uF (lN n2 t2 l)=(jZ l:Nat)
 | [],_=>by simp [uq,lN,uF,jZ]
 | x :: l,h=>by
  rw [iR] at h;have h1:=aAK C body note t n2 t2 x h.1;have h2:=SK C body note t n2 t2 l h.2;rw [uq,lN,jZ,Zl];push_cast;omega
theorem akf (C:aZ) (note:Bool) (t:Int) (n2:Bool) (t2:Int):∀ l:List aS,kK C note t l->uF (tJ n2 t2 l)=(oM l:Nat)
 | [],_=>by simp [tJ,uF,oM]
 | x :: l,h=>by
  rw [kK] at h;have h1:=aAL C note t n2 t2 x h.1;have h2:=akf C note t n2 t2 l h.2;rw [tJ,oM,Zl];push_cast;omega
theorem ake (C:aZ) (note:Bool) (t:Int) (n2:Bool) (t2:Int):∀ l:List aV,lI C note t l->uF (uz n2 t2 l)=(qj l:Nat)
 | [],_=>by simp [uz,uF,qj]
 | x :: l,h=>by
  rw [lI] at h;have h1:=aAJ C note t n2 t2 x h.1;have h2:=ake C note t n2 t2 l h.2;rw [uz,qj,Zl];push_cast;omega
end
theorem SI {C:aZ} {body note:Bool} {t:Int} {l:List ak} (h:iR C body note t l):qX (lY l)=(jZ l:Nat):=by
 have:=SK C body note t false 0 l h;rw [aAI,lY,SH];dsimp only;rw [XZ h];exact this
theorem Rt {d:gG} (h:iL d=0):iL (nZ d)=0∧qX (lY (ku d.flow))=qX (lY d.flow):=by
 obtain ⟨h1,h2,h3,h4,h5⟩:=(zJ d).1 h;obtain ⟨e1,e2⟩:=ahv h3;exact ⟨(zJ (nZ d)).2 ⟨h1,h2,Yj h3,by show lJ [] [] (eH (ku d.flow));rw [e1];exact h4,by show jZ (ku d.flow)<=_;rw [e2];exact h5⟩,by rw [SI (Yj h3),SI h3,e2]⟩
theorem ajI (l:List Int):(oZ l).Pairwise (·<=·):=by
 have h:=List.pairwise_mergeSort (le:=leI) (fun a b c h1 h2=>by simp only [leI,qY] at *;omega) (fun a b=>by simp only [leI,Bool.or_eq_true,qY];omega) l
 exact h.imp fun h=>by simpa [leI] using h
theorem ahM (d:gG):(fun r:bW=>oI (oZ (lM (nZ d))) r.id)=fun r=>decide (r.id∈lM (nZ d)):=by
 funext r
 rw [J4 (ajI _)];exact decide_eq_decide.2 (by rw [oZ,List.mem_mergeSort])
theorem abm {p:Prop} (h:p:=by
 intro hm;obtain ⟨x,hx,e⟩:=List.mem_map.1 (show (0:Int)∈d.revs.map bW.id from hm);have:=(hg.2.1 x hx).2.2.1
 omega):p:=h
theorem aik {d:gG} (h:iL d=0):iL (nD d)=0:=by
 obtain ⟨h1,h2,h3,h4,h5⟩:=(zJ _).1 (Rt h).1;have hg:=ajo h1.2
 have h0:(0:Int)∉(nZ d).kT.kM:=by
  exact abm
 have hin:∀ q∈KQ (nZ d),q≠0->q∈(nD d).kT.kM:=by
  intro q hq hn
  have hu:q∈lM (nZ d):=by
   unfold lM
   rw [List.mem_filter,qY,OZ];exact ⟨.inr hq,hn⟩
  have hr:=(RU (Rt h).1 q hq).resolve_left hn;obtain ⟨x,hx,rfl⟩:=List.mem_map.1 hr
  show x.id∈(nD d).revs.map bW.id
  refine List.mem_map.2 ⟨x,?_,rfl⟩
  show x∈d.revs.filter _
  rw [ahM,List.mem_filter];exact ⟨hx,nT hu⟩
 refine (zJ (nD d)).2 ⟨⟨h1.1,afL (hg.sub List.filter_sublist)⟩,⟨M7 (C:=(nZ d).kT) (C':=(nD d).kT) rfl rfl h0 (fun q hq hn=>hin q (by unfold KQ;exact List.mem_append_right _ hq) hn) h2.1,h2.2⟩,NW (C:=(nZ d).kT) (C':=(nD d).kT) rfl rfl h0 true false 0 _ (fun x hx q hq hn=>hin q (by unfold KQ;exact List.mem_append_left _ (List.mem_flatMap.2 ⟨x,hx,hq⟩)) hn) h3,h4,h5⟩
mutual
theorem awL (C:aZ) (body note:Bool) (t:Int):∀ x:ak,lW C body note t x->KJ x
 | .mk k c i tx h f r,hx=>by
  have hf:=Rx C false true t f;have hr:=aiw C note (t+1) r;rw [lW] at hx;obtain ⟨-,-,ahh,agv⟩:=He hx.1;dsimp only [ak.kind,ak.rows,ak.flow] at ahh agv;rw [KJ];refine ⟨?_,?_⟩
  ·by_cases h6:k=6
   ·exact hf (hx.2.2.2.1 h6)
   rw [agv h6,wR];trivial
  by_cases h7:k=7
  ·exact hr (hx.2.2.2.2 h7).2
  rw [ahh h7,Ec];trivial
theorem awM (C:aZ) (note:Bool) (t:Int):∀ x:aS,qd C note t x->Fw x
 | .mk h cs,hx=>by
  have hc:=aiv C note t cs;rw [qd] at hx;rw [Fw];refine ⟨fun e=>?_,hc hx.2⟩;have z:=lu hx.1 (dz (decide ((cs.length:Int)=0)) 11) (by simp);rw [tK (by decide),e] at z
  simp at z
theorem awK (C:aZ) (note:Bool) (t:Int):∀ x:aV,qb C note t x->Fu x
 | .mk i h f,hx=>by
  have hf:=Rx C false note t f;rw [qb] at hx;rw [Fu];exact hf hx.2
theorem Rx (C:aZ) (body note:Bool) (t:Int):∀ l:List ak,iR C body note t l->wR l
 | [],_=>by rw [wR];trivial
 | x :: l,h=>by
  rw [iR] at h;rw [wR];exact ⟨awL C body note t x h.1,Rx C body note t l h.2⟩
theorem aiw (C:aZ) (note:Bool) (t:Int):∀ l:List aS,kK C note t l->Ec l
 | [],_=>by rw [Ec];trivial
 | x :: l,h=>by
  rw [kK] at h;rw [Ec];exact ⟨awM C note t x h.1,aiw C note t l h.2⟩
theorem aiv (C:aZ) (note:Bool) (t:Int):∀ l:List aV,lI C note t l->Fv l
 | [],_=>by rw [Fv];trivial
 | x :: l,h=>by
  rw [lI] at h;rw [Fv];exact ⟨awK C note t x h.1,aiv C note t l h.2⟩
end
theorem awy {d:gG} (hz:Al d):Al (nD d):=⟨Nat.le_trans (ZE _) hz.fl,hz.hd,Nat.le_trans (List.length_filter_le _ _) hz.rn,fun x hx=>hz.rt x (List.mem_filter.1 hx).1,hz.sn,hz.st⟩
theorem aww {d:gG} (hz:Al d) (h:iL d=0):wR d.flow∧bO (ku d.flow)<=1073741824∧(∀ k∈lM (nZ d),-9223372036854775808<=k∧k < 9223372036854775808)∧(lM (nZ d)).length<=4294967296:=by
 have h0:=(Rt h).1;refine ⟨Rx _ _ _ _ _ ((zJ d).1 h).2.2.1,Nat.le_trans (ZE _) hz.fl,fun q hq=>by have:=akp h0 hq;omega,?_⟩;exact Nat.le_trans (ako h0) hz.rn
section
theorem VY {k c i:Int} {tx:ByteArray} {h h':dJ} {f f':List ak} {r r':List aS} (hx:lC (.mk k c i tx h f r)=0) (hf:k≠6->f'=f) (hr:k≠7->r'=r):lC (.mk k c i tx h' f' r')=0:=by
 have e:wG (.mk k c i tx h' f' r')=wG (.mk k c i tx h f r):=by
  rw [Ce]
  simp only [wG,Bool.or_eq_true,ji,qY]
  have c1:xH (.mk k c i tx h' f' r')=xH (.mk k c i tx h f r):=rfl;have c2:xU (.mk k c i tx h' f' r')=xU (.mk k c i tx h f r):=rfl;have c3:Af (.mk k c i tx h' f' r')=Af (.mk k c i tx h f r):=rfl;rw [c1,c2,c3]
  show (((((_∧c≠0)∨(_∧i≠0))∨(_∧(!vH tx)=true))∨(k≠6∧0 < (f'.length:Int)))∨(k≠7∧0 < (r'.length:Int)))↔(((((_∧c≠0)∨(_∧i≠0))∨(_∧(!vH tx)=true))∨(k≠6∧0 < (f.length:Int)))∨(k≠7∧0 < (r.length:Int)))
  by_cases h6:k=6
  ·subst h6;rw [hr (by decide)];simp
  rw [hf h6]
  by_cases h7:k=7
  ·subst h7;simp
  rw [hr h7]
 have e2:codeOk (.mk k c i tx h' f' r')=codeOk (.mk k c i tx h f r):=rfl;have e3:Ab (.mk k c i tx h' f' r')=Ab (.mk k c i tx h f r):=rfl
 unfold lC at hx |-
 rw [e,e2,e3];exact hx
theorem Im (k c i:Int) (tx:ByteArray) (h:dJ) (f:List ak) (r:List aS):pX (.mk k c i tx h f r)=(if k=6∨k=7 then [i] else [])++(if k=6 then eH f else if k=7 then kJ r else []):=by
 rw [pX]
 by_cases h6:k=6
 ·rw [aG h6,aG h6,av (show ¬ k=7 by omega),ig]
 rw [av h6,av h6,jR]
theorem ahu:∀ a b:List aS,kJ (a++b)=kJ a++kJ b
 | [],b=>by simp [kJ]
 | x :: a,b=>by simp [kJ,ahu a b]
theorem aht:∀ a b:List aV,lV (a++b)=lV a++lV b
 | [],b=>by simp [lV]
 | x :: a,b=>by simp [lV,aht a b]
theorem akb:∀ a b:List aS,oM (a++b)=oM a+oM b
 | [],b=>by simp [oM]
 | x :: a,b=>by simp [oM,akb a b];omega
theorem ajZ:∀ a b:List aV,qj (a++b)=qj a+qj b
 | [],b=>by simp [qj]
 | x :: a,b=>by simp [qj,ajZ a b];omega
theorem R5 {C:aZ} {h:dJ} {n:Nat}:Ei C h n=0↔iD C 9 h=0∧n≠0∧n<=32:=by
 constructor
 ·intro h;have z:=lu h;have z2:=z (dz (decide ((n:Int)=0)) 11) (by simp);have z3:=z (dz (decide (32 < (n:Int))) 9) (by simp);rw [tK (by decide),vE] at z2 z3;exact ⟨z _ eT,by omega,by omega⟩
 rintro ⟨h1,h2,h3⟩;refine EP fun x hx=>?_
 simp only [fV,List.not_mem_nil,or_false] at hx
 rcases hx with rfl|rfl|rfl
 ·exact h1
 ·rw [tK (by decide),vE];omega
 rw [tK (by decide),vE];omega
variable {acc rej:Int->Bool}
mutual
theorem ayt (C:aZ) (body note:Bool) (t:Int):∀ x:ak,lW C body note t x->iR C body note t (mU acc rej x)∧(eH (mU acc rej x)).Sublist (pX x)∧jZ (mU acc rej x)<=uI x
 | .mk k c i tx h f r,hx=>by
  have hf:=NU C false true t f;have hr:=aiY C note (t+1) r;rw [lW] at hx;obtain ⟨h1,h2,h3,h4,h5⟩:=hx;have hd:=PN acc rej h3;have nil:iR C body note t []∧(eH []).Sublist (pX (.mk k c i tx h f r))∧jZ []<=uI (.mk k c i tx h f r):=⟨by rw [iR];trivial,by rw [eH];exact List.nil_sublist _,by rw [jZ];exact kE _⟩;have one:∀ y:ak,lW C body note t y->(pX y).Sublist (pX (.mk k c i tx h f r))->uI y<=uI (.mk k c i tx h f r)->iR C body note t [y]∧(eH [y]).Sublist (pX (.mk k c i tx h f r))∧jZ [y]<=uI (.mk k c i tx h f r):=fun y a b c=>⟨by rw [iR,iR];exact ⟨a,aB⟩,by rw [eH,eH,ig];exact b,by rw [jZ,jZ];exact c⟩;rw [mU]
  split
  ·exact nil
  split
  ·rename_i h6
   obtain ⟨a1,a2,a3⟩:=hf (h4 h6);refine one _ ?_ ?_ ?_
   ·rw [lW];exact ⟨VY h1 (fun h=>absurd h6 h) fun _=>rfl,h2,hd,fun _=>a1,fun h=>absurd h (by omega)⟩
   ·rw [Im,Im];rw [aG h6,aG h6];exact (jE _).append a2
   rw [uI,uI,aG h6,aG h6];omega
  split
  ·rename_i h6 h7
   split
   ·exact nil
   rename_i hn
   obtain ⟨h5,h8⟩:=h5 h7;obtain ⟨a1,a2,a3⟩:=hr h8;have hl:=YD (acc:=acc) (rej:=rej) r;refine one _ ?_ ?_ ?_
   ·rw [lW];exact ⟨VY h1 (fun _=>rfl) fun h=>absurd h7 h,h2,hd,fun h=>absurd h h6,fun _=>⟨⟨hn,by omega⟩,a1⟩⟩
   ·rw [Im,Im];rw [av h6,av h6,aG h7,aG h7];exact (jE _).append a2
   rw [uI,uI,av h6,av h6,aG h7,aG h7];omega
  rename_i h6 h7
  refine one _ ?_ ?_ ?_
  ·rw [lW];exact ⟨VY h1 (fun _=>rfl) fun _=>rfl,h2,hd,fun h=>absurd h h6,fun h=>absurd h h7⟩
  ·rw [Im,Im];exact jE _
  rw [uI,uI];exact eu _
theorem ayu (C:aZ) (note:Bool) (t:Int):∀ x:aS,qd C note t x->kK C note t (oL acc rej x)∧(kJ (oL acc rej x)).Sublist (rZ x)∧oM (oL acc rej x)<=uR x
 | .mk h cs,hx=>by
  have hc:=aiX C note t cs;rw [qd] at hx;obtain ⟨h1,h2⟩:=hx;obtain ⟨a1,a2,a3⟩:=hc h2;have hl:=YA (acc:=acc) (rej:=rej) cs;have nil:kK C note t []∧(kJ []).Sublist (rZ (.mk h cs))∧oM []<=uR (.mk h cs):=⟨by rw [kK];trivial,by rw [kJ];exact List.nil_sublist _,by rw [oM];exact kE _⟩;rw [oL]
  split
  ·exact nil
  split
  ·exact nil
  rename_i hn
  rw [kK,kK,kJ,kJ,oM,oM,qd,rZ,rZ,uR,uR,ig];refine ⟨⟨⟨?_,a1⟩,aB⟩,a2,a3⟩;obtain ⟨z1,z2,z3⟩:=R5.1 h1;exact R5.2 ⟨PN acc rej z1,hn,by omega⟩
theorem ays (C:aZ) (note:Bool) (t:Int):∀ x:aV,qb C note t x->lI C note t (oV acc rej x)∧(lV (oV acc rej x)).Sublist (tq x)∧qj (oV acc rej x)<=uC x
 | .mk i h f,hx=>by
  have hf:=NU C false note t f;rw [qb] at hx;obtain ⟨h1,h2⟩:=hx;obtain ⟨a1,a2,a3⟩:=hf h2;rw [oV]
  split
  ·exact ⟨by rw [lI];trivial,by rw [lV];exact List.nil_sublist _,by rw [qj];exact kE _⟩
  rw [lI,lI,lV,lV,qj,qj,qb,tq,tq,uC,uC,ig];exact ⟨⟨⟨PN acc rej h1,a1⟩,aB⟩,(jE [i]).append a2,a3⟩
theorem NU (C:aZ) (body note:Bool) (t:Int):∀ l:List ak,iR C body note t l->iR C body note t (dS acc rej l)∧(eH (dS acc rej l)).Sublist (eH l)∧jZ (dS acc rej l)<=jZ l
 | [],_=>by rw [dS];exact ⟨by rw [iR];trivial,jE _,eu _⟩
 | x :: l,h=>by
  rw [iR] at h;obtain ⟨a1,a2,a3⟩:=ayt C body note t x h.1;obtain ⟨b1,b2,b3⟩:=NU C body note t l h.2;rw [dS,NI,Od,eH,jZ];exact ⟨Ee.2 fun y hy=>(jA.1 hy).elim (Ee.1 a1 y) (Ee.1 b1 y),a2.append b2,by omega⟩
theorem aiY (C:aZ) (note:Bool) (t:Int):∀ l:List aS,kK C note t l->kK C note t (gN acc rej l)∧(kJ (gN acc rej l)).Sublist (kJ l)∧oM (gN acc rej l)<=oM l
 | [],_=>by rw [gN];exact ⟨by rw [kK];trivial,jE _,eu _⟩
 | x :: l,h=>by
  rw [kK] at h;obtain ⟨a1,a2,a3⟩:=ayu C note t x h.1;obtain ⟨b1,b2,b3⟩:=aiY C note t l h.2;rw [gN,ahu,akb,kJ,oM];exact ⟨RD.2 fun y hy=>(jA.1 hy).elim (RD.1 a1 y) (RD.1 b1 y),a2.append b2,by omega⟩
theorem aiX (C:aZ) (note:Bool) (t:Int):∀ l:List aV,lI C note t l->lI C note t (gD acc rej l)∧(lV (gD acc rej l)).Sublist (lV l)∧qj (gD acc rej l)<=qj l
 | [],_=>by rw [gD];exact ⟨by rw [lI];trivial,jE _,eu _⟩
 | x :: l,h=>by
  rw [lI] at h;obtain ⟨a1,a2,a3⟩:=ays C note t x h.1;obtain ⟨b1,b2,b3⟩:=aiX C note t l h.2;rw [gD,aht,ajZ,lV,qj];exact ⟨RA.2 fun y hy=>(jA.1 hy).elim (RA.1 a1 y) (RA.1 b1 y),a2.append b2,by omega⟩
end
def kL (acc rej:Int->Bool) (d:gG):gG:=⟨dS acc rej d.flow,eU acc rej d.fin,d.revs,d.kY⟩
theorem R7 {d:gG} (h:iL d=0):iL (kL acc rej d)=0:=by
 rw [zJ] at h |-;obtain ⟨h1,⟨h2,h3⟩,h4,h5,h6⟩:=h;obtain ⟨a1,a2,a3⟩:=NU (acc:=acc) (rej:=rej) _ true false 0 d.flow h4
 unfold uW at h3
 rw [vE] at h3;have hd:d.fin.marks.bE=[]:=List.eq_nil_of_length_eq_zero (by omega)
 have hg:¬ lS acc rej d.fin:=fun h=>h.elim (fun h=>h3 (.inl (.inl h.1))) fun ⟨x,hx,_⟩=>by rw [hd] at hx;cases hx
 have ha:eU acc rej d.fin=iE acc rej d.fin:=av hg;refine ⟨h1,⟨?_,?_⟩,a1,h5.sub a2,by show jZ (dS acc rej d.flow)<=_;omega⟩
 ·show iD d.kT 3 (eU acc rej d.fin)=0
  rw [ha];exact PN acc rej h2
 show uW (eU acc rej d.fin).marks=false
 rw [ha]
 unfold uW iE
 rw [vE];dsimp only;rw [hd];rintro ((h|h)|h)
 ·split at h
  ·exact h rfl
  exact h3 (.inl (.inl h))
 ·split at h
  ·exact h rfl
  exact h3 (.inl (.inr h))
 simp at h
structure yw (n:Nat) (d:gG):Prop where
 z:Al d
 fl:bO d.flow<=n
 hd:mK d.fin<=n
theorem awx {n:Nat} {d:gG} (h:yw n d):yw n (nD d):=⟨awy h.z,Nat.le_trans (ZE _) h.fl,h.hd⟩
theorem ajf {n:Nat} {d:gG} (h:yw n d) (hn:2*n<=1073741824) (hn0:16<=n):yw (2*n) (kL acc rej d):=by
 have h1:=Sd (acc:=acc) (rej:=rej) d.flow
 have h2:mK (eU acc rej d.fin)<=2*n:=by
  unfold eU
  split
  ·show mK BL<=_
   simp [FM,BL,dU];try omega
  have:=PS (acc:=acc) (rej:=rej) d.fin;have:=h.hd;omega
 have h3:=h.fl;refine ⟨⟨by show bO (dS acc rej d.flow)<=_;omega,Nat.le_trans h2 (by omega),h.z.rn,h.z.rt,h.z.sn,h.z.st⟩,by show bO (dS acc rej d.flow)<=_;omega,h2⟩
end
theorem VF:aQ 96:=aR func96 rfl
theorem Co:dH prog 43 0 0:=⟨by kernel_rfl⟩
theorem VA:aQ 76:=aR func76 rfl
theorem EN:dH prog 43 1 1:=⟨by kernel_rfl⟩
theorem aqG:aQ 97:=aR func97 rfl
theorem aqo:aQ 46:=aR func46 rfl
theorem aqH:aQ 99:=aR func99 rfl
theorem aqp:aQ 48:=aR func48 rfl
theorem aov:aQ 118:=aR func118 rfl
theorem sH.Rq {acc rej:Int->Bool} {h:dJ} {G:GH} {p d l:ah} (hh:jy G (eU acc rej h) p d l):sH acc rej h (.tuple #[.agg #[p,vi (eU acc rej h).marks.ins,vi (eU acc rej h).marks.move,d,l],.bool (!decide (lS acc rej h))]) G:=by
 unfold sH
 by_cases hg:lS acc rej h
 ·have e:eU acc rej h=BL:=aG hg;rw [aG hg,nT hg];rw [e] at hh |-;exact ⟨p,d,l,rfl,hh⟩
 have e:eU acc rej h=iE acc rej h:=av hg;rw [av hg,qN hg];rw [e] at hh |-;exact ⟨p,d,l,rfl,hh⟩
theorem aA3 (G:GH):Dl (.func (.func 97) #[] #[]) G (fun _=>false) fun _=>true:=by
 intro G1 w0 hm hG r;refine jJ (caps:=[]) aqG ?_;refine eN [(0,_)] func97 rfl ntmps97 rfl rfl hG ?_;intro a H;refine kP H (SR fun _ K1=>Ra rfl (aj K1 rfl (SR fun _ K2=>Ra rfl (aj K2 rfl ?_))));clear H K1 K2;intro a H;refine eO ?_;refine (jU H results97 (.cons (fu H rfl) (.cons (fu H rfl) .nil)) ?_).1;exact wz
theorem ayP (G:GH):Dj (.func (.func 46) #[] #[]) G (fun _=>false) fun _=>true:=by
 intro G1 w0 hm hG h p d l hh hz;refine jJ (caps:=[]) aqo ?_;obtain ⟨pA,pn,pc,rfl⟩:=hh.props.form;obtain ⟨dA,dn,dc,rfl⟩:=hh.bE.form;obtain ⟨lA,ln,lc,rfl⟩:=hh.layers.form;refine eN [(0,_)] func46 rfl ntmps46 rfl rfl hG ?_;intro a H;refine cO (fun _ K1=>?_);refine dW (cs:=[_,_,_,_,_]) H wn rfl rfl rfl ?_;clear H;intro b1 a w hb1 H;refine dO fH H wn rfl ?_;clear H;intro b2 a w hb2 H;refine kH H (aj K1 rfl (SR fun _ K2=>?_));clear H K1;intro a H;refine bP fH (cs:=[_,_,_,_,_]) H wn rfl rfl (H.hp.dx 1 rfl rfl) rfl ?_;clear H;intro a H;refine s_call VF H wn rfl (Yb _ _ H.ro _ _ _ (aA3 _) rfl h _ _ _ hh hz) rfl ?_;clear H;rintro v5 G5 a w hd5 E5 H;obtain ⟨q1,q2,q3,q4,q5,q6,q7,q8,q9,rfl,ug⟩:=hd5.ans;(iterate 2 refine mg H wn rfl rfl rfl ?_;clear H;intro a H);refine bC fH 0 (vs:=[_,_,_,_,_]) H wn rfl ?_;clear H;intro w H;refine kH H (aj K2 rfl ?_);clear H K2;intro a H;refine eO ?_;refine (jU H results46 (.cons (ny fH (cs:=[_,_,_,_,_]) H rfl rfl (H.hp.dx 0 rfl rfl)) (.cons (fu H rfl) .nil)) ?_).1;exact H.rt (sH.Rq ug)
theorem aA2 (G:GH):Dl (.func (.func 99) #[] #[]) G (fun _=>true) fun _=>false:=by
 intro G1 w0 hm hG r;refine jJ (caps:=[]) aqH ?_;refine eN [(0,_)] func99 rfl ntmps99 rfl rfl hG ?_;intro a H;refine kP H (SR fun _ K1=>Ra rfl (aj K1 rfl (SR fun _ K2=>Ra rfl (aj K2 rfl ?_))));clear H K1 K2;intro a H;refine eO ?_;refine (jU H results99 (.cons (fu H rfl) (.cons (fu H rfl) .nil)) ?_).1;exact wz
theorem ayO (G:GH):Dj (.func (.func 48) #[] #[]) G (fun _=>true) fun _=>false:=by
 intro G1 w0 hm hG h p d l hh hz;refine jJ (caps:=[]) aqp ?_;obtain ⟨pA,pn,pc,rfl⟩:=hh.props.form;obtain ⟨dA,dn,dc,rfl⟩:=hh.bE.form;obtain ⟨lA,ln,lc,rfl⟩:=hh.layers.form;refine eN [(0,_)] func48 rfl ntmps48 rfl rfl hG ?_;intro a H;refine cO (fun _ K1=>?_);refine dW (cs:=[_,_,_,_,_]) H wn rfl rfl rfl ?_;clear H;intro b1 a w hb1 H;refine dO fH H wn rfl ?_;clear H;intro b2 a w hb2 H;refine kH H (aj K1 rfl (SR fun _ K2=>?_));clear H K1;intro a H;refine bP fH (cs:=[_,_,_,_,_]) H wn rfl rfl (H.hp.dx 1 rfl rfl) rfl ?_;clear H;intro a H;refine s_call VF H wn rfl (Yb _ _ H.ro _ _ _ (aA2 _) rfl h _ _ _ hh hz) rfl ?_;clear H;rintro v5 G5 a w hd5 E5 H;obtain ⟨q1,q2,q3,q4,q5,q6,q7,q8,q9,rfl,ug⟩:=hd5.ans;(iterate 2 refine mg H wn rfl rfl rfl ?_;clear H;intro a H);refine bC fH 0 (vs:=[_,_,_,_,_]) H wn rfl ?_;clear H;intro w H;refine kH H (aj K2 rfl ?_);clear H K2;intro a H;refine eO ?_;refine (jU H results48 (.cons (ny fH (cs:=[_,_,_,_,_]) H rfl rfl (H.hp.dx 0 rfl rfl)) (.cons (fu H rfl) .nil)) ?_).1;exact H.rt (sH.Rq ug)
abbrev lsB (l:List Int):Int->Bool:=fun k=>oI l k
theorem aA1 {G:GH} {b:Nat} {A R:List Int} {va vr:ah} (ha:aH G b 0=some va) (hr:aH G b 1=some vr) (hva:au G (.sl 1 (A.map fun k=>[li k])) va) (nX:au G (.sl 1 (R.map fun k=>[li k])) vr) (hla:A.length<=4294967296) (hlr:R.length<=4294967296) :
  Dl (.func (.func 118) #[] #[(aJ b 0)]) G (lsB A) (lsB R):=by
 intro G1 w0 hm hG r;refine jJ (caps:=[(aJ b 0)]) aov ?_;replace ha:=aF hm ha;replace hr:=aF hm hr;replace hva:=hva.mono hm;replace nX:=nX.mono hm;refine eN [(0,_),(1,_)] func118 rfl ntmps118 rfl rfl hG ?_;intro a H;refine kP H (SR fun _ K1=>Ra rfl (aj K1 rfl (SQ fun _ K2=>?_)));clear H K1;intro a H;refine dI hmx [[],[0],[],[0,1,2],[],[4],[],ra 0 7,ra 0 8,ra 0 9] [8,9] (by kernel_rfl) [_,_,_,.bool (lsB A r),_,_,_,.bool (lsB R r)] H (ay (Z0 rfl (Rf Co rfl)) (X1 0 5 rfl fun hG=>Rg oq rfl (aF hG ha)) (Z0 rfl (Rm rfl)) ?_ (ay (Z0 rfl (Rf EN rfl)) (X1 4 9 rfl fun hG=>Rg oq rfl (aF hG hr)) (Z0 rfl (Rm rfl)) ?_ (bF (bR rfl) (bF (bR rfl) cK)))) ?_
 ·refine dY 1 6 2 7 rfl rfl fun _ a w G1 hG HT H fin=>?_;refine s_call VA H wn rfl (Yc _ _ H.ro A r _ (hva.mono hG) hla) rfl ?_;clear H;rintro v8 G8 a w rfl rW H;exact fin H rW (rfl)
 ·refine dY 5 10 6 11 rfl rfl fun _ a w G1 hG HT H fin=>?_;refine s_call VA H wn rfl (Yc _ _ H.ro R r _ (nX.mono hG) hlr) rfl ?_;clear H;rintro v12 BM a w rfl oH H;exact fin H oH (rfl)
 clear H;intro a w G nJ H hv;have H:=H.aM (hv 3 8 rfl rfl) rfl;have H:=H.aM (hv 7 12 rfl rfl) rfl;clear hv;refine kH H (Ra rfl (Ra rfl ?_));clear H;intro a H;refine aD ⟨rfl,?_⟩;refine K2 _ _ ?_;clear K2;refine eO ?_;refine (jU H results118 (.cons (fu H rfl) (.cons (fu H rfl) .nil)) ?_).1;exact wz
theorem awm (G:GH) (w0:World) (hG:Hold G w0) (A R:List Int) (aA rA:Option Addr) (an ac rn rc:Nat) (hva:au G (.sl 1 (A.map fun k=>[li k])) (.slice aA an ac)) (nX:au G (.sl 1 (R.map fun k=>[li k])) (.slice rA rn rc)) (hla:A.length<=4294967296) (hlr:R.length<=4294967296) (h:dJ) (p d l:ah) (hh:jy G h p d l) (hz:mK h<=1073741824) :
  Calls prog 65 #[rX h p d l,.agg #[.slice aA an ac,.slice rA rn rc]] w0 (bK w0 G (sH (lsB A) (lsB R) h)):=by
 obtain ⟨pA,pn,pc,rfl⟩:=hh.props.form;obtain ⟨dA,dn,dc,rfl⟩:=hh.bE.form;obtain ⟨lA,ln,lc,rfl⟩:=hh.layers.form;refine eN [(0,_),(1,_)] func65 rfl ntmps65 rfl rfl hG ?_;intro a H;refine cO (fun _ K1=>?_);refine dW (cs:=[_,_,_,_,_]) H wn rfl rfl rfl ?_;clear H;intro b2 a w hb2 H;refine dW (cs:=[_,_]) H wn rfl rfl rfl ?_;clear H;intro b3 a w hb3 H;refine dO fH H wn rfl ?_;clear H;intro b4 a w hb4 H;refine kH H (aj K1 rfl (SQ fun _ K2=>?_));clear H K1;intro a H;have H:=H.eD (Pl:=[_,_,_]) (dN:=[_,_,_]) [1,0,2] (by decide) rfl;obtain ⟨Ga,hma,hb',H⟩:=H.fB;have hga:=fun j v hj=>pR hb' 0 [.slice aA an ac,.slice rA rn rc] rfl j v hj;refine nH ?_;refine bP fH (cs:=[_,_,_,_,_]) H wn rfl rfl (H.hp.dx 1 rfl rfl) rfl ?_;clear H;intro a H;refine rM H wn rfl rfl ?_;clear H;intro a H;refine s_call VF H wn rfl (Yb _ _ H.ro _ _ _ (aA1 (hga 0 _ rfl) (hga 1 _ rfl) (hva.mono hma) (nX.mono hma) hla hlr) rfl h _ _ _ (hh.mono hma) hz) rfl ?_;clear H;rintro v8 G8 a w hd8 rH H;obtain ⟨q1,q2,q3,q4,q5,q6,q7,q8,q9,rfl,Ka⟩:=hd8.ans;(iterate 2 refine mg H wn rfl rfl rfl ?_;clear H;intro a H);refine bC fH 0 (vs:=[_,_,_,_,_]) H wn rfl ?_;clear H;intro w H;refine kH H (aX K2 rfl ?_);clear H K2;intro a H;refine eO ?_;refine (jU H results65 (.cons (ny fH (cs:=[_,_,_,_,_]) H rfl rfl (H.hp.dx 0 rfl rfl)) (.cons (fu H rfl) .nil)) ?_).1;exact H.rt (sH.Rq Ka)
theorem aoG:aQ 135:=aR func135 rfl
theorem Zo:prog.underlying 134=some (.slice 41):=by kernel_rfl
theorem aqA:aQ 74:=aR func74 rfl
theorem aqB:aQ 75:=aR func75 rfl
theorem avy (G:GH) (w0:World) (hG:Hold G w0) (l:List Int) (p:Int->Bool) (v fv:ah) (hv:au G (.sl 1 (l.map fun k=>[li k])) v) (hf:Ak fv G p) (hl:l.length<=4294967296) :
  Calls prog 135 #[v,fv] w0 (bK w0 G fun u G'=>u=vi (nY (l.findIdx? p))):=by
 obtain ⟨A,c,rfl,hc1,hc2,-⟩:=hv.slice;rw [bQ] at *;refine eN [(0,_),(1,_)] func135 rfl ntmps135 rfl rfl hG ?_;intro a H;refine kP H (SR fun _ K1=>aj K1 rfl (SQ fun _ K2=>SR fun _ K3=>Rm rfl (Rl iG rfl (Rm rfl (Kz K3 (SB ?_))))));clear H K1 K3;intro a H;skip;refine eX (ι:=Nat × GH) (Tc:=[(0,_),(1,_),(7,_)]) (Lc:=[]) (fun gh=>[(8,vi gh.1)]) (fun gh=>[]) (fun gh=>gh.2) (fun gh=>gh.1<=l.length∧(l.take gh.1).findIdx? p=none∧(∀ b o,G b=some o->gh.2 b=some o)) (fun gh=>l.length - gh.1) ((0,G)) (by exact H.sub ⟨rfl,rfl,rfl,rfl,aB⟩) ?_ ?_
 ·exact Aq
 clear H;rintro ⟨k,g⟩ a w hI H;dsimp only at hI H;obtain ⟨hk,hno,hgm⟩:=hI;dsimp only [lca,bJ] at H;refine kP H (SR fun _ K4=>Rc rfl (Kz K4 (SQ fun _ K5=>Cd rfl ?_ ?_))) <;> clear H K4
 ·intro h9 a H
  try have p9:=dT h9
  have hk2:k < l.length:=by omega
  obtain ⟨b,o,rfl,hrow⟩:=zV (f:=fun q=>q) hv hk2
  replace hrow:aH g b (o+k*1)=some (vi l[k]):=by rw [Nat.mul_one];exact aF hgm hrow
  refine kP H (Kc K5 (SQ fun _ K6=>SB (SR fun _ K7=>Rm rfl (aj K7 rfl (SR fun _ K8=>Rm rfl (Rm rfl (Rm rfl (Ri iG aC rfl rfl (Rg aC rfl hrow ?_)))))))));clear H K5 K7;intro a H;refine kX H wn rfl rfl (hf _ _ hgm H.ro l[k]) rfl ?_;clear H;rintro v16 uD a w rfl uh H;refine K8 _ _ ?_;clear K8;refine jS H rfl ?_ ?_
  ·intro h16
   try have p16:=dT h16
   refine kP H (SR fun _ K9=>Rm rfl (aj K9 rfl ?_));clear H K9;intro a H;refine lr H results135 rfl ?_
   exact xE
  intro h16
  try have p16:=dF h16
  refine kP H (Kc K6 (SC (Rd rfl (Rm rfl ?_))));clear H K6;intro a H;refine aD ?_;refine dG ((k+1,uD)) (by exact H.sub ⟨rfl,rfl,rfl,rfl,aB⟩) ?_
  (try dsimp only);exact Ua
 intro h9 a H
 try have p9:=dF h9
 refine dP ?_;refine K2 _ _ ?_;clear K2;refine kP H (SR fun _ aW=>aj aW rfl ?_);clear H aW;intro a H;refine lr H results135 rfl ?_
 exact xE
theorem anM (G:GH) (w0:World) (hG:Hold G w0) (l:List Int) (p:Int->Bool) (v fv:ah) (hv:au G (.sl 1 (l.map fun k=>[li k])) v) (hf:Ak fv G p) (hl:l.length<=4294967296) :
  Calls prog 74 #[v,fv] w0 (bK w0 G fun u G'=>u=.bool (l.findIdx? p).isSome):=by
 refine eN [(0,_),(1,_)] func74 rfl ntmps74 rfl rfl hG ?_;intro a H;refine kP H (SR fun _ K1=>aj K1 rfl (SR fun _ K2=>Rm rfl (Rm rfl ?_)));clear H K1;intro a H;refine s_call aoG H wn rfl (avy _ _ H.ro l p _ _ hv hf hl) rfl ?_;clear H;rintro v7 G7 a w rfl vQ H;refine kH H (Rc rfl (aj K2 rfl ?_));clear H K2;intro a H;refine lr H results74 rfl ?_
 exact H.rt (by cases h:l.findIdx? p <;> simp [nY])
theorem amC {G:GH} {b:Nat} {R:List Int} {vr:ah} (hr:aH G b 1=some vr) (nX:au G (.sl 1 (R.map fun k=>[li k])) vr) (hlr:R.length<=4294967296) :
  Ak (.func (.func 75) #[] #[(aJ b 0)]) G (lsB R):=by
 intro G1 w0 hm hG r;refine jJ (caps:=[(aJ b 0)]) aqB ?_;replace hr:=aF hm hr;replace nX:=nX.mono hm;refine eN [(0,_),(1,_)] func75 rfl ntmps75 rfl rfl hG ?_;intro a H;refine kP H (SR fun _ K1=>aj K1 rfl (SR fun _ K2=>Rf EN rfl (Rg oq rfl hr (Rm rfl ?_))));clear H K1;intro a H;refine s_call VA H wn rfl (Yc _ _ H.ro R r _ nX hlr) rfl ?_;clear H;rintro v7 G7 a w rfl vQ H;exact kH H (aj K2 rfl (LR results75 rfl fun H=>H.rt rfl))
def rC (l:List Int) (i:Nat):Int:=match l[i]? with
 | some n=>if n < 1∨1073741824 < n then 22 else if 0 < i∧n=l.getD (i - 1) 0 then 7 else if 0 < i∧n < l.getD (i - 1) 0 then 6 else 0
 | none=>0
def Dt (A R:List Int):Int:=dL [iU (rC A) A.length,iU (rC R) R.length,dz (A.findIdx? (lsB R)).isSome 23]
theorem Vm {l:List Int} {k:Nat} (h:k < l.length):rC l k=if l[k] < 1∨1073741824 < l[k] then 22 else if 0 < k∧l[k]=l.getD (k - 1) 0 then 7 else if 0 < k∧l[k] < l.getD (k - 1) 0 then 6 else 0:=by
 unfold rC;rw [dV h]
theorem amB {A R l:List Int} {o k:Nat} {e:Int} (hx:(o=0∧l=A)∨(o=1∧l=R)) (hA:0 < o->iU (rC A) A.length=0) (hk:k < l.length) (he:dL (((List.range l.length).map (rC l)).drop k)=iU (rC l) l.length) (h:rC l k=e) (hn:e≠0):vi e=vi (Dt A R):=by
 rw [Gm hk,aG (by rw [h];exact hn),h] at he
 rcases hx with ⟨-,rfl⟩|⟨rfl,rfl⟩
 ·unfold Dt;rw [<- he,dL,aG hn]
 unfold Dt;rw [hA (by decide),<- he,dL,av (by decide),dL,aG hn]
theorem amA {l:List Int} {k:Nat} (hk:k < l.length) (he:dL (((List.range l.length).map (rC l)).drop k)=iU (rC l) l.length) (h:rC l k=0):dL (((List.range l.length).map (rC l)).drop (k+1))=iU (rC l) l.length:=by
 rw [<- he,Gm hk,av (by rw [h];decide)]
theorem ads {l:List Int} {k:Nat} (hk:l.length<=k) (he:dL (((List.range l.length).map (rC l)).drop k)=iU (rC l) l.length):iU (rC l) l.length=0:=by
 rw [<- he,pJ (by simpa using hk)];rfl
theorem abd {p:Prop} (h:p:=by
 first
  | exact H.rt (amB hx Xl hk2 he (by rw [Vm hk2];(repeat' split) <;> first|rfl|(exfalso;simp_all;done)|(exfalso;simp_all;omega)) (by decide))
  | exact H.rt (by unfold Dt;rw [Xl (by omega),hoR (by omega),dL,av (by decide),dL,av (by decide),kG];rfl)):p:=h
theorem Uk {p:Prop} (h:p:=by
 exact ⟨by omega,amA hk2 he (by rw [Vm hk2];(repeat' split) <;> first|rfl|(exfalso;simp_all;done)|(exfalso;simp_all;omega))⟩):p:=h
theorem acv {p:Prop} (h:p:=by
 intro a H;refine aD ?_;refine dG (k+1) (by exact H.sub ⟨rfl,rfl,rfl,rfl,rfl,rfl,rfl,rfl,aB⟩) ?_
 exact Uk):p:=h
theorem JF {p:Prop} (h:p:=by
 intro a H;refine lr H results23 rfl ?_
 exact abd):p:=h
set_option maxHeartbeats 2000000 in
theorem ane (G:GH) (w0:World) (hG:Hold G w0) (A R:List Int) (va vr:ah) (hva:au G (.sl 1 (A.map fun k=>[li k])) va) (nX:au G (.sl 1 (R.map fun k=>[li k])) vr) (hla:A.length<=4294967296) (hlr:R.length<=4294967296) :
  Calls prog 23 #[.agg #[va,vr]] w0 (bK w0 G fun u G'=>u=vi (Dt A R)):=by
 obtain ⟨aA,ac,rfl,ha1,ha2,-⟩:=hva.slice;obtain ⟨rA,rc,rfl,hr1,hr2,-⟩:=nX.slice
 simp only [bQ] at *
 refine eN [(0,_)] func23 rfl ntmps23 rfl rfl hG ?_;intro a H;refine cO (fun _ K1=>?_);refine dW (cs:=[_,_]) H wn rfl rfl rfl ?_;clear H;intro b1 a w hb1 H;refine kH H (aj K1 rfl (SQ fun _ K2=>SQ fun _ K3=>?_));clear H K1;intro a H;obtain ⟨Ga,hma,hb',H⟩:=H.fB;have hga:=fun j v hj=>pR hb' 0 [.slice aA A.length ac,.slice rA R.length rc] rfl j v hj;replace hva:=hva.mono hma;replace nX:=nX.mono hma;refine kP H (SC (Rf Co rfl (Rg oq rfl (aF (by first|assumption|exact fun _ _ h=>h) (hga 0 _ rfl)) ?_)));clear H;intro a H;refine kH H (Rf EN rfl (Rg oq rfl (hga 1 _ rfl) ?_));clear H;intro a H;refine iT Zo oq [_,_] [_,_] H wn rfl rfl rfl rfl rfl (by intro i q h;match i,h with|0,h=>exact h|1,h=>exact h|n+2,h=>simp at h) rfl rfl ?_;clear H;intro b11 a w J6 H;obtain ⟨Gb,hmb,Cr,H⟩:=H.fB;have hgb:=fun j v hj=>pR Cr 0 [.slice aA A.length ac,.slice rA R.length rc] rfl j v hj;replace hva:=hva.mono hmb;replace nX:=nX.mono hmb;refine kH H (Rl Zo rfl (Rm rfl (Kn K3 (SB ?_))));clear H K3;intro a H;skip;refine eX (ι:=Nat) (Tc:=[(1,_),(11,_),(12,_)]) (Lc:=[]) (fun gh=>[(13,vi gh)]) (fun gh=>[]) (fun gh=>Gb) (fun gh=>gh<=2∧(0 < gh->iU (rC A) A.length=0)∧(1 < gh->iU (rC R) R.length=0)) (fun gh=>2 - gh) (0) (by exact H.sub ⟨rfl,rfl,rfl,rfl,aB⟩) ?_ ?_
 ·exact ⟨by omega,fun h=>absurd h (by decide),fun h=>absurd h (by decide)⟩
 clear H;intro o a w hI H;obtain ⟨ho,Xl,hoR⟩:=hI;dsimp only [lca,bJ] at H;refine kP H (SR fun _ K4=>Rc rfl (Kz K4 (SQ fun _ K5=>Cd rfl ?_ ?_))) <;> clear H K4
 ·intro iV a H
  try have uo:=dT iV
  have ho2:o < 2:=by omega
  obtain ⟨l,lA,lc,hx,hgl,hvl,hll,hl2⟩:∃ (l:List Int) (lA:Option Addr) (lc:Nat),((o=0∧l=A)∨(o=1∧l=R))∧aH Gb b11 (0+o*1)=some (.slice lA l.length lc)∧au Gb (.sl 1 (l.map fun k=>[li k])) (.slice lA l.length lc)∧l.length<=lc∧l.length<=4294967296:=by
   match o,ho2 with
   | 0,_=>exact ⟨A,aA,ac,.inl ⟨rfl,rfl⟩,hgb 0 _ rfl,hva,by omega,hla⟩
   | 1,_=>exact ⟨R,rA,rc,.inr ⟨rfl,rfl⟩,hgb 1 _ rfl,nX,by omega,hlr⟩
  refine kP H (Kc K5 (SQ fun _ K6=>SB (SR fun _ K7=>Ri Zo oq rfl rfl (Rg oq rfl hgl (aj K7 rfl (SR fun _ K8=>Rm rfl (Rl iG rfl (Rm rfl (Kz K8 (SB ?_))))))))));clear H K5 K7 K8;intro a H;skip;refine eX (ι:=Nat) (Tc:=[(1,_),(4,_),(11,_),(12,_),(13,_),(17,_),(18,_)]) (Lc:=[]) (fun gh=>[(19,vi gh)]) (fun gh=>[]) (fun gh=>Gb) (fun gh=>gh<=l.length∧dL (((List.range l.length).map (rC l)).drop gh)=iU (rC l) l.length) (fun gh=>l.length - gh) (0) (by exact H.sub ⟨rfl,rfl,rfl,rfl,rfl,rfl,rfl,rfl,aB⟩) ?_ ?_
  ·exact ⟨by omega,rfl⟩
  clear H;intro k a w hI H;obtain ⟨hk,he⟩:=hI;dsimp only [lca,bJ] at H;refine kP H (SR fun _ K9=>Rc rfl (Kz K9 (SQ fun _ aW=>Cd rfl ?_ ?_))) <;> clear H K9
  ·intro h20 a H
   try have za:=dT h20
   have hk2:k < l.length:=by omega
   obtain ⟨bl,ol,rfl,hrow⟩:=zV (f:=fun q=>q) hvl hk2
   replace hrow:aH Gb bl (ol+k*1)=some (vi l[k]):=by rw [Nat.mul_one];exact hrow
   have D8:aH Gb bl (ol+(k - 1)*1)=some (vi (l.getD (k - 1) 0)):=by
    obtain ⟨b',o',e,hr'⟩:=zV (f:=fun q=>q) hvl (show k - 1 < l.length by omega)
    injection e with e
    injection e with e1 e2
    subst e1;subst e2;rw [Nat.mul_one,hr',List.getD_eq_getElem?_getD,dV];rfl
   refine kP H (Kc aW (SQ fun _ bM=>SB (SR fun _ bU=>Rm rfl (Ri iG aC rfl rfl (Rg aC rfl hrow (Ra rfl (aj bU rfl (SB (SR fun _ bY=>Rm rfl (Rc rfl (Rm rfl (Sp 27 rfl ?_ ?_)))))))))))) <;> clear H aW bU
   ·intro h27 a H
    try have p27:=dT h27
    refine kH H (aP h27 rfl (Pt h27 rfl (aj bY rfl (Ct rfl rfl (SR fun _ cZ=>aj cZ rfl ?_)))));clear H bY cZ;exact JF
   intro h27 a H
   try have p27:=dF h27
   refine kH H (YM h27 rfl (YC h27 rfl (Pf h27 rfl (aj bY rfl (Cd rfl ?_ ?_))))) <;> clear H bY
   ·intro fC a H
    try have mR:=dT fC
    refine kP H (SR fun _ dQ=>aj dQ rfl ?_);clear H dQ;exact JF
   intro fC a H
   try have mR:=dF fC
   refine kP H (SR fun _ dR=>Rm rfl (Rc rfl (Rm rfl (Sp 34 rfl ?_ ?_)))) <;> clear H
   ·intro fq a H
    try have p34:=dT fq
    refine kH H (YM fq rfl (YM fq rfl (YM fq rfl ?_)));clear H;intro a H;refine zl _ H (wg H rfl rfl fq) rfl rfl rfl (by omega) (by omega) rfl ?_;clear H;intro a H;rw [show ((k:Int) - 1)=((k - 1:Nat):Int) by omega] at H;refine kH H (YI iG aC fq rfl rfl (YR aC fq rfl D8 (YC fq rfl (Pt fq rfl (aj dR rfl (Cd rfl ?_ ?_)))))) <;> clear H dR
    ·intro h31 a H
     try have p31:=dT h31
     refine kP H (SR fun _ dK=>aj dK rfl ?_);clear H dK;exact JF
    intro h31 a H
    try have p31:=dF h31
    refine kP H (SR fun _ dX=>Rm rfl (Rc rfl (Rm rfl (Sp 46 rfl ?_ ?_)))) <;> clear H
    ·intro h46 a H
     try have p46:=dT h46
     refine kH H (YM h46 rfl (YM h46 rfl (YM h46 rfl ?_)));clear H;intro a H;refine zl _ H (wg H rfl rfl h46) rfl rfl rfl (by omega) (by omega) rfl ?_;clear H;intro a H;rw [show ((k:Int) - 1)=((k - 1:Nat):Int) by omega] at H;refine kH H (YI iG aC h46 rfl rfl (YR aC h46 rfl D8 (YC h46 rfl (Pt h46 rfl (aj dX rfl (Cd rfl ?_ ?_)))))) <;> clear H dX
     ·intro h43 a H
      try have p43:=dT h43
      refine kP H (SR fun _ fM=>aj fM rfl ?_);clear H fM;exact JF
     intro h43 a H
     try have p43:=dF h43
     refine kP H (Kc bM (SC (Rd rfl (Rm rfl ?_))));clear H bM;intro a H;refine aD ?_;refine dG (k+1) (by exact H.sub ⟨rfl,rfl,rfl,rfl,rfl,rfl,rfl,rfl,aB⟩) ?_
     exact Uk
    intro h46 a H
    try have p46:=dF h46
    refine kH H (bB h46 rfl (aP h46 rfl (aP h46 rfl (Pf h46 rfl (aj dX rfl (Cf rfl rfl (Kc bM (SC (Rd rfl (Rm rfl ?_))))))))));clear H dX bM;exact acv
   intro fq a H
   try have p34:=dF fq
   refine kH H (bB fq rfl (aP fq rfl (aP fq rfl (Pf fq rfl (aj dR rfl (Cf rfl rfl (SR fun _ eP=>Rm rfl (Rc rfl (Rm rfl (Sp 46 rfl ?_ ?_)))))))))) <;> clear H dR
   ·intro h46 a H
    try have p46:=dT h46
    refine kH H (YM h46 rfl (YM h46 rfl (YM h46 rfl ?_)));clear H;intro a H;refine zl _ H (wg H rfl rfl h46) rfl rfl rfl (by omega) (by omega) rfl ?_;clear H;intro a H;rw [show ((k:Int) - 1)=((k - 1:Nat):Int) by omega] at H;refine kH H (YI iG aC h46 rfl rfl (YR aC h46 rfl D8 (YC h46 rfl (Pt h46 rfl (aj eP rfl (Cd rfl ?_ ?_)))))) <;> clear H eP
    ·intro h43 a H
     try have p43:=dT h43
     refine kP H (SR fun _ gB=>aj gB rfl ?_);clear H gB;exact JF
    intro h43 a H
    try have p43:=dF h43
    refine kP H (Kc bM (SC (Rd rfl (Rm rfl ?_))));clear H bM;exact acv
   intro h46 a H
   try have p46:=dF h46
   refine kH H (bB h46 rfl (aP h46 rfl (aP h46 rfl (Pf h46 rfl (aj eP rfl (Cf rfl rfl (Kc bM (SC (Rd rfl (Rm rfl ?_))))))))));clear H eP bM;intro a H;refine aD ?_;refine dG (k+1) (by exact H.sub ⟨rfl,rfl,rfl,rfl,rfl,rfl,rfl,rfl,aB⟩) ?_
   exact Uk
  intro h20 a H
  try have za:=dF h20
  refine dP ?_;refine K6 _ _ ?_;clear K6;refine kP H (SC (Rd rfl (Rm rfl ?_)));clear H;intro a H;refine aD ?_;refine dG (o+1) (by exact H.sub ⟨rfl,rfl,rfl,rfl,aB⟩) ?_
  exact ⟨by omega,fun _=>by rcases hx with ⟨rfl,rfl⟩|⟨rfl,rfl⟩;exact ads (by omega) he;exact Xl (by decide),fun _=>by rcases hx with ⟨rfl,rfl⟩|⟨rfl,rfl⟩;omega;exact ads (by omega) he⟩
 intro iV a H
 try have uo:=dF iV
 refine dP ?_;refine K2 _ _ ?_;clear K2;refine kP H (SQ fun _ iH=>SR fun _ jP=>Rf Co rfl (Rg oq rfl (aF (by first|assumption|exact fun _ _ h=>h) (hga 0 _ rfl)) ?_));clear H;intro a H;refine rM H wn rfl rfl ?_;clear H;intro a H;refine s_call aqA H wn rfl (anM _ _ H.ro A _ _ _ hva (amC (aF hmb (hga 1 _ rfl)) nX hlr) hla) rfl ?_;clear H;rintro v60 G60 a w rfl aCr H;refine jP _ _ ?_;clear jP;refine jS H rfl ?_ ?_
 ·intro kG
  try have p60:=dT kG
  refine kP H (SR fun _ jH=>aj jH rfl ?_);clear H jH;exact JF
 intro kG
 try have p60:=dF kG
 refine kP H (Kc iH (SR fun _ jr=>aj jr rfl ?_));clear H iH jr;intro a H;refine lr H results23 rfl ?_
 exact abd
theorem apl:aQ 17:=aR func17 rfl
theorem Vy:aQ 47:=aR func47 rfl
theorem wW:Ty prog 43 2 48 [.slice none 0 0,.slice none 0 0] true:=⟨by kernel_rfl,by kernel_rfl⟩
theorem aqv:aQ 65:=aR func65 rfl
theorem apN:aQ 23:=aR func23 rfl
theorem aAt:qK prog 43 [(0,1),(1,1)] [.slice none 0 0,.slice none 0 0]:=⟨by kernel_rfl,by kernel_rfl⟩
theorem apM:aQ 22:=aR func22 rfl
theorem aqz:aQ 73:=aR func73 rfl
set_option maxHeartbeats 2000000 in
theorem Zv {acc rej:Int->Bool} (G:GH) (w0:World) (hG:Hold G w0) (fv:ah) (hf:Dj fv G acc rej) (D:jO) (d:gG) (hR:pz G D d) (hs:yw 536870912 d) (hc:iL d=0) :
  Calls prog 47 #[fv,D.val] w0 (bK w0 G fun u G'=>∃ D':jO,u=D'.val∧pz G' D' (nD (kL acc rej d))):=by
 obtain ⟨df,dp,dd,dy,dr,d1,d2,d3,d4,ins,mv⟩:=D;have hok:=R7 (acc:=acc) (rej:=rej) hc;have hfl:=hs.fl;have hhd:=hs.hd;have hz2:Al (kL acc rej d):=(ajf hs (by decide) (by decide)).z;obtain ⟨p1,p2,p3,p4⟩:=aww hz2 hok;obtain ⟨hRf,hRh,hRi,hRm,hRr,hRs⟩:=hR;dsimp only at hRi hRm;subst hRi hRm;refine eN [(0,_),(1,_)] func47 rfl ntmps47 rfl rfl hG ?_;intro a H;refine cO (fun _ K1=>?_);refine dW (cs:=[_,_,_,_,_,_,_,_,_,_,_]) H wn rfl rfl rfl ?_;clear H;intro b3 a w hb3 H;refine dO jf H wn rfl ?_;clear H;intro b4 a w hb4 H;refine K1 _ _ ?_;clear K1;refine kP H (SR fun _ K2=>Rm rfl (bq vJ kC 1 rfl rfl ?_));clear H;intro a H;refine s_call VG H wn rfl (ajg 536870913 (eu _) _ _ H.ro hf d.flow _ hRf (by omega)) rfl ?_;clear H;rintro v8 G8 a w hv8 rH H;obtain ⟨fA,fn,fc,rfl⟩:=hv8.form;refine kH H (Rf vJ rfl ?_);clear H;intro a H;refine bC kC 1 (vs:=[_]) H wn rfl ?_;clear H;intro w H;refine K2 _ _ ?_;clear K2;refine kP H (SR fun _ K3=>Rm rfl (Rf EL rfl ?_));clear H;intro a H;refine bP fH (cs:=[_,_,_,_,_]) H wn rfl rfl (H.hp.dx 1 rfl rfl) rfl ?_;clear H;intro a H;refine kX H wn rfl rfl (hf _ _ rH H.ro d.fin _ _ _ (hRh.mono rH) (by omega)) rfl ?_;clear H;rintro v14 Ew a w atq DY H;obtain ⟨q1,q2,q3,q4,q5,q6,q7,q8,q9,rfl,atI⟩:=atq.ans;refine kH H (Rm rfl ?_);clear H;intro a H;(iterate 2 refine mg H wn rfl rfl rfl ?_;clear H;intro a H);refine kH H (Rf EL rfl ?_);clear H;intro a H;refine bC fH 1 (vs:=[_,_,_,_,_]) H wn rfl ?_;clear H;intro w H;refine K3 _ _ ?_;clear K3;refine cO (fun _ K4=>?_);refine bP jf (cs:=(⟨(fA,fn,fc),(q1,q2,q3),(q4,q5,q6),(q7,q8,q9),dr,d1,d2,d3,d4,(eU acc rej d.fin).marks.ins,(eU acc rej d.fin).marks.move⟩:jO).cells) H wn rfl rfl (H.hp.dx 1 rfl rfl) rfl ?_;clear H;intro a H;refine s_call apl H wn rfl (aob _ _ H.ro ⟨(fA,fn,fc),(q1,q2,q3),(q4,q5,q6),(q7,q8,q9),dr,d1,d2,d3,d4,(eU acc rej d.fin).marks.ins,(eU acc rej d.fin).marks.move⟩ (kL acc rej d) ⟨hv8.mono DY,atI,rfl,rfl,hRr.mono (fun b o h=>DY b o (rH b o h)),hRs.mono fun b o h=>DY b o (rH b o h)⟩ hz2 p1 p2 p3 p4) rfl ?_;clear H;rintro v19 I8 a w ⟨E,rfl,hE⟩ uj H;refine bC jf 0 (vs:=[_,_,_,_,_,_,_,_,_,_,_]) H wn rfl ?_;clear H;intro w H;refine K4 _ _ ?_;clear K4;refine eO ?_;refine (leave1 H results47 (.cons (ny jf (cs:=[_,_,_,_,_,_,_,_,_,_,_]) H rfl rfl (H.hp.dx 0 rfl rfl)) .nil) ?_).1;exact H.rt ⟨E,rfl,hE⟩
theorem ayl (G:GH) (w0:World) (hG:Hold G w0) (D:jO) (d:gG) (hR:pz G D d) (hs:yw 536870912 d) (hc:iL d=0) :
  Calls prog 14 #[D.val] w0 (bK w0 G fun u G'=>∃ D':jO,u=D'.val∧pz G' D' (nD (kL (fun _=>false) (fun _=>true) d))):=by
 refine eN [(0,_)] func14 rfl ntmps14 rfl rfl hG ?_;intro a H;refine cO (fun _ K1=>?_);refine dW (cs:=[_,_,_,_,_,_,_,_,_,_,_]) H wn rfl rfl rfl ?_;clear H;intro b1 a w hb1 H;refine dO jf H wn rfl ?_;clear H;intro b2 a w hb2 H;refine K1 _ _ ?_;clear K1;refine cO (fun _ K2=>?_);refine bP jf (cs:=[_,_,_,_,_,_,_,_,_,_,_]) H wn rfl rfl (H.hp.dx 1 rfl rfl) rfl ?_;clear H;intro a H;refine s_call Vy H wn rfl (Zv _ _ H.ro _ (ayP _) D d hR hs hc) rfl ?_;clear H;rintro v4 G4 a w ⟨E,rfl,hE⟩ Bb H;refine bC jf 0 (vs:=[_,_,_,_,_,_,_,_,_,_,_]) H wn rfl ?_;clear H;intro w H;refine K2 _ _ ?_;clear K2;refine eO ?_;refine (leave1 H results14 (.cons (ny jf (cs:=[_,_,_,_,_,_,_,_,_,_,_]) H rfl rfl (H.hp.dx 0 rfl rfl)) .nil) ?_).1;exact H.rt ⟨E,rfl,hE⟩
theorem ayk (G:GH) (w0:World) (hG:Hold G w0) (D:jO) (d:gG) (hR:pz G D d) (hs:yw 536870912 d) (hc:iL d=0) :
  Calls prog 15 #[D.val] w0 (bK w0 G fun u G'=>∃ D':jO,u=D'.val∧pz G' D' (nD (kL (fun _=>true) (fun _=>false) d))):=by
 refine eN [(0,_)] func15 rfl ntmps15 rfl rfl hG ?_;intro a H;refine cO (fun _ K1=>?_);refine dW (cs:=[_,_,_,_,_,_,_,_,_,_,_]) H wn rfl rfl rfl ?_;clear H;intro b1 a w hb1 H;refine dO jf H wn rfl ?_;clear H;intro b2 a w hb2 H;refine K1 _ _ ?_;clear K1;refine cO (fun _ K2=>?_);refine bP jf (cs:=[_,_,_,_,_,_,_,_,_,_,_]) H wn rfl rfl (H.hp.dx 1 rfl rfl) rfl ?_;clear H;intro a H;refine s_call Vy H wn rfl (Zv _ _ H.ro _ (ayO _) D d hR hs hc) rfl ?_;clear H;rintro v4 G4 a w ⟨E,rfl,hE⟩ Bb H;refine bC jf 0 (vs:=[_,_,_,_,_,_,_,_,_,_,_]) H wn rfl ?_;clear H;intro w H;refine K2 _ _ ?_;clear K2;refine eO ?_;refine (leave1 H results15 (.cons (ny jf (cs:=[_,_,_,_,_,_,_,_,_,_,_]) H rfl rfl (H.hp.dx 0 rfl rfl)) .nil) ?_).1;exact H.rt ⟨E,rfl,hE⟩
theorem axX {G:GH} {b:Nat} {A R:List Int} {aA rA:Option Addr} {an ac rn rc:Nat} (hb:G b=some (.cells #[.slice aA an ac,.slice rA rn rc] 43 (0,0))) (hva:au G (.sl 1 (A.map fun k=>[li k])) (.slice aA an ac)) (nX:au G (.sl 1 (R.map fun k=>[li k])) (.slice rA rn rc)) (hla:A.length<=4294967296) (hlr:R.length<=4294967296) :
  Dj (.func (.func 73) #[] #[(aJ b 0)]) G (lsB A) (lsB R):=by
 intro G1 w0 hm hG h p d l hh hz;refine jJ (caps:=[(aJ b 0)]) aqz ?_;have hga:=fun j v hj=>aF hm (pR hb 0 [.slice aA an ac,.slice rA rn rc] rfl j v hj);replace hva:=hva.mono hm;replace nX:=nX.mono hm;obtain ⟨pA,pn,pc,rfl⟩:=hh.props.form;obtain ⟨dA,dn,dc,rfl⟩:=hh.bE.form;obtain ⟨lA,ln,lc,rfl⟩:=hh.layers.form;refine eN [(0,_),(1,_)] func73 rfl ntmps73 rfl rfl hG ?_;intro a H;refine cO (fun _ K1=>?_);refine dW (cs:=[_,_,_,_,_]) H wn rfl rfl rfl ?_;clear H;intro b2 a w hb2 H;refine dO fH H wn rfl ?_;clear H;intro b3 a w hb3 H;refine kH H (aj K1 rfl (SR fun _ K2=>?_));clear H K1;intro a H;refine bP fH (cs:=[_,_,_,_,_]) H wn rfl rfl (H.hp.dx 1 rfl rfl) rfl ?_;clear H;intro a H;refine bP wW (cs:=[.slice aA an ac,.slice rA rn rc]) H wn rfl rfl (fun j v hj=>H.hp.aH (hga j v hj)) rfl ?_;clear H;intro a H;refine s_call aqv H wn rfl (awm _ _ H.ro A R aA rA an ac rn rc hva nX hla hlr h _ _ _ hh hz) rfl ?_;clear H;rintro v7 G7 a w hd7 vQ H;obtain ⟨q1,q2,q3,q4,q5,q6,q7,q8,q9,rfl,A9⟩:=hd7.ans;(iterate 2 refine mg H wn rfl rfl rfl ?_;clear H;intro a H);refine bC fH 0 (vs:=[_,_,_,_,_]) H wn rfl ?_;clear H;intro w H;refine kH H (aj K2 rfl ?_);clear H K2;intro a H;refine eO ?_;refine (jU H results73 (.cons (ny fH (cs:=[_,_,_,_,_]) H rfl rfl (H.hp.dx 0 rfl rfl)) (.cons (fu H rfl) .nil)) ?_).1;exact H.rt (sH.Rq A9)
def aBx:gG:=⟨[],BL,[],⟨[],[],[],[]⟩⟩
def RS (A R:List Int) (d:gG):gG:=if Dt A R=0 then nD (kL (lsB A) (lsB R) d) else aBx
theorem abe {p:Prop} (h:p:=by
 first
  | exact H.rt ⟨E,by rw [show Dt A R=0 from by simp_all],by unfold RS;rw [aG (by simp_all)];exact hE⟩
  | exact H.rt ⟨⟨(none,0,0),(none,0,0),(none,0,0),(none,0,0),(none,0,0),(none,0,0),(none,0,0),(none,0,0),(none,0,0),0,0⟩,rfl,by unfold RS;rw [av (by simp_all)];exact ⟨au.qV rfl (by decide),akT _,rfl,rfl,au.qV rfl (by decide),au.qV rfl (by decide),au.qV rfl (by decide),au.qV rfl (by decide),au.qV rfl (by decide)⟩⟩):p:=h
theorem aym (G:GH) (w0:World) (hG:Hold G w0) (D:jO) (d:gG) (hR:pz G D d) (hs:yw 536870912 d) (hc:iL d=0) (A R:List Int) (va vr:ah) (hva:au G (.sl 1 (A.map fun k=>[li k])) va) (nX:au G (.sl 1 (R.map fun k=>[li k])) vr) (hla:A.length<=4294967296) (hlr:R.length<=4294967296) :
  Calls prog 22 #[D.val,.agg #[va,vr]] w0 (bK w0 G fun u G'=>∃ D':jO,u=.tuple #[D'.val,vi (Dt A R)]∧pz G' D' (RS A R d)):=by
 obtain ⟨aA,an,ac,rfl⟩:=hva.form;obtain ⟨rA,rn,rc,rfl⟩:=nX.form;refine eN [(0,_),(1,_)] func22 rfl ntmps22 rfl rfl hG ?_;intro a H;refine cO (fun _ K1=>?_);refine dW (cs:=[_,_,_,_,_,_,_,_,_,_,_]) H wn rfl rfl rfl ?_;clear H;intro b2 a w hb2 H;refine dW (cs:=[_,_]) H wn rfl rfl rfl ?_;clear H;intro b3 a w hb3 H;refine dO jf H wn rfl ?_;clear H;intro b4 a w hb4 H;refine kH H (aj K1 rfl (SQ fun _ K2=>SQ fun _ K3=>?_));clear H K1;intro a H;have H:=H.eD (Pl:=[_,_,_]) (dN:=[_,_,_]) [1,0,2] (by decide) rfl;obtain ⟨Ga,hma,hb',H⟩:=H.fB;have hga:=fun j v hj=>pR hb' 0 [.slice aA an ac,.slice rA rn rc] rfl j v hj;replace hva:=hva.mono hma;replace nX:=nX.mono hma;replace hR:=hR.mono hma;refine nH ?_;refine bP wW (cs:=[.slice aA an ac,.slice rA rn rc]) H wn rfl rfl (fun j v hj=>H.hp.aH (hga j v hj)) rfl ?_;clear H;intro a H;refine s_call apN H wn rfl (ane _ _ H.ro A R _ _ hva nX hla hlr) rfl ?_;clear H;rintro v8 G8 a w rfl rH H;refine kH H (aX K3 rfl (SR fun _ K4=>Rm rfl (Rc rfl (Kz K4 (Cd rfl ?_ ?_))))) <;> clear H K3 K4
 ·intro h10 a H
  try have nN:=dT h10
  refine cO (fun _ K5=>?_);refine jD Y3 [_,_,_,_,_,_,_,_,_,_,_] H wn rfl rfl rfl rfl ?_;clear H;intro a H;refine kH H (Rm rfl ?_);clear H;intro a H;refine bC jf 0 (vs:=[_,_,_,_,_,_,_,_,_,_,_]) H wn rfl ?_;clear H;intro w H;refine kH H (aj K5 rfl ?_);clear H K5;intro a H;refine eO ?_;refine (jU H results22 (.cons (ny jf (cs:=[_,_,_,_,_,_,_,_,_,_,_]) H rfl rfl (H.hp.dx 0 rfl rfl)) (.cons (fu H rfl) .nil)) ?_).1
  exact abe
 intro h10 a H
 try have nN:=dF h10
 refine iB ?_;refine K2 _ _ ?_;clear K2;refine cO (fun _ K6=>?_);refine rM H wn rfl rfl ?_;clear H;intro a H;refine bP jf (cs:=[_,_,_,_,_,_,_,_,_,_,_]) H wn rfl rfl (H.hp.dx 1 rfl rfl) rfl ?_;clear H;intro a H;refine s_call Vy H wn rfl (Zv _ _ H.ro _ (axX (rH _ _ hb') (hva.mono rH) (nX.mono rH) hla hlr) D d (hR.mono rH) hs hc) rfl ?_;clear H;rintro v15 Ey a w ⟨E,rfl,hE⟩ Cx H;refine bC jf 0 (vs:=[_,_,_,_,_,_,_,_,_,_,_]) H wn rfl ?_;clear H;intro w H;refine kH H (aj K6 rfl ?_);clear H K6;intro a H;refine eO ?_;refine (jU H results22 (.cons (ny jf (cs:=[_,_,_,_,_,_,_,_,_,_,_]) H rfl rfl (H.hp.dx 0 rfl rfl)) (.cons (fu H rfl) .nil)) ?_).1
 exact abe
section
section
variable {N:Nat} {D:List Deferred} {w0:World} {F:Nat->Prop} {G0 G G1 G2:GH} {L L1 L2:OL} {T Xs:List (Nat × ah)}
variable {r:Option Nat} {P:Program} {Q:Exit->Act->World->Prop} {l:List Oper} {a a':Act} {w w':World}
end
end
section
theorem sH.mono {acc rej:Int->Bool} {h:dJ} {u:ah} {G G':GH} (hm:∀ b o,G b=some o->G' b=some o) (hd:sH acc rej h u G):sH acc rej h u G':=by
 unfold sH at hd |-
 split
 ·rename_i hg
  rw [aG hg] at hd;obtain ⟨p,d,l,e,hh⟩:=hd;exact ⟨p,d,l,e,hh.mono hm⟩
 rename_i hg
 rw [av hg] at hd;obtain ⟨p,d,l,e,hh⟩:=hd;exact ⟨p,d,l,e,hh.mono hm⟩
structure Oz (G:GH) (A R:List Int) (va vr:ah):Prop where
 ha:au G (.sl 1 (A.map fun k=>[li k])) va
 hr:au G (.sl 1 (R.map fun k=>[li k])) vr
 la:A.length<=4294967296
 lr:R.length<=4294967296
theorem Oz.mono {G G':GH} {A R:List Int} {va vr:ah} (hm:∀ b o,G b=some o->G' b=some o) (h:Oz G A R va vr):Oz G' A R va vr:=⟨h.ha.mono hm,h.hr.mono hm,h.la,h.lr⟩
variable {A R:List Int} {aA rA:Option Addr} {an ac rn rc:Nat}
end

theorem Now.up {α:Type} {xs:List AP} {P:α->AP} {J:Nat->GH->OL->Prop} {je j:Nat} {A:List α} {g g':GH} {L:OL} (h:Now xs P J je j A g L) (qy:Dh J) (hm:∀ b o,g b=some o->g' b=some o):Now xs P J je j A g' L:=⟨qy _ _ _ _ hm h.now,h.rem,h.len⟩



def ahG (k:Int):List Dat:=[li k]
theorem avF (G:GH) (k:Int):aY G (ahG k) [vi k]:=by
 simp only [ahG,aY]
 exact ⟨_,_,rfl,by simp [au,Value.oneCell'],rfl⟩
theorem aBo (l m:List ak):bO (l++m)=bO l+bO m:=by simp [bO,KZ]

def afw (t:Int) (a:Nat × ak):Bool:=decide ((a.1:Int)+jw a.2<=t)
def lA (t:Int) (A:List (Nat × ak)):List ak:=(A.filter (afw t)).map (·.2)
def rA (t:Int) (A:List (Nat × ak)):List ak:=(A.filter fun a=>!afw t a).map (·.2)
def aaj (l:List ak):Prop:=∀ (k:Nat) (h:k+1 < l.length),¬ (l[k].kind=1∧l[k+1].kind=1∧l[k].head=l[k+1].head)
theorem aaj.one {l:List ak} (h:l.length<=1):aaj l:=fun k hk=>by omega


theorem ZC:∀ {m l:List ak},m.Sublist l->bO m<=bO l
 | _,_,.slnil=>eu _
 | _,_,.cons a h=>by have:=ZC h;simp only [bO,eZ,dU] at *;omega
 | _,_,.cons_cons a h=>by have:=ZC h;simp only [bO,eZ,dU] at *;omega
theorem VE:aQ 95:=aR func95 rfl
theorem aeK:aQ 21:=aR func21 rfl
abbrev Dp (b:Nat) (n:Int):Nat × Obj:=(b,.cells #[vi n] 3 (0,0))
def SmQ (bl:Nat) (left:Int) (z:Nat) (u:ah) (_:GH) (L':OL):Prop:=∃ b lf,u=.bool b∧L'=[Dp bl lf]∧left - (z:Int)<=lf∧lf<=left
def TP (n:Nat):Prop:=∀ (G:GH) (w0:World) (l:List ak) (v:ah) (KF left:Int) (bl:Nat),gH G [Dp bl left] w0->au G (.sl 11 (l.map ak.dat)) v->bO l < n->0<=KF->KF<=1000->left<=1000->-1000000000000<=left - (bO l:Int) ->
 Calls prog 95 #[v,vi KF,(aJ bl 0)] w0 (fU w0 G [Dp bl left] (SmQ bl left (bO l)))
theorem akO (l m:List aS):gJ (l++m)=gJ l+gJ m:=by simp [gJ,KZ]
theorem akK (l m:List aV):iA (l++m)=iA l+iA m:=by simp [iA,KZ]
theorem aBp {l:List ak} {k:Nat} (h:k < l.length):bO (l.take (k+1))=bO (l.take k)+(1+bV l[k].dat):=by rw [kg h,aBo];simp [bO,dU]
theorem aBq {l:List aS} {k:Nat} (h:k < l.length):gJ (l.take (k+1))=gJ (l.take k)+(1+bV l[k].dat):=by rw [kg h,akO];simp [gJ,dU]
theorem aBn {l:List aV} {k:Nat} (h:k < l.length):iA (l.take (k+1))=iA (l.take k)+(1+bV l[k].dat):=by rw [kg h,akK];simp [iA,dU]
theorem akN (l:List ak) (k:Nat):bO (l.take k)<=bO l:=ZC (List.take_sublist k l)
theorem akQ (l:List aS) (k:Nat):gJ (l.take k)<=gJ l:=by
 have:=akO (l.take k) (l.drop k);rw [List.take_append_drop] at this;omega
theorem akM (l:List aV) (k:Nat):iA (l.take k)<=iA l:=by
 have:=akK (l.take k) (l.drop k);rw [List.take_append_drop] at this;omega
set_option maxHeartbeats 4000000 in
theorem aAg {n:Nat} (ih:TP n) (hn:n<=4294967296):TP (n+1):=by
 intro G w0 l v KF left bl hO hv hz hl0 hl1 hf1 hf0;obtain ⟨A,c,rfl,hc1,hc2,hg⟩:=hv.slice;rw [bQ] at *;have hll:=FN l;refine jc (N:=133) (T:=[(0,_),(1,_),(2,_)]) func95 rfl ntmps95 rfl rfl hO ?_;intro a H;refine kP H (SR fun _ K1=>aj K1 rfl (SQ fun _ K2=>SR fun _ K3=>aj K3 rfl (SB ?_)));clear H K1 K3;intro a H;skip;refine eX (ι:=Nat × Int × GH) (Tc:=[(0,_),(1,_),(2,_)]) (Lc:=[]) (fun gh=>[(7,vi gh.1)]) (fun gh=>[Dp bl gh.2.1]) (fun gh=>gh.2.2) (fun gh=>gh.1<=l.length∧left - (bO (l.take gh.1):Int)<=gh.2.1∧gh.2.1<=left∧(∀ b o,G b=some o->gh.2.2 b=some o)) (fun gh=>l.length - gh.1) ((0,left,G)) (by exact H.sub ⟨rfl,rfl,rfl,rfl,aB⟩) ?_ ?_
 ·exact ⟨by omega,by show left - ((0:Nat):Int)<=left;omega,Int.le_refl _,fun _ _ h=>h⟩
 clear H;rintro ⟨k,lf,g⟩ a w hI H;dsimp only at hI H;obtain ⟨hk,hlo,hhi,hgm⟩:=hI;have hzk:=akN l k;dsimp only [lca,bJ] at H;refine kP H (SQ fun _ K4=>SR fun _ K5=>Rm rfl (Rm rfl (Rl jq rfl (Rc rfl (Kz K5 (Cd rfl ?_ ?_)))))) <;> clear H K5
 ·intro gQ a H
  try have sw:=dT gQ
  have hk2:k < l.length:=by omega
  obtain ⟨b,o,pA,pn,pc,dA,dn,dc,yA,yn,yc,fA,fn,fc,rA,rn,rc,rfl,hrow,hhd,hfl,hrw⟩:=DF hk2 hg;have hrn:=hrw.len;rw [bQ] at hrn;subst hrn;have r3:aH g b (o+k*11+3)=some (.string l[k].text):=aF hgm (hrow 3 _ rfl);have r4:aH g b (o+k*11+4+0)=some (.slice pA pn pc):=aF hgm (hrow 4 _ rfl);have r9:aH g b (o+k*11+9)=some (.slice fA fn fc):=aF hgm (hrow 9 _ rfl);have Yx:aH g b (o+k*11+10)=some (.slice rA l[k].rows.length rc):=aF hgm (hrow 10 _ rfl);have hzi:=wY l[k];have hzs:=aBp hk2;have hzt:=akN l (k+1);refine kP H (Kc K4 (SQ fun _ K6=>SB (SR fun _ K7=>Rm rfl (Rk rfl (Ro aC 0 rfl (Rs rfl (Rk rfl ?_)))))));clear H K4;intro a H;refine bC aC 0 (vs:=[_]) H wn rfl ?_;clear H;intro w H;refine K7 _ _ ?_;clear K7;refine kP H (SQ fun _ K8=>SR fun _ K9=>Rm rfl (Rk rfl (Ro aC 0 rfl (Rc rfl (Rm rfl (Sp 25 rfl ?_ ?_)))))) <;> clear H
  ·intro iy a H
   try have p25:=dT iy
   refine kH H (aP iy rfl (Pt iy rfl (Rm rfl (bB rfl rfl (aP rfl rfl (aP rfl rfl (Pt rfl rfl (Rm rfl (bB rfl rfl (bB rfl rfl (aP rfl rfl (Pt rfl rfl (Rm rfl (bB rfl rfl (aP rfl rfl (aP rfl rfl (Pt rfl rfl (Rm rfl (bB rfl rfl (bB rfl rfl (aP rfl rfl (aP rfl rfl ?_))))))))))))))))))))));clear H;intro a H;exact kH H (Pt rfl rfl (Kz K9 (Ct rfl rfl (SR fun _ aW=>aj aW rfl (LR results95 rfl fun H=>H.hp.fQ ⟨_,_,rfl,rfl,by omega,by omega⟩)))))
  intro iy a H
  try have p25:=dF iy
  refine kH H (YM iy rfl (YC iy rfl (Pf iy rfl (Rm rfl (Sp 29 rfl ?_ ?_))))) <;> clear H
  ·intro gW a H
   try have p29:=dT gW
   refine kH H (bB gW rfl (aP gW rfl (aP gW rfl (Pt gW rfl (Rm rfl (bB rfl rfl (bB rfl rfl (aP rfl rfl (Pt rfl rfl (Rm rfl (bB rfl rfl (aP rfl rfl (aP rfl rfl (Pt rfl rfl (Rm rfl (bB rfl rfl (bB rfl rfl (aP rfl rfl (aP rfl rfl (Pt rfl rfl (Kz K9 ?_)))))))))))))))))))));clear H K9;intro a H;refine Ck H rfl rfl ?_;exact kP H (SR fun _ bM=>aj bM rfl (LR results95 rfl fun H=>H.hp.fQ ⟨_,_,rfl,rfl,by omega,by omega⟩))
  intro gW a H
  try have p29:=dF gW
  refine kH H (YM gW rfl (YM gW rfl (YI jq gq gW rfl rfl (YF wD gW rfl (YR jg gW rfl (by assumption) ?_)))));clear H;intro a H;refine FC iY H (wg H rfl rfl gW) rfl rfl ?_;clear H;intro a H;refine kH H (YC gW rfl (Pf gW rfl (Rm rfl (Sp 38 rfl ?_ ?_)))) <;> clear H
  ·intro pU a H
   try have p38:=dT pU
   exact kH H (bB pU rfl (bB pU rfl (aP pU rfl (Pt pU rfl (Rm rfl (bB rfl rfl (aP rfl rfl (aP rfl rfl (Pt rfl rfl (Rm rfl (bB rfl rfl (bB rfl rfl (aP rfl rfl (aP rfl rfl (Pt rfl rfl (Kz K9 (Ct rfl rfl (SR fun _ bU=>aj bU rfl (LR results95 rfl fun H=>H.hp.fQ ⟨_,_,rfl,rfl,by omega,by omega⟩)))))))))))))))))))
  intro pU a H
  try have p38:=dF pU
  refine kH H (YM pU rfl (YM pU rfl (YI jq gq pU rfl rfl (YF yN pU rfl (YF yL pU rfl (YR vk pU rfl (by assumption) ?_))))));clear H;intro a H;refine kH H (YL gT pU rfl (YC pU rfl (Pf pU rfl (Rm rfl (Sp 48 rfl ?_ ?_))))) <;> clear H
  ·intro h48 a H
   try have p48:=dT h48
   exact kH H (bB h48 rfl (aP h48 rfl (aP h48 rfl (Pt h48 rfl (Rm rfl (bB rfl rfl (bB rfl rfl (aP rfl rfl (aP rfl rfl (Pt rfl rfl (Kz K9 (Ct rfl rfl (SR fun _ bY=>aj bY rfl (LR results95 rfl fun H=>H.hp.fQ ⟨_,_,rfl,rfl,by omega,by omega⟩))))))))))))))
  intro h48 a H
  try have p48:=dF h48
  refine kH H (YM h48 rfl (YM h48 rfl (YI jq gq h48 rfl rfl (YF tZ h48 rfl (YR uy h48 rfl (by assumption) ?_)))));clear H;intro a H;refine kH H (YL nP h48 rfl (YC h48 rfl (Pf h48 rfl (Rm rfl (Sp 57 rfl ?_ ?_))))) <;> clear H
  ·intro h57 a H
   try have p57:=dT h57
   exact kH H (bB h57 rfl (bB h57 rfl (aP h57 rfl (aP h57 rfl (Pt h57 rfl (Kz K9 (Ct rfl rfl (SR fun _ cZ=>aj cZ rfl (LR results95 rfl fun H=>H.hp.fQ ⟨_,_,rfl,rfl,by omega,by omega⟩)))))))))
  intro h57 a H
  try have p57:=dF h57
  refine kH H (YM h57 rfl (YM h57 rfl (YI jq gq h57 rfl rfl (YF zM h57 rfl (YR kC h57 rfl (by assumption) ?_)))));clear H;intro a H;refine kH H (YM h57 rfl ?_);clear H;intro a H;refine zl _ H (wg H rfl rfl h57) rfl rfl rfl (by omega) (by omega) rfl ?_;clear H;intro a H;refine kH H (YM h57 rfl ?_);clear H;intro a H;refine gy VE (Li:=[]) (L:=[Dp bl _]) H (wg H rfl rfl h57) rfl (ih _ _ l[k].flow _ (KF - 1) _ bl (Hp.owns (Li:=[]) H.hp) (hfl.mono hgm) (by omega) (by omega) (by omega) (by omega) (by omega)) rfl ?_;clear H;rintro v66 G66 L66 a w ⟨b66,lf66,rfl,rfl,aCl,aCh⟩ agH H;dsimp only [List.nil_append] at H;replace Yx:=aF agH Yx;have atH:=fun b o h=>agH b o (hgm b o h);refine kH H (YN h57 rfl (Pf h57 rfl (Kz K9 (Cd rfl ?_ ?_)))) <;> clear H K9
  ·intro h68 a H
   try have p68:=dT h68
   exact kP H (SR fun _ dQ=>aj dQ rfl (LR results95 rfl fun H=>H.hp.fQ ⟨_,_,rfl,rfl,by omega,by omega⟩))
  intro h68 a H
  try have p68:=dF h68
  refine kP H (Kc K8 (SR fun _ dR=>aj dR rfl (SB ?_)));clear H K8 dR;intro a H;skip;refine eX (ι:=Nat × Int × GH) (Tc:=[(0,_),(1,_),(2,_),(7,_)]) (Lc:=[]) (fun gh=>[(8,vi gh.1)]) (fun gh=>[Dp bl gh.2.1]) (fun gh=>gh.2.2) (fun gh=>gh.1<=l[k].rows.length∧lf66 - (gJ (l[k].rows.take gh.1):Int)<=gh.2.1∧gh.2.1<=lf66∧(∀ b o,G b=some o->gh.2.2 b=some o)∧aH gh.2.2 b (o+k*11+10)=some (.slice rA l[k].rows.length rc)) (fun gh=>l[k].rows.length - gh.1) ((0,lf66,G66)) (by exact H.sub ⟨rfl,rfl,rfl,rfl,rfl,aB⟩) ?_ ?_
  ·exact ⟨by omega,by show lf66 - ((0:Nat):Int)<=lf66;omega,Int.le_refl _,atH,Yx⟩
  clear H;rintro ⟨j,lf2,g2⟩ a w hI H;dsimp only at hI H;obtain ⟨hj,hlo2,hhi2,iF,q10⟩:=hI;have aCD:=akQ l[k].rows j;dsimp only [lca,bJ] at H;refine kP H (SQ fun _ dK=>SR fun _ dX=>Rm rfl (Rm rfl (Rm rfl (Ri jq gq rfl rfl (Rf tZ rfl (Rg uy rfl (by assumption) ?_))))));clear H;intro a H;refine kH H (Rl nP rfl (Rc rfl (Kz dX (Cd rfl ?_ ?_)))) <;> clear H dX
  ·intro DL a H
   try have Yq:=dT DL
   have hj2:j < l[k].rows.length:=by omega
   obtain ⟨b2,o2,uA,un,uc,eA,en,ec,zA,zn,zc,cA,cn,cc,rfl,hrow2,D7,hcl⟩:=KS hj2 (hrw.mono iF).at_;have hcn:=hcl.len;rw [bQ] at hcn;subst hcn;have t5:aH g2 b2 (o2+j*6+5)=some (.slice cA l[k].rows[j].cells.length cc):=hrow2 5 _ rfl;have aCB:=Ai l[k].rows[j];have aCF:=aBq hj2;have aCH:=akQ l[k].rows (j+1);refine kP H (Kc dK (SQ fun _ fM=>SB (SQ fun _ eP=>SR fun _ gB=>Rm rfl (Rm rfl (Ri jq gq rfl rfl (Rf tZ rfl (Rg uy rfl (by assumption) ?_)))))));clear H dK;intro a H;refine kH H (Rm rfl (Ri nP jV rfl rfl (Rf zN rfl (Rg Ad rfl (by assumption) ?_))));clear H;intro a H;refine kH H (Rl qH rfl (Rc rfl (Kz gB (Cd rfl ?_ ?_)))) <;> clear H gB
   ·intro Wv a H
    try have p89:=dT Wv
    exact kP H (SR fun _ iH=>aj iH rfl (LR results95 rfl fun H=>H.hp.fQ ⟨_,_,rfl,rfl,by omega,by omega⟩))
   intro Wv a H
   try have p89:=dF Wv
   refine kP H (Kc eP (SR fun _ jP=>aj jP rfl (SB ?_)));clear H eP jP;intro a H;skip;refine eX (ι:=Nat × Int × GH) (Tc:=[(0,_),(1,_),(2,_),(7,_),(8,_)]) (Lc:=[]) (fun gh=>[(9,vi gh.1)]) (fun gh=>[Dp bl gh.2.1]) (fun gh=>gh.2.2) (fun gh=>gh.1<=l[k].rows[j].cells.length∧lf2 - (iA (l[k].rows[j].cells.take gh.1):Int)<=gh.2.1∧gh.2.1<=lf2∧(∀ b o,G b=some o->gh.2.2 b=some o)∧aH gh.2.2 b (o+k*11+10)=some (.slice (some ⟨b2,o2,none⟩) l[k].rows.length rc)∧aH gh.2.2 b2 (o2+j*6+5)=some (.slice cA l[k].rows[j].cells.length cc)∧(∀ b o,g2 b=some o->gh.2.2 b=some o)) (fun gh=>l[k].rows[j].cells.length - gh.1) ((0,lf2,g2)) (by exact H.sub ⟨rfl,rfl,rfl,rfl,rfl,rfl,aB⟩) ?_ ?_
   ·exact ⟨by omega,by show lf2 - ((0:Nat):Int)<=lf2;omega,Int.le_refl _,iF,q10,t5,fun _ _ h=>h⟩
   clear H;rintro ⟨m,lf3,g3⟩ a w hI H;dsimp only at hI H;obtain ⟨hm,hlo3,hhi3,qR,s10,s5,agz⟩:=hI;have aCE:=akM l[k].rows[j].cells m;dsimp only [lca,bJ] at H;refine kP H (SQ fun _ jH=>SR fun _ jr=>Rm rfl (Rm rfl (Rm rfl (Ri jq gq rfl rfl (Rf tZ rfl (Rg uy rfl (by assumption) ?_))))));clear H;intro a H;refine kH H (Rm rfl (Ri nP jV rfl rfl (Rf zN rfl (Rg Ad rfl (by assumption) ?_))));clear H;intro a H;refine kH H (Rl qH rfl (Rc rfl (Kz jr (Cd rfl ?_ ?_)))) <;> clear H jr
   ·intro V9 a H
    try have axn:=dT V9
    have hm2:m < l[k].rows[j].cells.length:=by omega
    obtain ⟨b3,o3,x1,x2,x3,x4,x5,x6,x7,x8,x9,gA,gn,gc,rfl,hrow3,hch,hcf⟩:=JJ hm2 (hcl.mono agz).at_;have u6:aH g3 b3 (o3+m*7+6)=some (.slice gA gn gc):=hrow3 6 _ rfl;have aCC:=Ah l[k].rows[j].cells[m];have aCG:=aBn hm2;have aCI:=akM l[k].rows[j].cells (m+1);refine kP H (Kc jH (SQ fun _ kN=>SB (SR fun _ kQ=>Rm rfl (Rk rfl (Ro aC 0 rfl (Rs rfl (Rk rfl ?_)))))));clear H jH;intro a H;refine bC aC 0 (vs:=[_]) H wn rfl ?_;clear H;intro w H;refine kQ _ _ ?_;clear kQ;refine kP H (SR fun _ jh=>Rm rfl (Rk rfl (Ro aC 0 rfl (Rc rfl (Rm rfl (Sp 113 rfl ?_ ?_)))))) <;> clear H
    ·intro ni a H
     try have axq:=dT ni
     exact kH H (bB ni rfl (bB ni rfl (bB ni rfl (bB ni rfl (bB ni rfl (bB ni rfl (Pt ni rfl (Kz jh (Ct rfl rfl (SR fun _ mD=>aj mD rfl (LR results95 rfl fun H=>H.hp.fQ ⟨_,_,rfl,rfl,by omega,by omega⟩)))))))))))
    intro ni a H
    try have axq:=dF ni
    refine kH H (YM ni rfl (YM ni rfl (YI jq gq ni rfl rfl (YF tZ ni rfl (YR uy ni rfl (by assumption) ?_)))));clear H;intro a H;refine kH H (YM ni rfl (YI nP jV ni rfl rfl (YF zN ni rfl (YR Ad ni rfl (by assumption) ?_))));clear H;intro a H;refine kH H (YM ni rfl (YI qH lg ni rfl rfl (YF GZ ni rfl (YR kC ni rfl (by assumption) ?_))));clear H;intro a H;refine kH H (YM ni rfl ?_);clear H;intro a H;refine zl _ H (wg H rfl rfl ni) rfl rfl rfl (by omega) (by omega) rfl ?_;clear H;intro a H;refine kH H (YM ni rfl ?_);clear H;intro a H;refine gy VE (Li:=[]) (L:=[Dp bl _]) H (wg H rfl rfl ni) rfl (ih _ _ l[k].rows[j].cells[m].flow _ (KF - 1) _ bl (Hp.owns (Li:=[]) H.hp) hcf (by omega) (by omega) (by omega) (by omega) (by omega)) rfl ?_;clear H;rintro v130 akX aBF a w ⟨aBK,avW,rfl,rfl,aCk,aCg⟩ Qz H;dsimp only [List.nil_append] at H;refine kH H (YN ni rfl (Pf ni rfl (Kz jh (Cd rfl ?_ ?_)))) <;> clear H jh
    ·intro ER a H
     try have aiI:=dT ER
     exact kP H (SR fun _ nE=>aj nE rfl (LR results95 rfl fun H=>H.hp.fQ ⟨_,_,rfl,rfl,by omega,by omega⟩))
    intro ER a H
    try have aiI:=dF ER
    refine kP H (Kc kN (SC (Rm rfl (Rd rfl (Ra rfl ?_)))));clear H kN;intro a H;refine aD ?_;refine dG ((m+1,avW,akX)) (by exact H.sub ⟨rfl,rfl,rfl,rfl,rfl,rfl,aB⟩) ?_
    (try dsimp only);exact ⟨by omega,by omega,by omega,fun b o h=>Qz b o (qR b o h),aF Qz s10,aF Qz s5,fun b o h=>Qz b o (agz b o h)⟩
   intro V9 a H
   try have axn:=dF V9
   refine dP ?_;refine fM _ _ ?_;clear fM;refine kP H (SC (Rm rfl (Rd rfl (Ra rfl ?_))));clear H;intro a H;refine aD ?_;refine dG ((j+1,lf3,g3)) (by exact H.sub ⟨rfl,rfl,rfl,rfl,rfl,aB⟩) ?_
   (try dsimp only);exact ⟨by omega,by omega,by omega,qR,s10⟩
  intro DL a H
  try have Yq:=dF DL
  refine dP ?_;refine K6 _ _ ?_;clear K6;refine kP H (SC (Rm rfl (Rd rfl (Ra rfl ?_))));clear H;intro a H;refine aD ?_;refine dG ((k+1,lf2,g2)) (by exact H.sub ⟨rfl,rfl,rfl,rfl,aB⟩) ?_
  (try dsimp only);exact ⟨by omega,by omega,by omega,iF⟩
 intro gQ a H
 try have sw:=dF gQ
 refine dP ?_;refine K2 _ _ ?_;clear K2;exact kP H (SR fun _ mE=>aj mE rfl (LR results95 rfl fun H=>H.hp.fQ ⟨_,_,rfl,rfl,by omega,by omega⟩))
theorem ajz:∀ n:Nat,n<=4294967296->TP n
 | 0,_=>fun _ _ _ _ _ _ _ _ _ hz=>absurd hz (Nat.not_lt_zero _)
 | n+1,h=>aAg (ajz n (by omega)) (by omega)
theorem aAe (G:GH) (w0:World) (hG:Hold G w0) (D:jO) (d:gG) (hR:pz G D d) (hz:Al d) :
  Calls prog 45 #[D.val] w0 (bK w0 G fun u G'=>∃ b,u=.bool b∧(b=true->iL d=0)):=by
 have NH:=hz.fl;refine eN [(0,_)] func45 rfl ntmps45 rfl rfl hG ?_;intro a H;refine cO (fun _ K1=>?_);refine dW (cs:=[_,_,_,_,_,_,_,_,_,_,_]) H wn rfl rfl rfl ?_;clear H;intro b1 a w hb1 H;refine kH H (aj K1 rfl (SQ fun _ K2=>?_));clear H K1;intro a H;obtain ⟨Ga,hma,hb1',H⟩:=H.fB;have hga:=fun j v hj=>pR hb1' 0 D.cells rfl j v hj;have hgs:=fun j v hj=>pR hb1' 7 [cB D.s1,cB D.s2,cB D.s3,cB D.s4] rfl j v hj
 have hgr:aH Ga b1 6=some (cB D.r):=by unfold aH;rw [hb1'];rfl
 have hgf:aH Ga b1 0=some (cB D.f):=by unfold aH;rw [hb1'];rfl
 replace hR:=hR.mono hma;refine nH ?_;refine dO aC H wn rfl ?_;clear H;intro b3 a w hb3 H;refine bC aC 0 (vs:=[_]) H wn rfl ?_;clear H;intro w H;refine kH H (Kn K2 (SR fun _ K3=>Rf MS rfl ?_));clear H K2;intro a H;refine bP BF (cs:=[cB D.s1,cB D.s2,cB D.s3,cB D.s4]) H wn rfl rfl (fun j v hj=>H.hp.aH (hgs j v hj)) rfl ?_;clear H;intro a H;refine dO BF H wn rfl ?_;clear H;intro b4 a w hb4 H;refine bC BF 0 (vs:=[_,_,_,_]) H wn rfl ?_;clear H;intro w H;refine K3 _ _ ?_;clear K3;refine kP H (SR fun _ K4=>bq VK FJ 0 rfl rfl (Rl Ae rfl (Rc rfl (Rm rfl (Sp 11 rfl ?_ ?_))))) <;> clear H
 ·intro h11 a H
  try have sj:=dT h11
  refine kH H (YF JV h11 rfl (YO tH 0 h11 rfl (YL mX h11 rfl (YC h11 rfl (Pt h11 rfl (Rm rfl (Sp 17 rfl ?_ ?_))))))) <;> clear H
  ·intro fE a H
   try have og:=dT fE
   refine kH H (YF JW fE rfl (YO Da 0 fE rfl (YL yu fE rfl (YC fE rfl (Pt fE rfl (Rm rfl (Sp 23 rfl ?_ ?_))))))) <;> clear H
   ·intro h23 a H
    try have Bq:=dT h23
    refine kH H (YF VL h23 rfl (YO zo 0 h23 rfl (YL wX h23 rfl (YC h23 rfl (Pt h23 rfl (Rm rfl (Sp 29 rfl ?_ ?_))))))) <;> clear H
    ·intro gW a H
     try have p29:=dT gW
     refine kH H (YF EM gW rfl (YR zm gW rfl (by assumption) ?_));clear H;intro a H;refine kH H (YL qG gW rfl (YC gW rfl (Pt gW rfl (Rm rfl (Sp 35 rfl ?_ ?_))))) <;> clear H
     ·intro gX a H
      try have p35:=dT gX
      refine kH H (YF vJ gX rfl (YR kC gX rfl (by assumption) ?_));clear H;intro a H;refine gy VE (Li:=[_]) (L:=[Dp b3 150]) H (wg H rfl rfl gX) rfl (ajz 4294967296 (eu _) _ _ d.flow _ 12 150 b3 (Hp.owns (Li:=[_]) H.hp) hR.fl (by omega) (by decide) (by decide) (by decide) (by omega)) rfl ?_;clear H;rintro v38 Tq L38 a w ⟨b38,lf38,rfl,rfl,-,-⟩ Kh H;refine kH H (Pt gX rfl (Rm rfl (Sp 40 rfl ?_ ?_))) <;> clear H
      ·intro lD a H
       try have p40:=dT lD
       refine bP jf (cs:=D.cells) H (wg H rfl rfl lD) rfl rfl (fun j v hj=>H.hp.aH (aF Kh (hga j v hj))) rfl ?_;clear H;intro a H;refine s_call aeK H (wg H rfl rfl lD) rfl (adz _ _ H.ro D d (hR.mono Kh) hz) rfl ?_;clear H;rintro v42 G42 a w rfl aCn H;exact kH H (YC lD rfl (Pt lD rfl (aj K4 rfl (LR results45 rfl fun H=>H.rt ⟨_,rfl,fun h=>by first|assumption|(simp_all;done)⟩))))
      intro lD a H
      try have p40:=dF lD
      exact kH H (bB lD rfl (Pf lD rfl (aj K4 rfl (LR results45 rfl fun H=>H.rt ⟨_,rfl,fun h=>by first|assumption|(simp_all;done)⟩))))
     intro gX a H
     try have p35:=dF gX
     exact kH H (bB gX rfl (Pf gX rfl (Rm rfl (bB rfl rfl (Pf rfl rfl (aj K4 rfl (LR results45 rfl fun H=>H.rt ⟨_,rfl,fun h=>by first|assumption|(simp_all;done)⟩)))))))
    intro gW a H
    try have p29:=dF gW
    exact kH H (aP gW rfl (aP gW rfl (Pf gW rfl (Rm rfl (bB rfl rfl (Pf rfl rfl (Rm rfl (bB rfl rfl (Pf rfl rfl (aj K4 rfl (LR results45 rfl fun H=>H.rt ⟨_,rfl,fun h=>by first|assumption|(simp_all;done)⟩)))))))))))
   intro h23 a H
   try have Bq:=dF h23
   exact kH H (aP h23 rfl (aP h23 rfl (Pf h23 rfl (Rm rfl (aP rfl rfl (aP rfl rfl (Pf rfl rfl (Rm rfl (bB rfl rfl (Pf rfl rfl (Rm rfl (bB rfl rfl (Pf rfl rfl (aj K4 rfl (LR results45 rfl fun H=>H.rt ⟨_,rfl,fun h=>by first|assumption|(simp_all;done)⟩)))))))))))))))
  intro fE a H
  try have og:=dF fE
  exact kH H (aP fE rfl (aP fE rfl (Pf fE rfl (Rm rfl (aP rfl rfl (aP rfl rfl (Pf rfl rfl (Rm rfl (aP rfl rfl (aP rfl rfl (Pf rfl rfl (Rm rfl (bB rfl rfl (Pf rfl rfl (Rm rfl (bB rfl rfl (Pf rfl rfl (aj K4 rfl (LR results45 rfl fun H=>H.rt ⟨_,rfl,fun h=>by first|assumption|(simp_all;done)⟩)))))))))))))))))))
 intro h11 a H
 try have sj:=dF h11
 exact kH H (aP h11 rfl (aP h11 rfl (Pf h11 rfl (Rm rfl (aP rfl rfl (aP rfl rfl (Pf rfl rfl (Rm rfl (aP rfl rfl (aP rfl rfl (Pf rfl rfl (Rm rfl (aP rfl rfl (aP rfl rfl (Pf rfl rfl (Rm rfl (bB rfl rfl (Pf rfl rfl (Rm rfl (bB rfl rfl (Pf rfl rfl (aj K4 rfl (LR results45 rfl fun H=>H.rt ⟨_,rfl,fun h=>by first|assumption|(simp_all;done)⟩)))))))))))))))))))))))
theorem Y4:qK prog 68 [(0,1),(1,1),(2,1),(3,1),(4,5),(9,1),(10,1)] [.int .i64 0,.int .i64 0,.int .i64 0,.string ⟨#[]⟩,.slice none 0 0,.int .i64 0,.int .i64 0,.slice none 0 0,.slice none 0 0,.slice none 0 0,.slice none 0 0]:=⟨by kernel_rfl,by kernel_rfl⟩
theorem aAp:qK prog 159 [(0,1),(1,1)] [.int .i64 0,.int .i64 0]:=⟨by kernel_rfl,by kernel_rfl⟩
theorem aAm:qK prog 102 [(0,1),(1,1),(2,1)] [.int .i64 0,.string ⟨#[]⟩,.int .i64 0]:=⟨by kernel_rfl,by kernel_rfl⟩
theorem aeW:aQ 44:=aR func44 rfl
theorem aoN:aQ 14:=aR func14 rfl
theorem aoU:aQ 15:=aR func15 rfl
theorem aqn:aQ 45:=aR func45 rfl
def Ag (k:Int) (t:ByteArray) (i:Int) (ds:List gF):ak:=.mk k 0 0 t ⟨[],⟨i,0,ds,[]⟩⟩ [] []
def wC:gG:=⟨[Ag 1 ⟨#[97,98]⟩ 0 [],Ag 1 ⟨#[99,100]⟩ 3 [],Ag 1 ⟨#[101]⟩ 0 [⟨5,0⟩],Ag 2 ⟨#[]⟩ 0 []],BL,[⟨3,⟨#[65,110]⟩,0⟩,⟨5,⟨#[66,111]⟩,0⟩],⟨[],[],[],[]⟩⟩
theorem o24:(nD (kL (fun _=>false) (fun _=>true) wC)).flow.length=2:=by kernel_rfl
theorem axb:((nD (kL (fun _=>false) (fun _=>true) wC)).flow.map ak.text).head?=some ⟨#[97,98,101]⟩:=by kernel_rfl
theorem axa:(nD (kL (fun _=>false) (fun _=>true) wC)).revs.length=0:=by kernel_rfl
theorem f24:(nD (kL (fun _=>true) (fun _=>false) wC)).flow.length=2:=by kernel_rfl
theorem aqW:((nD (kL (fun _=>true) (fun _=>false) wC)).flow.map ak.text).head?=some ⟨#[97,98,99,100]⟩:=by kernel_rfl
theorem aqV:(nD (kL (fun _=>true) (fun _=>false) wC)).revs.length=0:=by kernel_rfl
theorem z24:bO wC.flow<=1000:=by decide
theorem c24:iL wC=0:=by kernel_rfl
theorem s24:yw 536870912 wC:=by
 have h:=z24
 have h0:mK BL<=1000:=by decide
 refine ⟨⟨by omega,by show mK BL<=_;omega,by decide,fun x hx=>?_,by decide,⟨fun _ h=>(by cases h),by decide,fun _ h=>(by cases h),by decide,fun _ h=>(by cases h),by decide,fun _ h=>(by cases h),fun _ h=>(by cases h),fun _ h=>(by cases h)⟩⟩,by omega,by show mK BL<=_;omega⟩
 simp only [wC,fV,List.not_mem_nil,or_false] at hx
 rcases hx with rfl|rfl <;> decide
theorem atE {F:List ak} {t:ByteArray} (h:(F.map ak.text).head?=some t) (h0:0 < F.length):F[0].text=t:=by
 cases F with
 | nil=>exact absurd h0 (by decide)
 | cons x F=>simpa using h
set_option maxHeartbeats 2000000 in
theorem afd (G:GH) (w0:World) (hG:Hold G w0) :
  Calls prog 44 #[] w0 (bK w0 G fun u G'=>∃ D:jO,u=D.val∧pz G' D wC):=by
 refine eN [] func44 rfl ntmps44 rfl rfl hG ?_;intro a H;refine cO (fun _ K1=>?_);refine dO jf H wn rfl ?_;clear H;intro b0 a w hb0 H;refine K1 _ _ ?_;clear K1;refine cO (fun _ K2=>?_);refine jD Y4 [_,_,_,_,_,_,_,_,_,_,_] H wn rfl rfl rfl rfl ?_;clear H;intro a H;refine jD Y2 [_,_,_,_] H wn rfl rfl rfl rfl ?_;clear H;intro a H;refine jD KY [_,_,_,_,_] H wn rfl rfl rfl rfl ?_;clear H;intro a H;refine jD Y4 [_,_,_,_,_,_,_,_,_,_,_] H wn rfl rfl rfl rfl ?_;clear H;intro a H;refine jD aAp [_,_] H wn rfl rfl rfl rfl ?_;clear H;intro a H;refine iT oz om [_,_] [_,_] H wn rfl rfl rfl rfl rfl (by intro i q h;match i,h with|0,h=>exact h|n+1,h=>simp at h) rfl rfl ?_;clear H;intro b6 a w hb6 H;refine jD Y2 [_,_,_,_] H wn rfl rfl rfl rfl ?_;clear H;intro a H;refine jD KY [_,_,_,_,_] H wn rfl rfl rfl rfl ?_;clear H;intro a H;(iterate 2 refine jD Y4 [_,_,_,_,_,_,_,_,_,_,_] H wn rfl rfl rfl rfl ?_;clear H;intro a H);refine iT jq gq [_,_,_,_,_,_,_,_,_,_,_,_,_,_,_,_,_,_,_,_,_,_,_,_,_,_,_,_,_,_,_,_,_,_,_,_,_,_,_,_,_,_,_,_] [_,_,_,_,_,_,_,_,_,_,_,_,_,_,_,_,_,_,_,_,_,_,_,_,_,_,_,_,_,_,_,_,_,_,_,_,_,_,_,_,_,_,_,_] H wn rfl rfl rfl rfl rfl (by intro i q h;match i,h with|0,h=>exact h|1,h=>exact h|2,h=>exact h|3,h=>exact h|n+4,h=>simp at h) rfl rfl ?_;clear H;intro b11 a w J6 H;(iterate 2 refine jD aAm [_,_,_] H wn rfl rfl rfl rfl ?_;clear H;intro a H);refine iT qG qh [_,_,_,_,_,_] [_,_,_,_,_,_] H wn rfl rfl rfl rfl rfl (by intro i q h;match i,h with|0,h=>exact h|1,h=>exact h|n+2,h=>simp at h) rfl rfl ?_;clear H;intro b14 a w WI H;refine jD Y3 [_,_,_,_,_,_,_,_,_,_,_] H wn rfl rfl rfl rfl ?_;clear H;intro a H;refine bC jf 3 (vs:=[_,_,_,_,_,_,_,_,_,_,_]) H wn rfl ?_;clear H;intro w H;refine K2 _ _ ?_;clear K2;refine eO ?_;refine (leave1 H results44 (.cons (ny jf (cs:=[_,_,_,_,_,_,_,_,_,_,_]) H rfl rfl (H.hp.dx 3 rfl rfl)) .nil) ?_).1;have H:=H.eD (Pl:=[_,_,_,_]) (dN:=[_,_,_]) [2,1,0] (by decide) rfl;obtain ⟨G1,hm1,Qq,H⟩:=H.fB;obtain ⟨G2,hm2,Cr,H⟩:=H.fB;obtain ⟨G3,vP,WJ,H⟩:=H.fB;have nl:∀ {sz:Nat},au G2 (.sl sz []) (.slice none 0 0):=fun {sz}=>au.qV rfl (by decide);have IC:∀ {sz:Nat},au G3 (.sl sz []) (.slice none 0 0):=fun {sz}=>au.qV rfl (by decide);have d1:au G2 (.sl 2 ([(⟨5,0⟩:gF)].map gF.dat)) (.slice (some ⟨b6,0,none⟩) 1 1):=au.vV (n:=1) (cap:=1) (hm2 _ _ Qq) rfl (eu _) (show 1<=maxLen by decide) rfl (bZ.nil.snoc (aef G2 ⟨5,0⟩) rfl);have r1:aY G2 (Ag 1 ⟨#[97,98]⟩ 0 []).dat _:=aY.mkItem (x:=Ag 1 ⟨#[97,98]⟩ 0 []) ⟨nl,nl,nl⟩ nl nl;have r2:aY G2 (Ag 1 ⟨#[99,100]⟩ 3 []).dat _:=aY.mkItem (x:=Ag 1 ⟨#[99,100]⟩ 3 []) ⟨nl,nl,nl⟩ nl nl;have r3:aY G2 (Ag 1 ⟨#[101]⟩ 0 [⟨5,0⟩]).dat _:=aY.mkItem (x:=Ag 1 ⟨#[101]⟩ 0 [⟨5,0⟩]) ⟨nl,d1,nl⟩ nl nl;have r4:aY G2 (Ag 2 ⟨#[]⟩ 0 []).dat _:=aY.mkItem (x:=Ag 2 ⟨#[]⟩ 0 []) ⟨nl,nl,nl⟩ nl nl;have fG:bZ G2 11 (wC.flow.map ak.dat) _:=(((bZ.nil.snoc r1 rfl).snoc r2 rfl).snoc r3 rfl).snoc r4 rfl;have hcr:bZ G3 3 (wC.revs.map bW.dat) _:=(bZ.nil.snoc (NV G3 ⟨3,⟨#[65,110]⟩,0⟩) rfl).snoc (NV G3 ⟨5,⟨#[66,111]⟩,0⟩) rfl;exact H.rt ⟨⟨(some ⟨b11,0,none⟩,4,4),(none,0,0),(none,0,0),(none,0,0),(some ⟨b14,0,none⟩,2,2),(none,0,0),(none,0,0),(none,0,0),(none,0,0),0,0⟩,rfl,⟨(au.vV (n:=4) (cap:=4) Cr rfl (eu _) (show 4<=maxLen by decide) rfl fG).mono vP,⟨IC,IC,IC⟩,rfl,rfl,au.vV (n:=2) (cap:=2) WJ rfl (eu _) (show 2<=maxLen by decide) rfl hcr,⟨IC,IC,IC,IC⟩⟩⟩
theorem ael {G:GH} {E:jO} {e:gG} {t:ByteArray} (hE:pz G E e) (h2:e.flow.length=2) (ht:(e.flow.map ak.text).head?=some t) (hr:e.revs.length=0) :
  ∃ b o fc rA rc,E.f=(some ⟨b,o,none⟩,2,fc)∧E.r=(rA,0,rc)∧aH G b (o+0*11+3)=some (.string t):=by
 obtain ⟨⟨fA,fn,fc⟩,_,_,_,⟨rA,rn,rc⟩,_,_,_,_,_,_⟩:=E;have hf:=hE.fl;have hv:=hE.rv;dsimp only [cB] at hf hv;have n1:=hf.len;have n2:=hv.len;rw [bQ] at n1 n2;obtain ⟨A,c,e4,-,-,hg⟩:=hf.slice;rw [bQ] at e4
 injection e4 with e4 e5 e6
 subst e4;obtain ⟨b,o,_,_,_,_,_,_,_,_,_,_,_,_,_,_,_,rfl,hrow,-⟩:=DF (show 0 < e.flow.length by omega) hg;have h3:=hrow 3 _ rfl;rw [atE ht] at h3;exact ⟨b,o,fc,rA,rc,by rw [n1,h2],by rw [n2,hr],h3⟩
theorem Me {p:Prop} (h:p:=by
 first
  | exact H.rt rfl
  | (exfalso;simp_all;done)
  | (exfalso;simp_all;omega)):p:=h
set_option maxHeartbeats 1000000 in
theorem XR (G:GH) (w0:World) (hG:Hold G w0):Calls prog 12 #[] w0 (bK w0 G fun u G'=>u=.bool true):=by
 refine eN [] func12 rfl ntmps12 rfl rfl hG ?_;intro a H;refine kP H (SR fun _ K1=>aj K1 rfl (SR fun _ K2=>?_));clear H K1;intro a H;refine s_call aeW H wn rfl (afd _ _ H.ro) rfl ?_;clear H;rintro v3 G3 a w ⟨D3,rfl,hD3⟩ vP H;refine s_call aoN H wn rfl (ayl _ _ H.ro D3 wC hD3 s24 c24) rfl ?_;clear H;rintro v4 G4 a w ⟨E,rfl,hE⟩ Bb H;obtain ⟨b4,o4,fc,rA,rc,e1,e2,Bf⟩:=ael hE o24 axb axa;obtain ⟨_,_,_,_,_,_,_,_,_,_,_⟩:=E;dsimp only at e1 e2;subst e1 e2
 simp only [jO.val,jO.cells,cB] at H
 refine dO jf H wn rfl ?_;clear H;intro b1 a w hb1 H;refine bC jf 0 (vs:=[_,_,_,_,_,_,_,_,_,_,_]) H wn rfl ?_;clear H;intro w H;refine K2 _ _ ?_;clear K2;refine cO (fun _ K3=>?_);refine s_call aeW H wn rfl (afd _ _ H.ro) rfl ?_;clear H;rintro v5 G5 a w ⟨D5,rfl,hD5⟩ E5 H;refine s_call aoU H wn rfl (ayk _ _ H.ro D5 wC hD5 s24 c24) rfl ?_;clear H;rintro v6 G6 a w ⟨E6,rfl,hE6⟩ Cz H;obtain ⟨b6,o6,gc,sA,sc,e3,e4,ht6⟩:=ael hE6 f24 aqW aqV;obtain ⟨_,_,_,_,_,_,_,_,_,_,_⟩:=E6;dsimp only at e3 e4;subst e3 e4
 simp only [jO.val,jO.cells,cB] at H
 replace Bf:=aF (fun b o h=>Cz b o (E5 b o h)) Bf;refine dO jf H wn rfl ?_;clear H;intro b2 a w hb2 H;refine bC jf 0 (vs:=[_,_,_,_,_,_,_,_,_,_,_]) H wn rfl ?_;clear H;intro w H;refine K3 _ _ ?_;clear K3;refine kP H (SR fun _ K4=>bq vJ kC 1 rfl rfl (Rl jq rfl (Rc rfl (Rm rfl (Sp 11 rfl ?_ ?_))))) <;> clear H
 ·intro h11 a H
  try have sj:=dT h11
  refine kH H (YF vJ h11 rfl (YO kC 1 h11 rfl ?_));clear H;intro a H;refine vX jq gq 0 H (wg H rfl rfl h11) rfl rfl rfl (by decide) rfl ?_;clear H;intro a H;refine kH H (YF wD h11 rfl (YR jg h11 rfl Bf ?_));clear H;intro a H;refine FB H (wg H rfl rfl h11) rfl rfl rfl ?_;clear H;intro a H;refine kH H (Pt h11 rfl (Rm rfl (Sp 19 rfl ?_ ?_))) <;> clear H
  ·intro h19 a H
   try have tC:=dT h19
   refine kH H (YF vJ h19 rfl (YO kC 0 h19 rfl (YL jq h19 rfl (YC h19 rfl (Pt h19 rfl (Rm rfl (Sp 25 rfl ?_ ?_))))))) <;> clear H
   ·intro iy a H
    try have p25:=dT iy
    refine kH H (YF vJ iy rfl (YO kC 0 iy rfl ?_));clear H;intro a H;refine vX jq gq 0 H (wg H rfl rfl iy) rfl rfl rfl (by decide) rfl ?_;clear H;intro a H;refine kH H (YF wD iy rfl (YR jg iy rfl ht6 ?_));clear H;intro a H;refine FB H (wg H rfl rfl iy) rfl rfl rfl ?_;clear H;intro a H;refine kH H (Pt iy rfl (Rm rfl (Sp 33 rfl ?_ ?_))) <;> clear H
    ·intro vM a H
     try have p33:=dT vM
     refine kH H (YF EM vM rfl (YO zm 1 vM rfl (YL qG vM rfl (YF EM vM rfl (YO zm 0 vM rfl (YL qG vM rfl ?_))))));clear H;intro a H;refine NY _ H (wg H rfl rfl vM) rfl rfl rfl (by omega) (by omega) rfl ?_;clear H;intro a H;refine kH H (YC vM rfl (Pt vM rfl (aj K4 rfl ?_)));clear H K4;intro a H;refine lr H results12 rfl ?_
     exact Me
    intro vM a H
    try have p33:=dF vM
    refine kH H (bB vM rfl (bB vM rfl (aP vM rfl (Pf vM rfl (aj K4 rfl ?_)))));clear H K4;intro a H;refine lr H results12 rfl ?_
    exact Me
   intro iy a H
   try have p25:=dF iy
   refine kH H (bB iy rfl (bB iy rfl (Pf iy rfl (Rm rfl (bB rfl rfl (bB rfl rfl (aP rfl rfl (Pf rfl rfl (aj K4 rfl ?_)))))))));clear H K4;intro a H;refine lr H results12 rfl ?_
   exact Me
  intro h19 a H
  try have tC:=dF h19
  refine kH H (aP h19 rfl (aP h19 rfl (Pf h19 rfl (Rm rfl (bB rfl rfl (bB rfl rfl (Pf rfl rfl (Rm rfl (bB rfl rfl (bB rfl rfl (aP rfl rfl (Pf rfl rfl (aj K4 rfl ?_)))))))))))));clear H K4;intro a H;refine lr H results12 rfl ?_
  exact Me
 intro h11 a H
 try have sj:=dF h11
 refine kH H (bB h11 rfl (bB h11 rfl (Pf h11 rfl (Rm rfl (aP rfl rfl (aP rfl rfl (Pf rfl rfl (Rm rfl (bB rfl rfl (bB rfl rfl (Pf rfl rfl (Rm rfl (bB rfl rfl (bB rfl rfl (aP rfl rfl (Pf rfl rfl (aj K4 rfl ?_)))))))))))))))));clear H K4;intro a H;refine lr H results12 rfl ?_
 exact Me
theorem Ul {p:Prop} (h:p:=by
 first
  | exact H.rt ⟨_,rfl,fun h=>⟨agj h,by omega,by omega⟩⟩
  | exact H.rt ⟨_,rfl,fun h=>by cases h⟩):p:=h
theorem aAf (G:GH) (w0:World) (hG:Hold G w0) (D:jO) (d:gG) (hR:pz G D d) (hz:Al d) (A R:List Int) (va vr:ah) (hd:Oz G A R va vr) :
  Calls prog 13 #[D.val,.agg #[va,vr]] w0 (bK w0 G fun u G'=>∃ b,u=.bool b∧(b=true->iL d=0∧A.length<=300∧R.length<=300)):=by
 obtain ⟨aA,ac,rfl,-,-,-⟩:=hd.ha.slice;obtain ⟨rA,rc,rfl,-,-,-⟩:=hd.hr.slice
 simp only [bQ] at *
 refine eN [(0,_),(1,_)] func13 rfl ntmps13 rfl rfl hG ?_;intro a H;refine cO (fun _ K1=>?_);refine dW (cs:=[_,_,_,_,_,_,_,_,_,_,_]) H wn rfl rfl rfl ?_;clear H;intro b2 a w hb2 H;refine dW (cs:=[_,_]) H wn rfl rfl rfl ?_;clear H;intro b3 a w hb3 H;refine kH H (aj K1 rfl (SR fun _ K2=>bq Co oq 0 rfl rfl (Rl iG rfl (Rc rfl (Rm rfl (Sp 9 rfl ?_ ?_)))))) <;> clear H K1
 ·intro h9 a H
  try have p9:=dT h9
  refine kH H (YF EN h9 rfl (YO oq 0 h9 rfl (YL iG h9 rfl (YC h9 rfl (Pt h9 rfl (Rm rfl (Sp 15 rfl ?_ ?_))))))) <;> clear H
  ·intro jK a H
   try have tu:=dT jK
   refine bP jf (cs:=[_,_,_,_,_,_,_,_,_,_,_]) H (wg H rfl rfl jK) rfl rfl (H.hp.dx 1 rfl rfl) rfl ?_;clear H;intro a H;refine s_call aqn H (wg H rfl rfl jK) rfl (aAe _ _ H.ro D d hR hz) rfl ?_;clear H;rintro v17 BN a w ⟨b17,rfl,agj⟩ sV H;refine kH H (Pt jK rfl (aj K2 rfl ?_));clear H K2;intro a H;refine lr H results13 rfl ?_
   exact Ul
  intro jK a H
  try have tu:=dF jK
  refine kH H (aP jK rfl (Pf jK rfl (aj K2 rfl ?_)));clear H K2;intro a H;refine lr H results13 rfl ?_
  exact Ul
 intro h9 a H
 try have p9:=dF h9
 refine kH H (aP h9 rfl (aP h9 rfl (Pf h9 rfl (Rm rfl (aP rfl rfl (Pf rfl rfl (aj K2 rfl ?_)))))));clear H K2;intro a H;refine lr H results13 rfl ?_
 exact Ul
structure xk (but r:List Int):Prop where
 inc:r.Pairwise (· < ·)
 rng:∀ x∈r,1<=x∧x<=1000
 len:r.length<=40
 dis:∀ x∈r,x∉but
theorem xk.nil (but:List Int):xk but []:=⟨List.Pairwise.nil,fun _ h=>(by cases h),by decide,fun _ h=>(by cases h)⟩
theorem xk.snoc {but r:List Int} {n:Int} (h:xk but r) (h1:1<=n∧n<=1000) (h2:∀ x∈r,x < n) (h3:r.length < 40) (h4:n∉but):xk but (r++[n]):=by
 refine ⟨List.pairwise_append.2 ⟨h.inc,List.pairwise_singleton _ _,fun x hx y hy=>by rw [pG.1 hy];exact h2 x hx⟩,fun x hx=>?_,by rw [iw,List.length_singleton];omega,fun x hx=>?_⟩
 ·rcases jA.1 hx with hx|hx
  ·exact h.rng x hx
  rw [pG.1 hx];exact h1
 rcases jA.1 hx with hx|hx
 ·exact h.dis x hx
 rw [pG.1 hx];exact h4
theorem awi {m:List Int} {n:Nat} (h:∀ x∈m,x < (n:Int)):∀ x∈m++[(n:Int)],x < ((n+1:Nat):Int):=fun x hx=>by
 rcases jA.1 hx with hx|hx
 ·have:=h x hx;omega
 rw [pG.1 hx];omega
theorem aix {b:List Int} {i:Nat} {n:Int} (hi:i < b.length) (h:∀ x∈b.take i,x≠n) (h2:b[i]≠n):∀ x∈b.take (i+1),x≠n:=fun x hx=>by
 rw [kg hi] at hx
 rcases jA.1 hx with hx|hx
 ·exact h x hx
 rw [pG.1 hx];exact h2
def EF (G:GH) (L:OL) (B:Option Addr) (but:List Int):Prop:=∀ i (hi:i < but.length),∃ b o,B=some ⟨b,o,none⟩∧(aH G b (o+i*1)=some (vi but[i])∨∃ cs,(b,.cells cs 3 (0,0))∈L∧cs[o+i*1]?=some (vi but[i]))
theorem EF.of {G:GH} {L:OL} {but:List Int} {B:Option Addr} {n c:Nat} (hv:au G (.sl 1 (but.map fun k=>[li k])) (.slice B n c)):EF G L B but:=fun i hi=>by
 obtain ⟨b,o,e,h⟩:=zV (f:=fun q=>q) hv hi;exact ⟨b,o,e,.inl (by rw [Nat.mul_one];exact h)⟩
set_option maxHeartbeats 2000000 in
theorem Q6 (G:GH) (w0:World) (L:OL) (hO:gH G L w0) (l but:List Int) (u:ah) (B:Option Addr) (e:Nat) (hu:au G (.sl 1 (l.map fun k=>[li k])) u) (hv:EF G L B but) (hl:l.length<=4294967296) (hb:but.length<=4294967296) :
  Calls prog 26 #[u,.slice B but.length e] w0 (fU w0 G L fun u G' L'=>L'=L∧∃ r:List Int,xk but r∧au G' (.sl 1 (r.map fun k=>[li k])) u):=by
 obtain ⟨A,c,rfl,ha1,ha2,-⟩:=hu.slice;rw [bQ] at *
 have hml:4294967297<=maxLen:=by decide
 refine jc (N:=59) (T:=[(0,_),(1,_)]) func26 rfl ntmps26 rfl rfl hO ?_;intro a H;refine kP H (SR fun _ K1=>aj K1 rfl (SR fun _ K2=>aj K2 rfl (SQ fun _ K3=>SR fun _ K4=>aj K4 rfl (SB ?_))));clear H K1 K2 K4;intro a H;skip;refine eX (ι:=Nat × ah × List Int × List ah × OL) (Tc:=[(0,_),(1,_)]) (Lc:=[]) (fun gh=>[(5,gh.2.1),(6,vi gh.1)]) (fun gh=>[]++(L++gh.2.2.2.2)) (fun gh=>G) (fun gh=>1<=gh.1∧gh.1<=1001∧cu 3 1 gh.2.1 gh.2.2.1.length gh.2.2.2.1 gh.2.2.2.2∧bZ G 1 (gh.2.2.1.map fun k=>[li k]) gh.2.2.2.1∧xk but gh.2.2.1∧∀ x∈gh.2.2.1,x < gh.1) (fun gh=>1001 - gh.1) ((1,.slice none 0 0,[],[],[])) (by exact (H.cast (ig _).symm).sub ⟨rfl,rfl,rfl,rfl,aB⟩) ?_ ?_
 ·exact ⟨by omega,by omega,cu.nil,bZ.nil,xk.nil _,fun _ h=>(by cases h)⟩
 clear H;rintro ⟨n,v,m,xs,Lo⟩ a w hI H;dsimp only at hI H;obtain ⟨hn1,hn2,hrw,fG,hok,hlt⟩:=hI;have hol:=hok.len;obtain ⟨vA,vc,rfl,-,-⟩:=hrw.shape;dsimp only [lca,bJ] at H;refine kP H (SQ fun _ K5=>SR fun _ K6=>Rm rfl (Rc rfl (Rm rfl (Sp 12 rfl ?_ ?_)))) <;> clear H
 ·intro h12 a H
  try have qD:=dT h12
  refine kH H (YM h12 rfl (YL iG h12 rfl (YC h12 rfl (Pt h12 rfl (Kz K6 (Cd rfl ?_ ?_)))))) <;> clear H K6
  ·intro h16 a H
   try have p16:=dT h16
   refine kP H (Kc K5 (SQ fun _ K7=>SB (SR fun _ K8=>aj K8 rfl ?_)));clear H K5 K8;intro a H;refine tT (ι:=Bool) (Tc:=[(0,_),(1,_),(5,_),(6,_)]) (Lc:=[]) (fun gh=>[(7,.bool gh)]) (fun gh=>[]++(L++Lo)) (fun gh=>G) (fun gh=>True) (by exact H.sub ⟨rfl,rfl,rfl,rfl,aB⟩) ?_ ?_
   ·skip;refine kP H (SR fun _ K9=>aj K9 rfl (SB ?_));clear H K9;intro a H;skip;refine eX (ι:=Nat × Bool) (Tc:=[(0,_),(1,_),(5,_),(6,_)]) (Lc:=[]) (fun gh=>[(7,.bool gh.2),(8,vi gh.1)]) (fun gh=>[]++(L++Lo)) (fun gh=>G) (fun gh=>gh.1<=l.length) (fun gh=>l.length - gh.1) ((0,false)) (by exact H.sub ⟨rfl,rfl,rfl,rfl,rfl,rfl,aB⟩) ?_ ?_
    ·exact kE _
    clear H;rintro ⟨i,is⟩ a w hI H;dsimp only at hI H;have hi:=hI;dsimp only [lca,bJ] at H;refine kP H (SQ fun _ aW=>SR fun _ bM=>Rm rfl (Rm rfl (Rl iG rfl (Rc rfl (Rm rfl (Sp 23 rfl ?_ ?_)))))) <;> clear H
    ·intro h23 a H
     try have Bq:=dT h23
     refine kH H (YM h23 rfl (YC h23 rfl (Pt h23 rfl (Kz bM (Cd rfl ?_ ?_))))) <;> clear H bM
     ·intro jC a H
      try have p26:=dT jC
      have hi2:i < l.length:=by omega
      obtain ⟨bl,ol,rfl,hrow⟩:=zV (f:=fun q=>q) hu hi2
      replace hrow:aH G bl (ol+i*1)=some (vi l[i]):=by rw [Nat.mul_one];exact hrow
      refine kP H (Kc aW (SQ fun _ bU=>SB (SC (Rm rfl (Rm rfl (Sp 30 rfl ?_ ?_)))))) <;> clear H aW
      ·intro mG a H
       try have p30:=dT mG
       refine kH H (bB mG rfl (bB mG rfl (Pt mG rfl (aX bU rfl (SC (Rm rfl (Rd rfl (Ra rfl ?_))))))));clear H bU;intro a H;refine aD ?_;refine dG ((i+1,_)) (by exact H.sub ⟨rfl,rfl,rfl,rfl,rfl,rfl,aB⟩) ?_
       try dsimp only
       omega
      intro mG a H
      try have p30:=dF mG
      refine kH H (YM mG rfl (YM mG rfl (YI iG aC mG rfl rfl (YR aC mG rfl hrow (YM mG rfl (YC mG rfl (Pf mG rfl (aX bU rfl (SC (Rm rfl (Rd rfl (Ra rfl ?_))))))))))));clear H bU;intro a H;refine aD ?_;refine dG ((i+1,_)) (by exact H.sub ⟨rfl,rfl,rfl,rfl,rfl,rfl,aB⟩) ?_
      try dsimp only
      omega
     intro jC a H
     refine dP ?_;refine ⟨_,by exact H.sub ⟨rfl,rfl,rfl,rfl,rfl,aB⟩,?_⟩
     trivial
    intro h23 a H
    refine kH H (aP h23 rfl (Pf h23 rfl (Kz bM (Cf rfl rfl ?_))));clear H bM;intro a H;refine dP ?_;refine ⟨_,by exact H.sub ⟨rfl,rfl,rfl,rfl,rfl,aB⟩,?_⟩
    trivial
   clear H;intro is a w hI H;skip;dsimp only [lca,bJ] at H;refine kP H (SQ fun _ bY=>SR fun _ cZ=>aj cZ rfl (SB ?_));clear H cZ;intro a H;skip;refine eX (ι:=Nat × Bool) (Tc:=[(0,_),(1,_),(5,_),(6,_)]) (Lc:=[]) (fun gh=>[(7,.bool gh.2),(9,vi gh.1)]) (fun gh=>[]++(L++Lo)) (fun gh=>G) (fun gh=>gh.1<=but.length∧(gh.2=true->∀ x∈but.take gh.1,x≠n)) (fun gh=>but.length - gh.1) ((0,is)) (by exact H.sub ⟨rfl,rfl,rfl,rfl,rfl,rfl,aB⟩) ?_ ?_
   ·exact ⟨kE _,fun _ x h=>(by cases h)⟩
   clear H;rintro ⟨i,is⟩ a w hI H;dsimp only at hI H;obtain ⟨hi,hnx⟩:=hI;dsimp only [lca,bJ] at H;refine kP H (SQ fun _ dQ=>SR fun _ dR=>Rm rfl (Rm rfl (Rl iG rfl (Rc rfl (Kz dR (Cd rfl ?_ ?_)))))) <;> clear H dR
   ·intro wJ a H
    try have p41:=dT wJ
    have hi2:i < but.length:=by omega
    obtain ⟨bl,ol,rfl,hrow⟩:=hv i hi2;refine kP H (Kc dQ (SQ fun _ dK=>SB (SC (Rm rfl (Rm rfl (Sp 45 rfl ?_ ?_)))))) <;> clear H dQ
    ·intro h45 a H
     try have p45:=dT h45
     refine kH H (YM h45 rfl (YM h45 rfl (YI iG aC h45 rfl rfl ?_)));clear H;intro a H
     refine qE aC H (wg H rfl rfl h45) rfl (by
      rcases hrow with hrow|⟨cs,hm,hc⟩
      ·exact H.hp.aH hrow
      exact H.hp.zW (List.mem_append_left _ hm) hc) rfl ?_;clear H;intro a H
     refine kH H (YM h45 rfl (YC h45 rfl (Pt h45 rfl (aX dK rfl (SC (Rm rfl (Rd rfl (Ra rfl ?_))))))));clear H dK;intro a H;refine aD ?_;refine dG ((i+1,_)) (by exact H.sub ⟨rfl,rfl,rfl,rfl,rfl,rfl,aB⟩) ?_
     try dsimp only
     first
     | exact ⟨by omega,fun h=>by cases h⟩
     | exact ⟨by omega,fun h=>aix hi2 (hnx (by assumption)) (pI h)⟩
    intro h45 a H
    try have p45:=dF h45
    refine kH H (bB h45 rfl (bB h45 rfl (Pf h45 rfl (aX dK rfl (SC (Rm rfl (Rd rfl (Ra rfl ?_))))))));clear H dK;intro a H;refine aD ?_;refine dG ((i+1,_)) (by exact H.sub ⟨rfl,rfl,rfl,rfl,rfl,rfl,aB⟩) ?_
    try dsimp only
    first
    | exact ⟨by omega,fun h=>by cases h⟩
    | exact ⟨by omega,fun h=>aix hi2 (hnx (by assumption)) (pI h)⟩
   intro wJ a H
   try have p41:=dF wJ
   obtain rfl:i=but.length:=by omega
   rw [zC] at hnx;have hnb:is=true->(n:Int)∉but:=fun h hm=>hnx h _ hm rfl;refine dP ?_;refine bY _ _ ?_;clear bY;refine kP H (SR fun _ dX=>Rm rfl (Kz dX (Cd rfl ?_ ?_))) <;> clear H dX
   ·intro DK a H
    try have p53:=dT DK
    refine kP H (SC (Rm rfl (Rm rfl ?_)));clear H;intro a H;refine iT iG aC [_] [_] H wn rfl rfl rfl rfl rfl (by intro i q h;match i,h with|0,h=>exact h|n+1,h=>simp at h) rfl rfl ?_;clear H;intro b56 a w aB3 H;refine oh (Li:=[_]++L) (Lo:=Lo) (news:=[vi n]) iG aC rfl rfl (St.un (A:=[_]) H) wn rfl rfl hrw rfl (H.hp.dx 0 rfl rfl) rfl (by omega) (by omega) rfl ?_;clear H;intro v57 alf a w auG H;have H:=H.assoc;dsimp only [lca,bJ] at H;refine kH H (aX K7 rfl (SC (Rm rfl (Rd rfl (Ra rfl ?_)))));clear H K7;intro a H;refine aD ?_;refine dG ((n+1,v57,m++[(n:Int)],xs++[vi n],alf)) (by exact (H.eD (Pl:=[_]) (dN:=[]) [] (by decide) rfl).sub ⟨rfl,rfl,rfl,rfl,aB⟩) ?_
    (try dsimp only);exact ⟨by omega,by omega,by rw [iw];exact auG,by rw [kF];exact fG.snoc (avF _ _) rfl,hok.snoc ⟨by omega,by omega⟩ hlt (by omega) (hnb (by simpa using DK)),awi hlt⟩
   intro DK a H
   try have p53:=dF DK
   refine kP H (Kc K7 (SC (Rm rfl (Rd rfl (Ra rfl ?_)))));clear H K7;intro a H;refine aD ?_;refine dG ((n+1,_,m,xs,Lo)) (by exact H.sub ⟨rfl,rfl,rfl,rfl,aB⟩) ?_
   (try dsimp only);exact ⟨by omega,by omega,hrw,fG,hok,fun x hx=>by have:=hlt x hx;omega⟩
  intro h16 a H
  refine dP ?_;refine K3 _ _ ?_;clear K3;refine kP H (SR fun _ fM=>Rm rfl (aj fM rfl ?_));clear H fM;intro a H;refine eO ?_;obtain ⟨G',hm,hrep,H⟩:=H.qp (Li:=L) hrw (rows:=m.map fun k=>[li k]) (by simp) fG;refine lv H results26 rfl ?_;exact H.hp.fQ ⟨rfl,m,hok,hrep⟩
 intro h12 a H
 refine kH H (bB h12 rfl (Pf h12 rfl (Kz K6 (Cf rfl rfl ?_))));clear H K6;intro a H;refine dP ?_;refine K3 _ _ ?_;clear K3;refine kP H (SR fun _ eP=>Rm rfl (aj eP rfl ?_));clear H eP;intro a H;refine eO ?_;obtain ⟨G',hm,hrep,H⟩:=H.qp (Li:=L) hrw (rows:=m.map fun k=>[li k]) (by simp) fG;refine lv H results26 rfl ?_;exact H.hp.fQ ⟨rfl,m,hok,hrep⟩

section
section
variable {N:Nat} {D:List Deferred} {w0:World} {F:Nat->Prop} {G0 G:GH} {L:List (Nat × Obj)} {T:List (Nat × ah)}
variable {r:Option Nat} {P:Program} {ops:Array Oper} {Q:Exit->Act->World->Prop} {rest:List Oper} {a:Act} {w:World}
variable {d:Nat} {ty:TypeId} {pos:String} {aN:Array Edge} {g:Option (Nat × Bool)}
end
end

section
section
variable {N:Nat} {D:List Deferred} {w0:World} {F:Nat->Prop} {G0 G G1 G2:GH} {L L1 L2:OL} {T Xs:List (Nat × ah)}
variable {r:Option Nat} {P:Program} {Q:Exit->Act->World->Prop} {l:List Oper} {a a':Act} {w w':World}
end
end

theorem Vp:aQ 12:=aR func12 rfl
theorem aoI:aQ 13:=aR func13 rfl

section
variable {acc rej acc' aCM:Int->Bool}
def Left (C:aZ) (acc rej:Int->Bool) (h:dJ):Prop:=∀ q∈refs h,q=0∨(q∈C.kM∧acc q=false∧rej q=false)
theorem PO {C:aZ} {e:Int} {h:dJ} (hE:iD C e h=0) (hg:¬ lS acc rej h):Left C acc rej (iE acc rej h):=by
 have hh:=(H6 _ _ _).1 hE;intro q hq
 unfold refs at hq
 rcases fV.1 hq with rfl|hq
 ·show (if kW acc h then 0 else h.marks.ins)=0∨_
  by_cases hi:kW acc h
  ·rw [aG hi];exact .inl rfl
  show _∨((if kW acc h then 0 else h.marks.ins)∈_∧acc (if kW acc h then 0 else h.marks.ins)=false∧rej (if kW acc h then 0 else h.marks.ins)=false)
  rw [av hi]
  by_cases h0:h.marks.ins=0
  ·exact .inl h0
  refine .inr ⟨hh.mrk.1 h0,?_,?_⟩
  ·cases ha:acc h.marks.ins
   ·rfl
   exact absurd ⟨h0,ha⟩ hi
  cases ha:rej h.marks.ins
  ·rfl
  exact absurd (.inl ⟨h0,ha⟩) hg
 rcases jA.1 hq with hq|hq
 ·obtain ⟨x,hx,rfl⟩:=List.mem_map.1 hq;have hx2:x∈h.marks.bE.filter fun x=>!rej x.rev:=hx;rw [List.mem_filter] at hx2;refine .inr ⟨(hh.dl.1 x hx2.1).1,?_,by simpa using hx2.2⟩
  cases ha:acc x.rev
  ·rfl
  exact absurd (.inr ⟨x,hx2.1,ha⟩) hg
 obtain ⟨y,hy,rfl⟩:=List.mem_map.1 hq;obtain ⟨z,hz,e,h1,h2⟩:=(MG acc rej hh).2 y hy;rw [<- e];exact .inr ⟨(hh.ly.1 z hz).1,h2,h1⟩
theorem afR:∀ a b:List ak,ko (a++b)=ko a++ko b
 | [],b=>by simp [ko]
 | x :: a,b=>by simp [ko,afR a b]
theorem agb:∀ a b:List aS,pV (a++b)=pV a++pV b
 | [],b=>by simp [pV]
 | x :: a,b=>by simp [pV,agb a b]
theorem afO:∀ a b:List aV,qO (a++b)=qO a++qO b
 | [],b=>by simp [qO]
 | x :: a,b=>by simp [qO,afO a b]
theorem Um {p:Prop} (h:p:=by
 exact (jA.1 hh).elim (a h0) (b h0)):p:=h
mutual
theorem ayw (C:aZ) (body note:Bool) (t:Int):∀ x:ak,lW C body note t x->∀ h∈ko (mU acc rej x),Left C acc rej h
 | .mk k c i tx h f r,hx,h0,hh=>by
  have hf:=RZ C false true t f;have hr:=aja C note (t+1) r;rw [lW] at hx;obtain ⟨-,-,h3,h4,h5⟩:=hx;rw [mU] at hh
  split at hh
  ·rw [ko] at hh;cases hh
  rename_i hg
  have hd:=PO h3 hg
  have one:∀ y:ak,ko [y]=AX y:=fun y=>by rw [ko,ko,ig]
  split at hh
  ·rename_i h6
   rw [one,AX,aG h6,av (show ¬ k=7 by omega),ig] at hh
   rcases fV.1 hh with rfl|hh
   ·exact hd
   exact hf (h4 h6) h0 hh
  rename_i h6
  split at hh
  ·rename_i h7
   split at hh
   ·rw [ko] at hh;cases hh
   rw [one,AX,av h6,aG h7,jR] at hh
   rcases fV.1 hh with rfl|hh
   ·exact hd
   exact hr (h5 h7).2 h0 hh
  rename_i h7
  rw [one,AX,av h6,av h7,jR] at hh;rw [pG.1 hh];exact hd
theorem ayx (C:aZ) (note:Bool) (t:Int):∀ x:aS,qd C note t x->∀ h∈pV (oL acc rej x),Left C acc rej h
 | .mk h cs,hx,h0,hh=>by
  have hc:=aiZ C note t cs;rw [qd] at hx;rw [oL] at hh
  split at hh
  ·rw [pV] at hh;cases hh
  rename_i hg
  split at hh
  ·rw [pV] at hh;cases hh
  rw [pV,pV,ig,EX] at hh
  rcases fV.1 hh with rfl|hh
  ·exact PO (R5.1 hx.1).1 hg
  exact hc hx.2 h0 hh
theorem ayv (C:aZ) (note:Bool) (t:Int):∀ x:aV,qb C note t x->∀ h∈qO (oV acc rej x),Left C acc rej h
 | .mk i h f,hx,h0,hh=>by
  have hf:=RZ C false note t f;rw [qb] at hx;rw [oV] at hh
  split at hh
  ·rw [qO] at hh;cases hh
  rename_i hg
  rw [qO,qO,ig,EU] at hh
  rcases fV.1 hh with rfl|hh
  ·exact PO hx.1 hg
  exact hf hx.2 h0 hh
theorem RZ (C:aZ) (body note:Bool) (t:Int):∀ l:List ak,iR C body note t l->∀ h∈ko (dS acc rej l),Left C acc rej h
 | [],_,h0,hh=>by rw [dS,ko] at hh;cases hh
 | x :: l,h,h0,hh=>by
  rw [iR] at h;have a:=ayw C body note t x h.1;have b:=RZ C body note t l h.2;rw [dS,afR] at hh;exact Um
theorem aja (C:aZ) (note:Bool) (t:Int):∀ l:List aS,kK C note t l->∀ h∈pV (gN acc rej l),Left C acc rej h
 | [],_,h0,hh=>by rw [gN,pV] at hh;cases hh
 | x :: l,h,h0,hh=>by
  rw [kK] at h;have a:=ayx C note t x h.1;have b:=aja C note t l h.2;rw [gN,agb] at hh;exact Um
theorem aiZ (C:aZ) (note:Bool) (t:Int):∀ l:List aV,lI C note t l->∀ h∈qO (gD acc rej l),Left C acc rej h
 | [],_,h0,hh=>by rw [gD,qO] at hh;cases hh
 | x :: l,h,h0,hh=>by
  rw [lI] at h;have a:=ayv C note t x h.1;have b:=aiZ C note t l h.2;rw [gD,afO] at hh;exact Um
end
def Oi (acc rej:Int->Bool) (r:List bW):List bW:=r.filter fun x=>!acc x.id && !rej x.id
theorem amd {p:Prop} (h:p:=by
 exact g3 (.inr (by have:=List.length_pos_of_mem hx;omega))):p:=h
theorem abk {p:Prop} (h:p:=by
 unfold uW at g3
 rw [vE] at g3;rintro (⟨a,-⟩|⟨x,hx,-⟩)
 ·exact g3 (.inl (.inl a))
 exact amd):p:=h
theorem ayF {d:gG} (h:iL d=0):iL ⟨dS acc rej d.flow,eU acc rej d.fin,Oi acc rej d.revs,d.kY⟩=0:=by
 obtain ⟨g1,⟨g2,g3⟩,g4,-,-⟩:=(zJ _).1 h;obtain ⟨h1,h2,h3,h4,h5⟩:=(zJ _).1 (R7 (acc:=acc) (rej:=rej) h);have hg:=ajo h1.2
 have h0:(0:Int)∉(kL acc rej d).kT.kM:=by
  exact abm
 have hin:∀ q,(q=0∨(q∈d.kT.kM∧acc q=false∧rej q=false))->q≠0->q∈(Oi acc rej d.revs).map bW.id:=by
  intro q hq hn;obtain ⟨a,b,c⟩:=hq.resolve_left hn;obtain ⟨x,hx,rfl⟩:=List.mem_map.1 (show q∈d.revs.map bW.id from a);exact List.mem_map.2 ⟨x,List.mem_filter.2 ⟨hx,by simp [b,c]⟩,rfl⟩
 have hgo:¬ lS acc rej d.fin:=by
  exact abk
 refine (zJ _).2 ⟨⟨h1.1,afL (hg.sub List.filter_sublist)⟩,⟨M7 (C:=(kL acc rej d).kT) (C':=bG [] d.kY.styles d.kY.lists (Oi acc rej d.revs)) rfl rfl h0 (fun q hq hn=>hin q ?_ hn) h2.1,h2.2⟩,NW (C:=(kL acc rej d).kT) (C':=bG [] d.kY.styles d.kY.lists (Oi acc rej d.revs)) rfl rfl h0 true false 0 _ (fun x hx q hq hn=>hin q (RZ d.kT true false 0 _ g4 x hx q hq) hn) h3,h4,h5⟩;have hl:=PO g2 hgo;rw [show eU acc rej d.fin=iE acc rej d.fin from av hgo] at hq;exact hl q hq
theorem akn {d:gG} (h:iL d=0) {q:Int} (hq:q∈lM (nZ (kL acc rej d))):q∈(Oi acc rej d.revs).map bW.id:=by
 have h1:=(Rt (ayF (acc:=acc) (rej:=rej) h)).1
 unfold lM at hq
 rw [List.mem_filter,qY,OZ] at hq;obtain ⟨hq|hq,hn⟩:=hq
 ·cases hq
 exact (RU h1 q hq).resolve_left hn
theorem aAU (d:gG):lM (nD d)=lM (nZ d):=rfl
end

section
abbrev lq:=Int × Bool
def II (k:Int):lq->List (Int × lq)->List bS
 | _,[]=>[]
 | s,(r,t) :: p=>⟨r,k,s.1,s.2⟩ :: II k t p
def GV:lq->List (Int × lq)->lq
 | s,[]=>s
 | _,(_,t) :: p=>GV t p
def Ed:List bS->lq->lq
 | [],now=>now
 | y :: _,_=>(y.before,y.had)
def vo:List bS->lq->List (Int × lq)
 | [],_=>[]
 | y :: r,now=>(y.rev,Ed r now) :: vo r now
def dA (acc:Int->Bool):lq->List (Int × lq)->lq × List (Int × lq)
 | s,[]=>(s,[])
 | s,(r,t) :: p=>if ((r,t) :: p).any (fun q=>acc q.1)=true then dA acc t p else (s,(r,t) :: p)
def wB (acc rej:Int->Bool) (q:lq × List (Int × lq)):lq × List (Int × lq):=((dA acc q.1 q.2).1,(dA acc q.1 q.2).2.filter fun x=>!rej x.1)
theorem aiO (k:Int):∀ (p:List (Int × lq)) (s:lq),Ed (II k s p) (GV s p)=s
 | [],_=>rfl
 | (_,_) :: _,_=>rfl
theorem aiP (k:Int):∀ (p:List (Int × lq)) (s:lq),vo (II k s p) (GV s p)=p
 | [],_=>rfl
 | (r,t) :: p,s=>by
  rw [II,GV,vo,aiO,aiP]
theorem MB {acc:Int->Bool} {s:lq} {p:List (Int × lq)} (h:p.any (fun q=>acc q.1)=false):dA acc s p=(s,p):=by
 cases p with
 | nil=>rfl
 | cons x p=>rw [dA,av (by rw [h];decide)]
theorem anR {acc:Int->Bool} {s t:lq} {p:List (Int × lq)} (h:p.any (fun q=>acc q.1)=true):dA acc s p=dA acc t p:=by
 cases p with
 | nil=>cases h
 | cons x p=>rw [dA,dA,aG h,aG h]
def fK (f g:Int->Bool):Int->Bool:=fun q=>f q || g q
variable {acc rej dD eG eY gY:Int->Bool}
theorem Vj (x2:∀ q,eG q=true->eY q=false):∀ (p:List (Int × lq)) (s:lq),p.any (fun q=>dD q.1)=false ->
  dA eY s (p.filter fun x=>!eG x.1)=((dA (fK dD eY) s p).1,(dA (fK dD eY) s p).2.filter fun x=>!eG x.1)
 | [],_,_=>rfl
 | (r,t) :: p,s,h=>by
  rw [List.any_cons,Bool.or_eq_false_iff] at h;obtain ⟨h1,h2⟩:=h;dsimp only at h1;have ihs:=Vj x2 p s h2;have iht:=Vj x2 p t h2
  have hor:fK dD eY r=eY r:=by unfold fK;rw [h1,Bool.false_or]
  have hany:(p.filter fun x=>!eG x.1).any (fun q=>eY q.1)=p.any fun q=>fK dD eY q.1:=by
   rw [Ce,List.any_eq_true,List.any_eq_true]
   constructor
   ·rintro ⟨x,hx,ha⟩;exact ⟨x,(List.mem_filter.1 hx).1,by unfold fK;rw [ha,Bool.or_true]⟩
   rintro ⟨x,hx,ha⟩
   have h3:dD x.1=false:=by
    cases e:dD x.1
    ·rfl
    rw [List.any_eq_false] at h2;exact absurd e (h2 x hx)
   unfold fK at ha
   rw [h3,Bool.false_or] at ha;refine ⟨x,List.mem_filter.2 ⟨hx,?_⟩,ha⟩
   cases e:eG x.1
   ·rfl
   rw [x2 _ e] at ha;cases ha
  by_cases hr:eG r=true
  ·rw [List.filter_cons_of_neg (by simp [hr])];have hac:eY r=false:=x2 _ hr
   by_cases ha:p.any (fun q=>fK dD eY q.1)=true
   ·have e:dA (fK dD eY) s ((r,t) :: p)=dA (fK dD eY) t p:=by rw [dA,aG (by rw [List.any_cons,ha,Bool.or_true])]
    rw [e,anR (t:=t) (by rw [hany];exact ha),iht]
   have ha':p.any (fun q=>fK dD eY q.1)=false:=by rw [Bool.not_eq_true] at ha;exact ha
   have e:dA (fK dD eY) s ((r,t) :: p)=(s,(r,t) :: p):=MB (by rw [List.any_cons,ha',hor,hac];rfl);rw [e,ihs,MB ha'];dsimp only;rw [List.filter_cons_of_neg (by simp [hr])]
  have hr':eG r=false:=by simpa using hr
  rw [List.filter_cons_of_pos (by simp [hr'])]
  have hc:((r,t) :: p.filter fun x=>!eG x.1).any (fun q=>eY q.1)=((r,t) :: p).any fun q=>fK dD eY q.1:=by
   rw [List.any_cons,List.any_cons,hany,hor]
  by_cases ha:((r,t) :: p).any (fun q=>fK dD eY q.1)=true
  ·rw [dA,aG (by rw [hc];exact ha),dA,aG ha,iht]
  rw [dA,av (by rw [hc];exact ha),dA,av ha];dsimp only;rw [List.filter_cons_of_pos (by simp [hr'])]
theorem aee (x2:∀ q,eG q=true->eY q=false):∀ (p:List (Int × lq)) (s:lq),wB eY gY (wB dD eG (s,p))=wB (fK dD eY) (fK eG gY) (s,p)
 | [],_=>rfl
 | (r,t) :: p,s=>by
  by_cases ha:((r,t) :: p).any (fun q=>dD q.1)=true
  ·have ih:=aee x2 p t
   have e1:wB dD eG (s,(r,t) :: p)=wB dD eG (t,p):=by
    unfold wB;dsimp only;rw [dA,aG ha]
   have e2:wB (fK dD eY) (fK eG gY) (s,(r,t) :: p)=wB (fK dD eY) (fK eG gY) (t,p):=by
    unfold wB;dsimp only
    rw [dA,aG];rw [List.any_eq_true] at ha |-;obtain ⟨x,hx,hq⟩:=ha;exact ⟨x,hx,by unfold fK;rw [hq,Bool.true_or]⟩
   rw [e1,e2,ih]
  have ha':((r,t) :: p).any (fun q=>dD q.1)=false:=by rw [Bool.not_eq_true] at ha;exact ha
  unfold wB
  dsimp only;rw [MB ha'];dsimp only;rw [Vj x2 _ _ ha'];dsimp only;rw [List.filter_filter];refine dh (Prod.mk _) (List.filter_congr fun x _=>?_)
  unfold fK
  cases eG x.1 <;> cases gY x.1 <;> rfl
theorem Za {props:List aL} {key:Int}:∀ {l:List bS} {k:Nat},k<=l.length->(qg props key l).getD k (0,false)=Ed (l.drop k) (kU props key)
 | [],k,h=>by
  have:k=0:=by simpa using h
  subst this;rfl
 | y :: r,0,_=>rfl
 | y :: r,k+1,h=>by
  have ih:=Za (props:=props) (key:=key) (l:=r) (k:=k) (by simpa using h);rw [xB,<- ih];rfl
theorem ahQ {props:List aL} {key:Int} {full:List bS}:∀ (l:List bS) (k:Nat) (now:lq),full.drop k=l->k<=full.length->(∀ y∈l,y.key=key) ->
  um rej (qg props key full) l k now=(II key now ((vo l (kU props key)).filter fun x=>!rej x.1),GV now ((vo l (kU props key)).filter fun x=>!rej x.1))
 | [],_,now,_,_,_=>by rw [um,vo];rfl
 | y :: r,k,now,hd,hk,hy=>by
  have hlt:k < full.length:=by
   rcases Nat.lt_or_ge k full.length with h|h
   ·exact h
   rw [List.drop_eq_nil_of_le h] at hd;cases hd
  have hd2:full.drop (k+1)=r:=by rw [<- List.drop_drop,hd];rfl
  have ih:=fun now=>ahQ (props:=props) r (k+1) now hd2 (by omega) fun z hz=>hy z (gK _ hz);rw [um,vo]
  by_cases hr:rej y.rev=true
  ·rw [aG hr,ih,List.filter_cons_of_neg (by simp [hr])]
  rw [av hr];dsimp only;rw [ih,List.filter_cons_of_pos (by simpa using hr),Za (by omega),hd2,II,GV,hy y eT]
theorem MX:∀ (l:List bS) (k c:Nat),l.any (fun y=>acc y.rev)=false->jd acc l k c=c
 | [],_,_,_=>by rw [jd]
 | y :: r,k,c,h=>by
  rw [List.any_cons,Bool.or_eq_false_iff] at h;rw [jd,h.1,av (by decide)];exact MX r _ _ h.2
theorem V4:∀ (l:List bS) (k c:Nat),l.any (fun y=>acc y.rev)=true->jd acc l k c=k+jd acc l 0 0
 | [],_,_,h=>by cases h
 | y :: r,k,c,h=>by
  rw [jd,jd]
  by_cases hr:r.any (fun y=>acc y.rev)=true
  ·rw [V4 r (k+1) _ hr,V4 r (0+1) _ hr];omega
  have hr':r.any (fun y=>acc y.rev)=false:=by rw [Bool.not_eq_true] at hr;exact hr
  rw [List.any_cons,hr',Bool.or_false] at h;rw [MX _ _ _ hr',MX _ _ _ hr',aG h,aG h]
theorem S9 (now:lq):∀ l:List bS,(vo l now).any (fun q=>acc q.1)=l.any fun y=>acc y.rev
 | []=>rfl
 | y :: r=>by rw [vo,List.any_cons,List.any_cons,S9 now r]
theorem afH (now:lq):∀ l:List bS,dA acc (Ed l now) (vo l now)=(Ed (l.drop (jd acc l 0 0)) now,vo (l.drop (jd acc l 0 0)) now)
 | []=>rfl
 | y :: r=>by
  have ih:=afH now r
  by_cases hr:r.any (fun y=>acc y.rev)=true
  ·have e:jd acc (y :: r) 0 0=jd acc r 0 0+1:=by rw [jd,V4 _ _ _ hr];omega
   rw [e,xB,<- ih,vo,dA,aG (by rw [List.any_cons,S9,hr,Bool.or_true])]
  have hr':r.any (fun y=>acc y.rev)=false:=by rw [Bool.not_eq_true] at hr;exact hr
  by_cases hy:acc y.rev=true
  ·have e:jd acc (y :: r) 0 0=1:=by rw [jd,MX _ _ _ hr',aG hy]
   rw [e,vo,dA,aG (by rw [List.any_cons,hy,Bool.true_or])];rw [MB (by rw [S9];exact hr')]
   rfl
  have e:jd acc (y :: r) 0 0=0:=by rw [jd,MX _ _ _ hr',av hy]
  rw [e,wu];exact MB (by rw [S9,List.any_cons,hr',Bool.or_false];simpa using hy)
theorem V8 {props:List aL} {key:Int} {l:List bS} (h:∀ y∈l,y.key=key) :
  lZ acc rej props key l=(II key (wB acc rej (Ed l (kU props key),vo l (kU props key))).1 (wB acc rej (Ed l (kU props key),vo l (kU props key))).2,GV (wB acc rej (Ed l (kU props key),vo l (kU props key))).1 (wB acc rej (Ed l (kU props key),vo l (kU props key))).2):=by
 have hle:jd acc l 0 0<=l.length:=by have:=afG acc l 0 0 (eu _);omega
 unfold lZ wB
 dsimp only;rw [afH,Za hle,ahQ _ _ _ rfl hle fun y hy=>h y (List.mem_of_mem_drop hy)]
def Am (l:List aL):Prop:=l.Pairwise fun x y=>x.key < y.key
theorem get_some {l:List aL} (hs:Am l) {k v:Int} (h:(⟨k,v⟩:aL)∈l):kU l k=(v,true):=by
 have hh:oI (l.map aL.key) k=true:=by
  rw [J4 (List.pairwise_map.2 (hs.imp fun h=>Int.le_of_lt h)),qY];exact List.mem_map.2 ⟨_,h,rfl⟩
 obtain ⟨h1,h2⟩:=J5 hh
 unfold kU
 rw [aG hh,List.getD_eq_getElem?_getD,dV h1,Option.getD_some];obtain ⟨j,hj,e⟩:=List.getElem_of_mem h
 have hij:gM (l.map aL.key) k=j:=by
  rcases Nat.lt_trichotomy (gM (l.map aL.key) k) j with h3|h3|h3
  ·have:=List.pairwise_iff_getElem.1 hs _ _ h1 hj h3;rw [h2,e] at this;exact absurd this (Int.lt_irrefl _)
  ·exact h3
  have:=List.pairwise_iff_getElem.1 hs _ _ hj h1 h3;rw [h2,e] at this;exact absurd this (Int.lt_irrefl _)
 have e2:l[gM (l.map aL.key) k]=⟨k,v⟩:=by
  rw [<- e];congr 1
 rw [e2]
theorem get_none {l:List aL} (hs:Am l) {k:Int} (h:∀ p∈l,p.key≠k):kU l k=(0,false):=by
 unfold kU
 rw [av];intro hh;obtain ⟨h1,h2⟩:=J5 hh;exact h _ (jB h1) h2
theorem get_mem {l:List aL} (hs:Am l) {k v:Int} (h:kU l k=(v,true)):(⟨k,v⟩:aL)∈l:=by
 by_cases hp:∃ p∈l,p.key=k
 ·obtain ⟨⟨k',v'⟩,hm,e⟩:=hp;dsimp only at e;subst e;rw [get_some hs hm] at h
  injection h with h1 h2
  rw [<- h1];exact hm
 rw [get_none hs fun p hpm e=>hp ⟨p,hpm,e⟩] at h
 injection h with _ h2
 cases h2
theorem aiN {l:List aL} (hs:Am l) (p:aL):p∈l↔kU l p.key=(p.value,true):=⟨fun h=>get_some hs h,fun h=>get_mem hs h⟩
theorem axK {l m:List aL} (hl:Am l) (hm:Am m) (h:∀ k,kU l k=kU m k):l=m:=by
 have hmem:∀ p,p∈l↔p∈m:=fun p=>by rw [aiN hl,aiN hm,h]
 clear h
 induction l generalizing m with
 | nil =>
  cases m with
  | nil=>rfl
  | cons y m=>exact absurd ((hmem y).2 eT) (by simp)
 | cons x l ih =>
  cases m with
  | nil=>exact absurd ((hmem x).1 eT) (by simp)
  | cons y m =>
   obtain ⟨l1,l2⟩:=qm.1 hl;obtain ⟨m1,m2⟩:=qm.1 hm
   have e:x=y:=by
    rcases fV.1 ((hmem x).1 eT) with e|hx
    ·exact e
    rcases fV.1 ((hmem y).2 eT) with e|hy
    ·exact e.symm
    have:=m1 x hx;have:=l1 y hy
    omega
   subst e;rw [ih l2 m2 fun p=>?_]
   constructor
   ·intro hp
    rcases fV.1 ((hmem p).1 (gK _ hp)) with rfl|h
    ·exact absurd (l1 p hp) (Int.lt_irrefl _)
    exact h
   intro hp
   rcases fV.1 ((hmem p).2 (gK _ hp)) with rfl|h
   ·exact absurd (m1 p hp) (Int.lt_irrefl _)
   exact h
theorem ajw {l:List aL} (hs:Am l) (k v:Int) (p:aL):p∈Bu l k v↔p=⟨k,v⟩∨(p∈l∧p.key≠k):=by
 unfold Bu
 split
 ·rename_i h
  obtain ⟨h1,h2⟩:=J5 h;rw [List.getD_eq_getElem?_getD,dV h1,Option.getD_some,h2]
  have hne:∀ j (hj:j < l.length),j≠gM (l.map aL.key) k->l[j].key≠k:=fun j hj hn e=>by
   rcases Nat.lt_or_gt_of_ne hn with h3|h3
   ·have:=List.pairwise_iff_getElem.1 hs _ _ hj h1 h3
    omega
   have:=List.pairwise_iff_getElem.1 hs _ _ h1 hj h3
   omega
  constructor
  ·intro hp;obtain ⟨j,hj,e⟩:=List.getElem_of_mem hp;rw [List.length_set] at hj;rw [List.getElem_set] at e
   split at e
   ·exact .inl e.symm
   rename_i hn
   rw [<- e];exact .inr ⟨jB hj,hne j hj fun e=>hn e.symm⟩
  rintro (rfl|⟨hp,hk⟩)
  ·exact List.mem_set (by exact h1) _
  obtain ⟨j,hj,e⟩:=List.getElem_of_mem hp
  have hn:gM (l.map aL.key) k≠j:=fun e2=>by subst e2;rw [e] at h2;exact hk h2
  have:(l.set (gM (l.map aL.key) k) ⟨k,v⟩)[j]'(by rw [List.length_set];exact hj)=p:=by rw [List.getElem_set,av hn,e]
  rw [<- this];exact jB _
 rename_i h
 have hne:∀ p∈l,p.key≠k:=fun p hpm he=>by
  rw [J4 (List.pairwise_map.2 (hs.imp fun h=>Int.le_of_lt h)),qY] at h;exact h (List.mem_map.2 ⟨p,hpm,he⟩)
 rw [jA,fV]
 constructor
 ·rintro (hp|rfl|hp)
  ·exact .inr ⟨List.mem_of_mem_take hp,hne p (List.mem_of_mem_take hp)⟩
  ·exact .inl rfl
  exact .inr ⟨List.mem_of_mem_drop hp,hne p (List.mem_of_mem_drop hp)⟩
 rintro (rfl|⟨hp,-⟩)
 ·exact .inr (.inl rfl)
 rw [<- List.take_append_drop (gM (l.map aL.key) k) l] at hp
 rcases jA.1 hp with hp|hp
 ·exact .inl hp
 exact .inr (.inr hp)
theorem adH {l:List aL} (hs:Am l) (k:Int) (p:aL):p∈Aw l k↔p∈l∧p.key≠k:=by
 unfold Aw
 split
 ·rename_i h
  obtain ⟨h1,h2⟩:=J5 h
  have hsp:l=l.take (gM (l.map aL.key) k)++l[gM (l.map aL.key) k] :: l.drop (gM (l.map aL.key) k+1):=by
   rw [List.getElem_cons_drop,List.take_append_drop]
  have hs2:=hs
  unfold Am at hs2
  rw [hsp,List.pairwise_append,qm] at hs2;obtain ⟨-,⟨b,-⟩,c⟩:=hs2
  constructor
  ·intro hp
   rcases jA.1 hp with hp|hp
   ·have:=c p hp _ eT;exact ⟨List.mem_of_mem_take hp,by omega⟩
   have:=b p hp;exact ⟨List.mem_of_mem_drop hp,by omega⟩
  rintro ⟨hp,hk⟩;rw [hsp] at hp
  rcases jA.1 hp with hp|hp
  ·exact jA.2 (.inl hp)
  rcases fV.1 hp with rfl|hp
  ·exact absurd h2 hk
  exact jA.2 (.inr hp)
 rename_i h
 refine ⟨fun hp=>⟨hp,fun he=>?_⟩,fun hp=>hp.1⟩;rw [J4 (List.pairwise_map.2 (hs.imp fun h=>Int.le_of_lt h)),qY] at h;exact h (List.mem_map.2 ⟨p,hp,he⟩)
theorem arQ {l:List aL} (hs:Am l) {k:Int} {s:lq} (hw:Am (vw l k s)) (h0:s.2=false->s.1=0) (k':Int):kU (vw l k s) k'=if k'=k then s else kU l k':=by
 obtain ⟨v,b⟩:=s
 have other:∀ p:aL,p.key≠k->(p∈vw l k (v,b)↔p∈l):=fun p hp=>by
  unfold vw
  split
  ·rw [ajw hs];exact ⟨fun h=>h.elim (fun e=>absurd (by rw [e]) hp) fun h=>h.1,fun h=>.inr ⟨h,hp⟩⟩
  rw [adH hs];exact ⟨fun h=>h.1,fun h=>⟨h,hp⟩⟩
 by_cases hk:k'=k
 ·subst hk;rw [aG rfl]
  cases b with
  | true =>
   refine get_some hw ?_
   show _∈Bu l k' v
   rw [ajw hs];exact .inl rfl
  | false =>
   have:=h0 rfl;dsimp only at this;subst this;refine get_none hw fun p hp=>?_;have hp:p∈Aw l k':=hp;rw [adH hs] at hp;exact hp.2
 rw [av hk]
 by_cases hp:∃ p∈l,p.key=k'
 ·obtain ⟨⟨k2,v2⟩,hm,e⟩:=hp;dsimp only at e;subst e;rw [get_some hs hm];exact get_some hw ((other _ hk).2 hm)
 rw [get_none hs fun p hpm e=>hp ⟨p,hpm,e⟩];exact get_none hw fun p hpm e=>hp ⟨p,(other p (by rw [e];exact hk)).1 hpm,e⟩
end
section
variable {acc rej dD eG eY gY:Int->Bool}
def nL (k:Int) (l:List bS):List bS:=l.filter fun y=>decide (y.key=k)
theorem ahX (k:Int) (a b:List bS):nL k (a++b)=nL k a++nL k b:=List.filter_append ..
theorem ahW {k:Int} {l:List bS} (h:∀ y∈l,y.key=k):nL k l=l:=List.filter_eq_self.2 fun y hy=>by simpa using h y hy
theorem Rb {k:Int} {l:List bS} (h:∀ y∈l,y.key≠k):nL k l=[]:=List.filter_eq_nil_iff.2 fun y hy=>by simpa using h y hy
theorem X7 {k:Int} {l:List bS}:∀ y∈nL k l,y.key=k:=fun y hy=>by simpa using (List.mem_filter.1 hy).2
def LM (l:List bS):Prop:=l.Pairwise fun x y=>x.key<=y.key
theorem abf {p:Prop} (h:p:=by
 exact List.mem_filter.2 ⟨eT,by simp⟩):p:=h
theorem awl {l m:List bS} (hl:LM l) (hm:LM m) (h:∀ k,nL k l=nL k m):l=m:=by
 induction l generalizing m with
 | nil =>
  cases m with
  | nil=>rfl
  | cons z m =>
   have:=h z.key
   unfold nL at this
   rw [List.filter_cons_of_pos (by simp)] at this
   cases this
 | cons y l ih =>
  cases m with
  | nil =>
   have:=h y.key
   unfold nL at this
   rw [List.filter_cons_of_pos (by simp)] at this
   cases this
  | cons z m =>
   obtain ⟨l1,l2⟩:=qm.1 hl;obtain ⟨m1,m2⟩:=qm.1 hm;have le1:∀ x∈y :: l,y.key<=x.key:=fun x hx=>(fV.1 hx).elim (fun e=>by rw [e];exact Int.le_refl _) (l1 x);have le2:∀ x∈z :: m,z.key<=x.key:=fun x hx=>(fV.1 hx).elim (fun e=>by rw [e];exact Int.le_refl _) (m1 x)
   have a1:z∈nL z.key (y :: l):=by rw [h];exact abf
   have a2:y∈nL y.key (z :: m):=by rw [<- h];exact abf
   have b1:=le1 z (List.mem_filter.1 a1).1;have b2:=le2 y (List.mem_filter.1 a2).1
   have hk:y.key=z.key:=by omega
   have e:=h y.key
   unfold nL at e
   rw [List.filter_cons_of_pos (by simp),List.filter_cons_of_pos (by simp [hk])] at e
   injection e with e1 e2
   subst e1;rw [ih l2 m2 fun k=>?_]
   by_cases hk2:y.key=k
   ·subst hk2;exact e2
   have e3:=h k
   unfold nL at e3
   rwa [List.filter_cons_of_neg (by simpa using hk2),List.filter_cons_of_neg (by simpa using hk2)] at e3
theorem aen {k:Int}:∀ {r:List bS},(∀ z∈r,k<=z.key)->LM r->∀ z∈r.dropWhile (fun z=>decide (z.key=k)),k < z.key
 | [],_,_,z,h=>by simp at h
 | w :: r,h1,h2,z,h=>by
  obtain ⟨p1,p2⟩:=qm.1 h2;rw [List.dropWhile_cons] at h
  by_cases e:w.key=k
  ·rw [aG (by simpa using e)] at h;exact aen (fun z hz=>h1 z (gK _ hz)) p2 z h
  rw [av (by simpa using e)] at h;have:=h1 w eT
  rcases fV.1 h with rfl|h
  ·omega
  have:=p1 z h;omega
theorem afM:∀ (f:Nat) (l:List bS),l.length<=f->LM l->(rE f l).Pairwise fun p q=>p.1 < q.1
 | 0,l,h,_=>by
  have:l=[]:=List.eq_nil_of_length_eq_zero (by omega);subst this;exact List.Pairwise.nil
 | f+1,[],_,_=>List.Pairwise.nil
 | f+1,y :: r,h,hs=>by
  obtain ⟨p1,p2⟩:=qm.1 hs
  have h2:(r.dropWhile fun z=>decide (z.key=y.key)).length<=f:=by
   exact abp
  have hs2:LM (r.dropWhile fun z=>decide (z.key=y.key)):=p2.sublist (List.dropWhile_sublist _);have hgt:=aen p1 p2;obtain ⟨e1,e2⟩:=Hg f _ h2;rw [rE];refine qm.2 ⟨fun q hq=>?_,afM f _ h2 hs2⟩;obtain ⟨z,t,hz⟩:=List.exists_cons_of_ne_nil (e2 q hq)
  have hz2:z∈q.2:=by rw [hz];exact eT
  have:=hgt z (by rw [<- e1];exact List.mem_flatMap.2 ⟨q,hq,hz2⟩);rw [MZ f _ q hq z hz2] at this;exact this
theorem V7 (props:List aL) (k:Int):lZ acc rej props k []=([],kU props k):=by
 unfold lZ qg
 rw [jd,List.drop_nil,um];rfl
theorem adW {C:aZ} {e:Int} {props:List aL} (hp:xu C e props) (k:Int):∀ (L:List (Int × List bS)) (s:List aL × List bS),L.Pairwise (fun p q=>p.1 < q.1)->xu C e s.1->(∀ q∈L,q.2≠[]∧∀ y∈q.2,y.key=q.1∧F8 C e y) ->
  kU (tV acc rej props L s).1 k=(if k∈L.map Prod.fst then (lZ acc rej props k (nL k (L.flatMap Prod.snd))).2 else kU s.1 k) ∧
   nL k (tV acc rej props L s).2=nL k s.2++(lZ acc rej props k (nL k (L.flatMap Prod.snd))).1
 | [],s,_,_,_=>by
  rw [tV,List.flatMap_nil,show nL k []=[] from rfl,V7]
  simp
 | (k0,l0) :: r,s,hw,hs,hL=>by
  obtain ⟨w1,w2⟩:=qm.1 hw;obtain ⟨h1,h2⟩:=hL (k0,l0) eT;have hL2:=fun q hq=>hL q (gK _ hq);obtain ⟨a,b⟩:=afN acc rej hp h1 h2;have hws:=akG hs b;obtain ⟨i1,i2⟩:=adW hp k r (vw s.1 k0 (lZ acc rej props k0 l0).2,s.2++(lZ acc rej props k0 l0).1) w2 hws hL2;have hg:=arQ hs.2 hws.2 b.2.2 k;rw [tV,i1,i2,List.flatMap_cons,eZ];dsimp only;rw [ahX,ahX,hg]
  by_cases hk:k=k0
  ·subst hk
   have hn:k∉r.map Prod.fst:=fun hm=>by
    obtain ⟨q,hq,e⟩:=List.mem_map.1 hm;have:=w1 q hq;dsimp only at this
    omega
   have hr:nL k (r.flatMap Prod.snd)=[]:=Rb fun y hy e=>by
    obtain ⟨q,hq,hy2⟩:=List.mem_flatMap.1 hy;refine hn (List.mem_map.2 ⟨q,hq,?_⟩);rw [<- ((hL2 q hq).2 y hy2).1];exact e
   rw [av hn,aG rfl,aG eT,hr,ig,ahW (fun y hy=>(h2 y hy).1),ahW (fun y hy=>(a y hy).1),V7,ig];exact Gw
  have hl0:nL k l0=[]:=Rb fun y hy e=>hk (by rw [<- e];exact (h2 y hy).1);have hg0:nL k (lZ acc rej props k0 l0).1=[]:=Rb fun y hy e=>hk (by rw [<- e];exact (a y hy).1);rw [hl0,hg0,jR,ig,av hk];refine ⟨?_,rfl⟩
  by_cases hm:k∈r.map Prod.fst
  ·rw [aG hm,aG (gK _ hm)]
  rw [av hm,av fun h=>(fV.1 h).elim hk hm]
theorem MH {C:aZ} {e:Int} {h:dJ} (hh:Ja C e h) (k:Int):kU (iE acc rej h).props k=(lZ acc rej h.props k (nL k h.marks.layers)).2∧nL k (iE acc rej h).marks.layers=(lZ acc rej h.props k (nL k h.marks.layers)).1:=by
 obtain ⟨f1,f2⟩:=Hg h.marks.layers.length h.marks.layers (eu _);obtain ⟨g1,g2⟩:=adW (acc:=acc) (rej:=rej) hh.ps k (rE h.marks.layers.length h.marks.layers) (h.props,[]) (afM _ _ (eu _) hh.ly.2) hh.ps fun q hq=>⟨f2 q hq,fun y hy=>⟨MZ _ _ q hq y hy,hh.ly.1 y (by rw [<- f1];exact List.mem_flatMap.2 ⟨q,hq,hy⟩)⟩⟩;rw [f1] at g1 g2;refine ⟨?_,g2⟩;refine g1.trans ?_
 split
 ·rfl
 rename_i hn
 have:nL k h.marks.layers=[]:=Rb fun y hy e=>by
  rw [<- f1] at hy;obtain ⟨q,hq,hy2⟩:=List.mem_flatMap.1 hy;exact hn (List.mem_map.2 ⟨q,hq,by rw [<- MZ _ _ q hq y hy2];exact e⟩)
 rw [this,V7]
theorem atu {a b:dJ} (h1:a.props=b.props) (h2:a.marks.ins=b.marks.ins) (h3:a.marks.move=b.marks.move) (h4:a.marks.bE=b.marks.bE) (h5:a.marks.layers=b.marks.layers):a=b:=by
 obtain ⟨p,⟨i,m,d,l⟩⟩:=a;obtain ⟨p',⟨i',m',d',l'⟩⟩:=b;dsimp only at h1 h2 h3 h4 h5;subst h1 h2 h3 h4 h5
 rfl
theorem V5 {h:dJ} (hg:lS dD eG h):lS (fK dD eY) (fK eG gY) h:=by
 rcases hg with ⟨a,b⟩|⟨x,hx,b⟩
 ·exact .inl ⟨a,by unfold fK;rw [b];rfl⟩
 exact .inr ⟨x,hx,by unfold fK;rw [b];rfl⟩
theorem acA {p:Prop} (h:p:=by
 by_cases hq:kW dD h
 ·rw [aG hq,aG (hins.2 (.inl hq)),ite_self]
 rw [av hq]
 by_cases hq2:kW eY (iE dD eG h)
 ·rw [aG hq2,aG (hins.2 (.inr hq2))]
 rw [av hq2,av fun h=>(hins.1 h).elim hq hq2]):p:=h
theorem PL {C:aZ} {e:Int} {h:dJ} (hh:Ja C e h) (x1:∀ q,dD q=true->gY q=false) (x2:∀ q,eG q=true->eY q=false) (hn:¬ lS dD eG h) :
  (lS eY gY (iE dD eG h)↔lS (fK dD eY) (fK eG gY) h)∧iE eY gY (iE dD eG h)=iE (fK dD eY) (fK eG gY) h:=by
 have g1:=(MG dD eG hh).1;have g2:=(MG eY gY g1).1;have g3:=(MG (fK dD eY) (fK eG gY) hh).1;have hi:(iE dD eG h).marks.ins=if kW dD h then 0 else h.marks.ins:=rfl;have hm:(iE dD eG h).marks.move=if kW dD h then 0 else h.marks.move:=rfl;have hd:(iE dD eG h).marks.bE=h.marks.bE.filter fun x=>!eG x.rev:=rfl
 have hr1:h.marks.ins≠0->eG h.marks.ins=false:=fun h0=>by
  cases hr:eG h.marks.ins
  ·rfl
  exact absurd (.inl ⟨h0,hr⟩) hn
 have ha1:∀ x∈h.marks.bE,dD x.rev=false:=fun x hx=>by
  cases hr:dD x.rev
  ·rfl
  exact absurd (.inr ⟨x,hx,hr⟩) hn
 have hins:kW (fK dD eY) h↔kW dD h∨kW eY (iE dD eG h):=by
  unfold kW
  rw [hi]
  by_cases hq:kW dD h
  ·rw [aG hq];exact ⟨fun _=>.inl hq,fun _=>⟨hq.1,by unfold fK;rw [hq.2];rfl⟩⟩
  rw [av hq]
  constructor
  ·rintro ⟨a,b⟩
   unfold fK at b
   rw [Bool.or_eq_true] at b;exact b.elim (fun b=>.inl ⟨a,b⟩) fun b=>.inr ⟨a,b⟩
  rintro (h|⟨a,b⟩)
  ·exact absurd h hq
  exact ⟨a,by unfold fK;rw [b,Bool.or_true]⟩
 constructor
 ·unfold lS
  rw [hi,hd]
  constructor
  ·rintro (⟨a,b⟩|⟨x,hx,b⟩)
   ·by_cases hq:kW dD h
    ·rw [aG hq] at a;exact absurd rfl a
    rw [av hq] at a b;exact .inl ⟨a,by unfold fK;rw [b,Bool.or_true]⟩
   exact .inr ⟨x,(List.mem_filter.1 hx).1,by unfold fK;rw [b,Bool.or_true]⟩
  rintro (⟨a,b⟩|⟨x,hx,b⟩)
  ·unfold fK at b
   rw [hr1 a,Bool.false_or] at b
   have hq:¬ kW dD h:=fun hq=>by rw [x1 _ hq.2] at b;cases b
   rw [av hq];exact .inl ⟨a,b⟩
  unfold fK at b
  rw [ha1 x hx,Bool.false_or] at b;refine .inr ⟨x,List.mem_filter.2 ⟨hx,?_⟩,b⟩
  cases hr:eG x.rev
  ·rfl
  rw [x2 _ hr] at b;cases b
 have hkey:∀ k,lZ eY gY (iE dD eG h).props k (nL k (iE dD eG h).marks.layers)=lZ (fK dD eY) (fK eG gY) h.props k (nL k h.marks.layers):=fun k=>by
  obtain ⟨k1,k2⟩:=MH (acc:=dD) (rej:=eG) hh k;rw [V8 X7,k1,k2,V8 (acc:=dD) X7,V8 (acc:=fK dD eY) X7];dsimp only;rw [aiO,aiP,show ∀ q:lq × List (Int × lq),(q.1,q.2)=q from fun _=>rfl,aee x2]
 refine atu (axK g2.ps.2 g3.ps.2 fun k=>?_) ?_ ?_ ?_ (awl g2.ly.2 g3.ly.2 fun k=>?_)
 ·exact (MH g1 k).1.trans ((dh Prod.snd (hkey k)).trans (MH hh k).1.symm)
 ·show (if kW eY (iE dD eG h) then (0:Int) else (iE dD eG h).marks.ins)=if kW (fK dD eY) h then 0 else h.marks.ins
  rw [hi]
  exact acA
 ·show (if kW eY (iE dD eG h) then (0:Int) else (iE dD eG h).marks.move)=if kW (fK dD eY) h then 0 else h.marks.move
  rw [hm]
  exact acA
 ·show (iE dD eG h).marks.bE.filter (fun x=>!gY x.rev)=h.marks.bE.filter fun x=>!fK eG gY x.rev
  rw [hd,List.filter_filter];refine List.filter_congr fun x _=>?_
  unfold fK
  cases eG x.rev <;> cases gY x.rev <;> rfl
 exact (MH g1 k).2.trans ((dh Prod.fst (hkey k)).trans (MH hh k).2.symm)
end
section
variable {acc rej dD eG eY gY:Int->Bool}
mutual
theorem axO (x1:∀ q,dD q=true->gY q=false) (x2:∀ q,eG q=true->eY q=false) (C:aZ) (body note:Bool) (t:Int):∀ x:ak,lW C body note t x->dS eY gY (mU dD eG x)=mU (fK dD eY) (fK eG gY) x
 | .mk k c i tx h f r,hx=>by
  have hf:=RO x1 x2 C false true t f;have hr:=aiS x1 x2 C note (t+1) r;rw [lW] at hx;obtain ⟨-,-,h3,h4,h5⟩:=hx
  have one:∀ y:ak,dS eY gY [y]=mU eY gY y:=fun y=>by rw [dS,dS,ig]
  have zero:dS eY gY []=[]:=by rw [dS]
  rw [mU,mU]
  by_cases hg:lS dD eG h
  ·rw [aG hg,aG (V5 hg),zero]
  obtain ⟨c1,c2⟩:=PL ((H6 _ _ _).1 h3) x1 x2 hg;rw [av hg]
  by_cases h6:k=6
  ·rw [aG h6,aG h6,one,mU,aG h6,hf (h4 h6),c2]
   simp only [c1]
  rw [av h6,av h6]
  by_cases h7:k=7
  ·rw [aG h7,aG h7];have e:=hr (h5 h7).2
   by_cases hn:(gN dD eG r).length=0
   ·have e2:gN (fK dD eY) (fK eG gY) r=[]:=by
     rw [<- e,List.eq_nil_of_length_eq_zero hn,gN]
    rw [aG hn,zero,e2]
    simp
   rw [av hn,one,mU,av h6,aG h7,e,c2]
   simp only [c1]
  rw [av h7,av h7,one,mU,av h6,av h7,c2]
  simp only [c1]
theorem axP (x1:∀ q,dD q=true->gY q=false) (x2:∀ q,eG q=true->eY q=false) (C:aZ) (note:Bool) (t:Int):∀ x:aS,qd C note t x->gN eY gY (oL dD eG x)=oL (fK dD eY) (fK eG gY) x
 | .mk h cs,hx=>by
  have hc:=aiR x1 x2 C note t cs;rw [qd] at hx
  have one:∀ y:aS,gN eY gY [y]=oL eY gY y:=fun y=>by rw [gN,gN,ig]
  have zero:gN eY gY []=[]:=by rw [gN]
  rw [oL,oL]
  by_cases hg:lS dD eG h
  ·rw [aG hg,aG (V5 hg),zero]
  obtain ⟨c1,c2⟩:=PL ((H6 _ _ _).1 (R5.1 hx.1).1) x1 x2 hg;have e:=hc hx.2;rw [av hg]
  by_cases hn:(gD dD eG cs).length=0
  ·have e2:gD (fK dD eY) (fK eG gY) cs=[]:=by
    rw [<- e,List.eq_nil_of_length_eq_zero hn,gD]
   rw [aG hn,zero,e2]
   simp
  rw [av hn,one,oL,e,c2]
  simp only [c1]
theorem axN (x1:∀ q,dD q=true->gY q=false) (x2:∀ q,eG q=true->eY q=false) (C:aZ) (note:Bool) (t:Int):∀ x:aV,qb C note t x->gD eY gY (oV dD eG x)=oV (fK dD eY) (fK eG gY) x
 | .mk i h f,hx=>by
  have hf:=RO x1 x2 C false note t f;rw [qb] at hx
  have one:∀ y:aV,gD eY gY [y]=oV eY gY y:=fun y=>by rw [gD,gD,ig]
  have zero:gD eY gY []=[]:=by rw [gD]
  rw [oV,oV]
  by_cases hg:lS dD eG h
  ·rw [aG hg,aG (V5 hg),zero]
  obtain ⟨c1,c2⟩:=PL ((H6 _ _ _).1 hx.1) x1 x2 hg;rw [av hg,one,oV,hf hx.2,c2]
  simp only [c1]
theorem RO (x1:∀ q,dD q=true->gY q=false) (x2:∀ q,eG q=true->eY q=false) (C:aZ) (body note:Bool) (t:Int):∀ l:List ak,iR C body note t l->dS eY gY (dS dD eG l)=dS (fK dD eY) (fK eG gY) l
 | [],_=>by rw [dS,dS,dS]
 | x :: l,h=>by
  rw [iR] at h;rw [dS,dS,R9,axO x1 x2 C body note t x h.1,RO x1 x2 C body note t l h.2]
theorem aiS (x1:∀ q,dD q=true->gY q=false) (x2:∀ q,eG q=true->eY q=false) (C:aZ) (note:Bool) (t:Int):∀ l:List aS,kK C note t l->gN eY gY (gN dD eG l)=gN (fK dD eY) (fK eG gY) l
 | [],_=>by rw [gN,gN,gN]
 | x :: l,h=>by
  rw [kK] at h;rw [gN,gN,YB,axP x1 x2 C note t x h.1,aiS x1 x2 C note t l h.2]
theorem aiR (x1:∀ q,dD q=true->gY q=false) (x2:∀ q,eG q=true->eY q=false) (C:aZ) (note:Bool) (t:Int):∀ l:List aV,lI C note t l->gD eY gY (gD dD eG l)=gD (fK dD eY) (fK eG gY) l
 | [],_=>by rw [gD,gD,gD]
 | x :: l,h=>by
  rw [lI] at h;rw [gD,gD,Yz,axN x1 x2 C note t x h.1,aiR x1 x2 C note t l h.2]
end
def wF (acc rej:Int->Bool) (l:List ak):List ak:=ku (dS acc rej l)
theorem SV (l:List ak):wF acc rej l=((dS acc rej l).map nI).foldl addN []:=by unfold wF;rw [Bo,KI]
theorem Oo (a b:List ak):wF acc rej (a++b)=((dS acc rej b).map nI).foldl addN (wF acc rej a):=by
 rw [SV,SV,R9,kF,List.foldl_append]
theorem aA9 {a b:List ak} (h:(dS acc rej a).map nI=(dS acc rej b).map nI):wF acc rej a=wF acc rej b:=by rw [SV,SV,h]
theorem add_assoc {X:List ak} {z y:ak} (hz:¬ rD z) (hy:¬ rD y) (hj:pY z y):addN (addN X z) y=addN X (mH z y):=by
 obtain ⟨j1,j2,j3⟩:=hj
 have hzy:¬ rD (mH z y):=by
  rintro (⟨h,-⟩|⟨-,h⟩)
  ·have:z.kind=7:=h
   omega
  have h2:(z.text++y.text).size=0:=h;rw [ByteArray.size_append] at h2;exact hz (.inr ⟨j2,by omega⟩)
 by_cases hx:∃ o w,X=o++[w]∧pY w z
 ·obtain ⟨o,w,rfl,k1,k2,k3⟩:=hx;rw [Ca hz ⟨k1,k2,k3⟩,Ca hy (show pY (mH w z) y from ⟨j1,k2,by show w.head=_;rw [k3,j3]⟩),Ca hzy (show pY w (mH z y) from ⟨j2,k2,k3⟩)]
  unfold mH
  simp only [ak.kind,ak.code,ak.id,ak.text,ak.head,ak.flow,ak.rows,ByteArray.append_assoc]
 have hn:∀ o w,X=o++[w]->¬ pY w z:=fun o w e h=>hx ⟨o,w,e,h⟩;have hn2:∀ o w,X=o++[w]->¬ pY w (mH z y):=fun o w e h=>hx ⟨o,w,e,j2,h.2.1,h.2.2⟩;rw [Dm hz hn,Ca hy ⟨j1,j2,j3⟩,Dm hzy hn2]
theorem Sc {x:ak} (h:x.kind=1):mU acc rej x=if lS acc rej x.head then [] else [.mk x.kind x.code x.id x.text (iE acc rej x.head) x.flow x.rows]:=by
 rw [R8,av (show ¬ x.kind=6 by omega),av (show ¬ x.kind=7 by omega)]
theorem aA8 {out:List ak} {y:ak} (hc:Eu out):wF acc rej (addN out y)=wF acc rej (out++[y]):=by
 have one:∀ y:ak,dS acc rej [y]=mU acc rej y:=fun y=>by rw [dS,dS,ig]
 by_cases hd:rD y
 ·rw [Jj hd,Oo,one]
  rcases hd with ⟨h7,hr⟩|⟨h1,ht⟩
  ·rw [R8,av (show ¬ y.kind=6 by omega),aG h7,List.eq_nil_of_length_eq_zero hr,gN]
   by_cases hg:lS acc rej y.head
   ·rw [aG hg];rfl
   rw [av hg,aG (by rfl)];rfl
  rw [Sc h1]
  split
  ·rfl
  rw [eZ,sM,List.foldl_cons,List.foldl_nil,Jj];rw [nI];exact .inr ⟨h1,ht⟩
 by_cases hj:∃ o z,out=o++[z]∧pY z y
 ·obtain ⟨o,z,rfl,hz⟩:=hj;have hdz:=hc.1 z (by simp);rw [Ca hd hz,Oo,iZ,Oo,List.singleton_append,one,dS,one,Sc hz.2.1,Sc (show (mH z y).kind=1 from hz.2.1),Sc hz.1]
  show List.foldl addN _ (List.map nI (if lS acc rej z.head then [] else [.mk z.kind z.code z.id (z.text++y.text) (iE acc rej z.head) z.flow z.rows]))=_
  rw [<- hz.2.2]
  split
  ·rfl
  simp only [eZ,sM,List.foldl_cons,List.foldl_nil,List.singleton_append]
  rw [add_assoc]
  ·rw [nI,nI,nI];rfl
  ·rw [nI];exact fun hq=>hq.elim (fun h=>by have h7:z.kind=7:=h.1;have:=hz.2.1;omega) fun h=>hdz (.inr h)
  ·rw [nI];exact fun hq=>hq.elim (fun h=>by have h7:y.kind=7:=h.1;have:=hz.1;omega) fun h=>hd (.inr h)
  rw [nI,nI];exact ⟨hz.1,hz.2.1,rfl⟩
 rw [Dm hd fun o z e h=>hj ⟨o,z,e,h⟩]
theorem akx:∀ (A out:List ak),Eu out->wF acc rej (A.foldl addN out)=wF acc rej (out++A)
 | [],out,_=>by rw [List.foldl_nil,ig]
 | y :: A,out,h=>by
  rw [List.foldl_cons,akx A _ (adu h),Oo,aA8 h,<- Oo,iZ];rfl
theorem Zu {l:List ak} (h:(dS acc rej (mI l)).map nI=(dS acc rej l).map nI):wF acc rej (ku l)=wF acc rej l:=by
 rw [Bo,akx _ _ adx,jR];exact aA9 h
theorem aio (l:List aS):(lH l).length=l.length:=by rw [Fq,bQ]
theorem aii (l:List aV):(lG l).length=l.length:=by rw [Iz,bQ]
mutual
theorem ayz:∀ x:ak,(mU acc rej (nI x)).map nI=(mU acc rej x).map nI
 | .mk k c i tx h f r=>by
  have hf:=Zu (R3 f);have hr:=ajc r
  unfold wF at hf
  rw [Bo f,Bo (dS acc rej ((mI f).foldl addN [])),Bo (dS acc rej f)] at hf
  have e:(gN acc rej (lH r)).length=(gN acc rej r).length:=by
   have:=dh List.length hr
   rwa [aio,aio] at this
  have hff:=VT (Rw f);have hrr:=Ye r;rw [nI,mU,mU]
  split
  ·rfl
  split
  ·rw [eZ,eZ,nI,nI,hf,hrr]
  split
  ·rw [e]
   split
   ·rfl
   rw [eZ,eZ,nI,nI,hr,hff]
  rw [eZ,eZ,nI,nI,hff,hrr]
theorem ayA:∀ x:aS,lH (oL acc rej (nR x))=lH (oL acc rej x)
 | .mk h cs=>by
  have hc:=ajb cs
  have e:(gD acc rej (lG cs)).length=(gD acc rej cs).length:=by
   have:=dh List.length hc
   rwa [aii,aii] at this
  rw [nR,oL,oL,e]
  split
  ·rfl
  split
  ·rfl
  simp only [lH,nR,hc]
theorem ayy:∀ x:aV,lG (oV acc rej (nC x))=lG (oV acc rej x)
 | .mk i h f=>by
  have hf:=Zu (R3 f)
  unfold wF at hf
  rw [Bo f,Bo (dS acc rej ((mI f).foldl addN [])),Bo (dS acc rej f)] at hf;rw [nC,oV,oV]
  split
  ·rfl
  simp only [lG,nC,hf]
theorem R3:∀ l:List ak,(dS acc rej (mI l)).map nI=(dS acc rej l).map nI
 | []=>by rw [mI]
 | x :: l=>by
  have h1:=ayz x;have h2:=R3 l;rw [mI,dS,dS,kF,kF,h1,h2]
theorem ajc:∀ l:List aS,lH (gN acc rej (lH l))=lH (gN acc rej l)
 | []=>by rw [lH]
 | x :: l=>by
  have h1:=ayA x;have h2:=ajc l
  have app:∀ a b:List aS,lH (a++b)=lH a++lH b:=fun a b=>by rw [Fq,Fq,Fq,kF]
  rw [lH,gN,gN,app,app,h1,h2]
theorem ajb:∀ l:List aV,lG (gD acc rej (lG l))=lG (gD acc rej l)
 | []=>by rw [lG]
 | x :: l=>by
  have h1:=ayy x;have h2:=ajb l
  have app:∀ a b:List aV,lG (a++b)=lG a++lG b:=fun a b=>by rw [Iz,Iz,Iz,kF]
  rw [lG,gD,gD,app,app,h1,h2]
end
theorem aky (l:List ak):ku (dS acc rej (ku l))=ku (dS acc rej l):=Zu (R3 l)
theorem awv (d:gG):nZ (kL acc rej (nD d))=⟨ku (dS acc rej d.flow),eU acc rej d.fin,(nD d).revs,d.kY⟩:=by
 show (⟨ku (dS acc rej (ku d.flow)),_,_,_⟩:gG)=_
 rw [aky];rfl
theorem Ru (d:gG):nD d=⟨ku d.flow,d.fin,d.revs.filter (fun r=>decide (r.id∈lM (nZ d))),d.kY⟩:=by
 unfold nD;rw [ahM]
theorem ayK {d:gG} (h:iL d=0):nD (kL acc rej (nD d))=nD (kL acc rej d):=by
 have hu:lM (nZ (kL acc rej (nD d)))=lM (nZ (kL acc rej d)):=by rw [awv];rfl
 have hk:∀ q∈lM (nZ (kL acc rej d)),q∈(nD d).revs.map bW.id:=fun q hq=>by
  rw [<- hu] at hq;obtain ⟨x,hx,e⟩:=List.mem_map.1 (akn (aik h) hq);exact List.mem_map.2 ⟨x,(List.mem_filter.1 hx).1,e⟩
 have hr:(nD d).revs.filter (fun r=>decide (r.id∈lM (nZ (kL acc rej d))))=d.revs.filter fun r=>decide (r.id∈lM (nZ (kL acc rej d))):=by
  rw [Ru d];dsimp only;rw [List.filter_filter];refine List.filter_congr fun r hr=>?_
  by_cases hq:r.id∈lM (nZ (kL acc rej d))
  ·obtain ⟨x,hx,e⟩:=List.mem_map.1 (hk _ hq);rw [Ru d] at hx;have h2:=(List.mem_filter.1 hx).2;rw [e] at h2;rw [h2,Bool.and_true]
  rw [qN hq,LX]
 rw [Ru (kL acc rej (nD d)),Ru (kL acc rej d),hu]
 show (⟨ku (dS acc rej (ku d.flow)),eU acc rej d.fin,(nD d).revs.filter _,d.kY⟩:gG)=⟨ku (dS acc rej d.flow),eU acc rej d.fin,d.revs.filter _,d.kY⟩
 rw [aky,hr]
theorem arv {d:gG} (h:iL d=0):¬ lS acc rej d.fin∧Ja d.kT 3 d.fin:=by
 obtain ⟨-,⟨g2,g3⟩,-,-,-⟩:=(zJ _).1 h;refine ⟨?_,(H6 _ _ _).1 g2⟩
 exact abk
theorem ayE {d:gG} (h:iL d=0) (x1:∀ q,dD q=true->gY q=false) (x2:∀ q,eG q=true->eY q=false):kL eY gY (kL dD eG d)=kL (fK dD eY) (fK eG gY) d:=by
 obtain ⟨-,-,g4,-,-⟩:=(zJ _).1 h;obtain ⟨f1,f2⟩:=arv (acc:=dD) (rej:=eG) h;obtain ⟨c1,c2⟩:=PL f2 x1 x2 f1;have e1:=RO x1 x2 d.kT true false 0 d.flow g4;have a1:eU dD eG d.fin=iE dD eG d.fin:=av f1
 unfold kL
 dsimp only;rw [e1,a1]
 unfold eU
 simp only [c1,c2]
theorem twice {d:gG} (h:iL d=0) (x1:∀ q,dD q=true->gY q=false) (x2:∀ q,eG q=true->eY q=false):nD (kL eY gY (nD (kL dD eG d)))=nD (kL (fK dD eY) (fK eG gY) d):=by
 rw [ayK (R7 h),ayE h x1 x2]
end
theorem PZ:aQ 26:=aR func26 rfl
theorem adV {l:List Int} (h1:l.Pairwise (· < ·)) (h2:∀ x∈l,1<=x∧x<=1000):iU (rC l) l.length=0:=by
 refine Jm fun k hk=>?_;have h3:=h2 _ (jB hk);rw [Vm hk,dw]
 have h4:∀ h0:0 < k,l.getD (k - 1) 0 < l[k]:=fun h0=>by
  rw [List.getD_eq_getElem?_getD,dV (by omega:k - 1 < l.length),Option.getD_some];exact List.pairwise_iff_getElem.1 h1 (k - 1) k (by omega) hk (by omega)
 rw [av fun h=>by have:=h4 h.1;omega,av fun h=>by have:=h4 h.1;omega]
theorem X6 {l:List Int} (h:l.Pairwise (· < ·)) (q:Int):lsB l q=decide (q∈l):=J4 (h.imp fun h=>Int.le_of_lt h) q
theorem anc {A R aml amm:List Int} (hA:xk aml A) (hR:xk amm R) (hd:∀ x∈A,x∉R):Dt A R=0:=by
 refine EP fun x hx=>?_
 simp only [fV,List.not_mem_nil,or_false] at hx
 rcases hx with rfl|rfl|rfl
 ·exact adV hA.inc hA.rng
 ·exact adV hR.inc hR.rng
 have:A.findIdx? (lsB R)=none:=List.findIdx?_eq_none_iff.2 fun x hx=>by rw [X6 hR.inc,qN (hd x hx)]
 rw [this,tK (by decide)];rfl
theorem yw.up {n m:Nat} {d:gG} (h:yw n d) (hm:n<=m):yw m d:=⟨h.z,Nat.le_trans h.fl hm,Nat.le_trans h.hd hm⟩
section
def KP (ch:List (Nat × Nat)) (m:Nat):Option Nat:=(ch.find? fun q=>Nat.beq q.2 m).map (·.1)
def CQ (ch:List (Nat × Nat)) (x:Nat->ah × OL) (m:Nat):OL:=match KP ch m with|some p=>(x p).2|none=>[]
def live (ch:List (Nat × Nat)) (S:Nat->Bool) (m:Nat):Bool:=S m && ch.all fun q=>!Nat.beq q.1 m || !S q.2
def JL (ms:List Nat) (ch:List (Nat × Nat)) (bL:List (List Nat)):Bool :=
 (ch.all fun q=>ms.contains q.1 && ms.contains q.2 && (bL.getD q.2 []).contains q.1 && !Nat.beq q.1 q.2) && decide ((ch.map (·.1)).Nodup) && decide ((ch.map (·.2)).Nodup)
theorem JX {P:Nat->Bool} {x:Nat->ah × OL} {m:Nat} {ms:List Nat} (h:m∈ms):(iM ms P x).Perm ((bif P m then (x m).2 else [])++iM (ms.erase m) P x):=by
 have h1:(iM ms P x).Perm (iM (m :: ms.erase m) P x):=(List.perm_cons_erase h).flatMap_right _
 refine h1.trans ?_
 unfold iM
 rw [List.flatMap_cons]
theorem Qi {P Q:Nat->Bool} {x y:Nat->ah × OL} {ms:List Nat} (h:∀ m∈ms,P m=Q m∧x m=y m):iM ms P x=iM ms Q y:=by
 induction ms with
 | nil=>rfl
 | cons k ms ih =>
  have ih:=ih fun m hm=>h m (gK _ hm)
  obtain ⟨h1,h2⟩:=h k eT
  unfold iM at ih |-
  rw [List.flatMap_cons,List.flatMap_cons,ih,h1,h2]
theorem CP {ch:List (Nat × Nat)} {S:Nat->Bool} {m:Nat}:live ch S m=true↔S m=true∧∀ q∈ch,q.1=m->S q.2=false:=by
 unfold live
 rw [ji,jI]
 refine and_congr_right fun _=>forall_congr' fun q=>forall_congr' fun _=>?_
 by_cases e:q.1=m
 ·subst e
  simp
 ·simp [uK e,e]
theorem awP {ch:List (Nat × Nat)}:(ch.map (·.1)).Nodup->∀ {p q:Nat × Nat},p∈ch->q∈ch->p.1=q.1->p=q:=by
 induction ch with
 | nil=>intro _ p q h;cases h
 | cons c ch ih =>
  intro hn p q hp hq e
  rw [eZ,List.nodup_cons] at hn
  rcases fV.1 hp with h1|h1 <;> rcases fV.1 hq with h2|h2
  ·rw [h1,h2]
  ·rw [h1] at e
   exact absurd (e ▸ List.mem_map_of_mem h2) hn.1
  ·rw [h2] at e
   exact absurd (e ▸ List.mem_map_of_mem h1) hn.1
  ·exact ih hn.2 h1 h2 e
theorem awQ {ch:List (Nat × Nat)}:(ch.map (·.2)).Nodup->∀ {p q:Nat × Nat},p∈ch->q∈ch->p.2=q.2->p=q:=by
 induction ch with
 | nil=>intro _ p q h;cases h
 | cons c ch ih =>
  intro hn p q hp hq e
  rw [eZ,List.nodup_cons] at hn
  rcases fV.1 hp with h1|h1 <;> rcases fV.1 hq with h2|h2
  ·rw [h1,h2]
  ·rw [h1] at e
   exact absurd (e ▸ List.mem_map_of_mem h2) hn.1
  ·rw [h2] at e
   exact absurd (e ▸ List.mem_map_of_mem h1) hn.1
  ·exact ih hn.2 h1 h2 e
theorem axL {ch:List (Nat × Nat)} {m p:Nat} (h:KP ch m=some p):(p,m)∈ch:=by
 unfold KP at h
 obtain ⟨q,h1,rfl⟩:=pF.1 h
 have h2:q.2=m:=by simpa using List.find?_some h1
 exact h2 ▸ List.mem_of_find?_eq_some h1
theorem axM {ch:List (Nat × Nat)} {m:Nat} (h:KP ch m=none):∀ q∈ch,¬ q.2=m:=by
 intro q hq e
 unfold KP at h
 rw [Option.map_eq_none_iff,List.find?_eq_none] at h
 exact h q hq (by rw [e];exact Nat.beq_refl m)
theorem awe {ms:List Nat} {ch:List (Nat × Nat)} {bL:List (List Nat)} {S:Nat->Bool} {x:Nat->ah × OL} {m:Nat} (hnd:ms.Nodup) (hc:JL ms ch bL=true) (hm:m∈ms) (hS:S m=false) (hd:∀ j∈bL.getD m [],S j=true) (hu:∀ q∈ch,q.1=m->S q.2=false) :
  ∃ R:OL,(iM ms (live ch S) x).Perm (CQ ch x m++R)∧∀ y:ah × OL,(iM ms (live ch (dB S m)) (mJ x m y)).Perm (y.2++R):=by
 unfold JL at hc
 rw [ji,ji,jI,decide_eq_true_iff,decide_eq_true_iff] at hc
 obtain ⟨⟨h1,h2⟩,h3⟩:=hc
 have hq:∀ q∈ch,q.1∈ms∧q.2∈ms∧q.1∈bL.getD q.2 []∧¬ q.1=q.2:=fun q hq=>by
  have:=h1 q hq
  rw [ji,ji,ji,qM,qM,qM] at this
  obtain ⟨⟨⟨a,b⟩,c⟩,d⟩:=this
  exact ⟨a,b,c,fun e=>by rw [e,Nat.beq_refl] at d;cases d⟩
 have hlm:live ch S m=false:=by
  cases h:live ch S m with
  | false=>rfl
  | true=>rw [CP] at h;rw [h.1] at hS;cases hS
 have agB:live ch (dB S m) m=true:=CP.2 ⟨aG rfl,fun q hq1 e=>by
  have:=hu q hq1 e
  rwa [show dB S m q.2=S q.2 from av fun e2=>(hq q hq1).2.2.2 (e.trans e2.symm)]⟩
 have hother:∀ j,j≠m->(∀ q∈ch,q.1=j->q.2≠m)->live ch S j=live ch (dB S m) j:=fun j hj hn=>by
  rw [Ce,CP,CP,show dB S m j=S j from av hj]
  refine and_congr_right fun _=>forall_congr' fun q=>forall_congr' fun hq1=>forall_congr' fun e=>?_
  rw [show dB S m q.2=S q.2 from av (hn q hq1 e)]
 have hx:∀ y j,j≠m->x j=mJ x m y j:=fun y j hj=>(Zr hj).symm
 have hne:∀ j∈ms.erase m,j≠m:=fun j hj e=>by rw [e] at hj;exact (List.Nodup.not_mem_erase hnd) hj
 cases hp:KP ch m with
 | none =>
  refine ⟨iM (ms.erase m) (live ch S) x,?_,fun y=>?_⟩
  ·have:=JX (P:=live ch S) (x:=x) hm
   rw [hlm] at this
   simpa [CQ,hp] using this
  ·have:=JX (P:=live ch (dB S m)) (x:=mJ x m y) hm
   rw [agB,Zq] at this
   rw [Qi (P:=live ch S) (Q:=live ch (dB S m)) (y:=mJ x m y) fun j hj=>⟨hother j (hne j hj) fun q hq1 _=>axM hp q hq1,hx y j (hne j hj)⟩]
   exact this
 | some p =>
  have hpm:=axL hp
  obtain ⟨g1,g2,g3,g4⟩:=hq _ hpm
  have hpe:p∈ms.erase m:=(List.mem_erase_of_ne g4).2 g1
  have hlp:live ch S p=true:=CP.2 ⟨hd p g3,fun q hq1 e=>by
   have:=awP h2 hq1 hpm e
   rw [this];exact hS⟩
  have atS:live ch (dB S m) p=false:=by
   cases h:live ch (dB S m) p with
   | false=>rfl
   | true =>
    have:=(CP.1 h).2 _ hpm rfl
    rw [show dB S m m=true from aG rfl] at this
    cases this
  refine ⟨iM ((ms.erase m).erase p) (live ch S) x,?_,fun y=>?_⟩
  ·have e1:=JX (P:=live ch S) (x:=x) hm
   have e2:=JX (P:=live ch S) (x:=x) hpe
   rw [hlm] at e1
   rw [hlp] at e2
   simp only [cond_false,jR,cond_true] at e1 e2
   simpa [CQ,hp] using e1.trans e2
  ·have e1:=JX (P:=live ch (dB S m)) (x:=mJ x m y) hm
   have e2:=JX (P:=live ch (dB S m)) (x:=mJ x m y) hpe
   rw [agB,Zq] at e1
   rw [atS] at e2
   simp only [cond_false,jR,cond_true] at e1 e2
   rw [Qi (P:=live ch S) (Q:=live ch (dB S m)) (y:=mJ x m y) fun j hj=>by
    have hj1:=List.mem_of_mem_erase hj
    have hjm:=hne j hj1
    have hjp:j≠p:=fun e=>by rw [e] at hj;exact (List.Nodup.not_mem_erase (hnd.erase m)) hj
    exact ⟨hother j hjm fun q hq1 e e2=>hjp (by rw [<- e,awQ h3 hq1 hpm e2]),hx y j hjm⟩]
   exact e1.trans (List.Perm.append_left _ e2)
section
variable {N:Nat} {D:List Deferred} {w0:World} {F:Nat->Prop} {G0 G G1 G2:GH} {L L1 L2:OL} {T Xs:List (Nat × ah)}
variable {r:Option Nat} {P:Program} {Q:Exit->Act->World->Prop} {l:List Oper} {a a':Act} {w w':World}
theorem adk {id:Nat} (ms:List Nat) (ch:List (Nat × Nat)) (hm:P.follows .mixedOrders=true) (bL:List (List Nat)) (B:List Nat) (hk:yH l bL=true) (hB:wV l bL B=true) (hnd:ms.Nodup) (hms:(ms.all fun m=>Nat.blt m l.length && !B.contains m)=true) (hc:JL ms ch bL=true) (pr:(Nat->ah × OL)->Nat->ah->GH->Prop)
  (hp:∀ m,ms.contains m=true->∀ x y i v G,Nat.beq i m=false->(bL.getD i []).contains m=false->pr x i v G->pr (mJ x m y) i v G)
  (H:St N D w0 F G0 G L T a w)
  (hstep:allI (fun i o=>∀ x L' S a w G1,(∀ q,q∈L->q∈L')->B.contains i=false->ms.contains i=false->S i=false->(∀ j∈bL.getD i [],S j=true)->(∀ k o,G k=some o->G1 k=some o)->St N D w0 F G0 G1 L' T a w->(∀ i d,S i=true->eB l i=some d->∃ v,a.tmps[d]?=some v∧pr x i v G1) ->
   WL r P l.toArray (fun e a' w'=>e=.normal∧DX N D w0 F G0 G L' T l (pr x) (dB S i) a' w') [o] a w) 0 l)
  (hmid:allI (fun m o=>ms.contains m=true->∀ x L' S a w G1,(∀ q,q∈L->q∈L')->S m=false->(∀ j∈bL.getD m [],S j=true)->(∀ k o,G k=some o->G1 k=some o)->St N D w0 F G0 G1 (CQ ch x m++L') T a w->(∀ y i d,i≠m->S i=true->eB l i=some d->∃ v,a.tmps[d]?=some v∧pr x i v G1∧pr (mJ x m y) i v G1) ->
   WL r P l.toArray (fun e a' w'=>e=.normal∧∃ y,DX N D w0 F G0 G (y.2++L') T l (pr (mJ x m y)) (dB S m) a' w') [o] a w) 0 l)
  (hend:∀ x a w G1,(∀ k o,G k=some o->G1 k=some o)->St N D w0 F G0 G1 (iM ms (live ch fun _=>true) x++L) T a w->(∀ i d,B.contains i=false->eB l i=some d->∃ v,a.tmps[d]?=some v∧pr x i v G1)->WL r P l.toArray (fun e a w=>e=.normal∧Q .normal a w) (qC l B) a w):WP r P (.region id l.toArray true) Q a w:=by
 have hu:∀ {m i:Nat} {S:Nat->Bool},(∀ j,j < l.length->i∈bL.getD j []->S j=false)->∀ q∈ch,q.1=i->S q.2=false:=by
  intro m i S hdesc q hq e
  have h1:=hc
  unfold JL at h1
  rw [ji,ji,jI] at h1
  have h2:=h1.1.1 q hq
  rw [ji,ji,ji,qM,qM,qM] at h2
  have h3:=jI.1 hms q.2 h2.1.1.2
  rw [ji] at h3
  exact hdesc q.2 (Eq.mp Nat.blt_eq h3.1) (e ▸ h2.1.2)
 refine GR hm bL B hk hB (fun S a w=>∃ x,DX N D w0 F G0 G (iM ms (live ch S) x++L) T l (pr x) S a w)
  ⟨fun _=>(.bool false,[]),DX.perm (L1:=L) ⟨G,fun _ _ h=>h,H.move H.hp.drew,fun _ _ h=>absurd (show false=true from h) (by decide)⟩ (by
   have:∀ ms:List Nat,iM ms (live ch fun _=>false) (fun _=>(.bool false,[]))=[]:=fun ms=>by
    induction ms with
    | nil=>rfl
    | cons k ms ih=>unfold iM at ih |-;rw [List.flatMap_cons,ih];rfl
   rw [this];exact List.Perm.refl _)⟩ ?_ ?_
 ·rintro i o S a w ho hb aO kI hdesc ⟨x,G1,hG,HS,hv⟩
  have hsub:∀ q,q∈L->q∈iM ms (live ch S) x++L:=fun q hq=>List.mem_append_right _ hq
  have hno:∀ j,j < l.length->S j=true->(bL.getD j []).contains i=false:=fun j hjl hj=>by
   cases hc:(bL.getD j []).contains i with
   | false=>rfl
   | true =>
    have:=hdesc j hjl (by simpa using hc)
    rw [this] at hj;cases hj
  cases hi:ms.contains i with
  | true =>
   obtain ⟨R,yP,hR2⟩:=awe (x:=x) hnd hc (by simpa using hi) aO kI (hu (m:=i) hdesc)
   have h:=zD hmid i o ho
   rw [gI] at h
   have HS2:=HS.perm ((List.Perm.append_right L yP).trans (List.Perm.of_eq (iZ ..)))
   have h:=h hi x (R++L) S a w G1 (fun q hq=>List.mem_append_right _ hq) aO kI hG HS2 fun y j d hj hSj hd=>by
    obtain ⟨v,hv1,hv2⟩:=hv j d hSj hd
    exact ⟨v,hv1,hv2,hp i hi x y j v _ (uK hj) (hno j (uP hd) hSj) hv2⟩
   refine oN (fun e a' w' ⟨he,y,hD⟩=>⟨he,mJ x i y,hD.perm ?_⟩) h
   rw [<- iZ]
   exact List.Perm.append_right L (hR2 y).symm
  | false =>
   have h:=zD hstep i o ho
   rw [gI] at h
   have hni:i∉ms:=by simpa using hi
   have e:iM ms (live ch (dB S i)) x=iM ms (live ch S) x:=Qi fun j hj=>⟨by
    have hji:j≠i:=fun e=>hni (e ▸ hj)
    rw [Ce,CP,CP,show dB S i j=S j from av hji]
    refine and_congr_right fun _=>forall_congr' fun q=>forall_congr' fun hq1=>forall_congr' fun e=>?_
    have h1:=hc
    unfold JL at h1
    rw [ji,ji,jI] at h1
    have h2:=h1.1.1 q hq1
    rw [ji,ji,ji,qM,qM] at h2
    rw [show dB S i q.2=S q.2 from av (show ¬ q.2=i from fun e=>hni (e ▸ h2.1.1.2))],rfl⟩
   refine oN (fun e' a' w' ⟨he,hD⟩=>⟨he,x,?_⟩) (h x _ S a w G1 hsub hb hi aO kI hG HS hv)
   rw [e]
   exact hD
 ·rintro S a w hall Ko ⟨x,G1,hG,HS,hv⟩
  have hS:∀ m∈ms,S m=true:=fun m hmm=>by
   have h:=jI.1 hms m hmm
   rw [ji] at h
   exact hall m (Eq.mp Nat.blt_eq h.1) (by simpa using h.2)
  have e:iM ms (live ch S) x=iM ms (live ch fun _=>true) x:=Qi fun j hj=>⟨by
   rw [Ce,CP,CP]
   refine and_congr (by simp [hS j hj]) (forall_congr' fun q=>forall_congr' fun hq1=>forall_congr' fun e=>?_)
   have h1:=hc
   unfold JL at h1
   rw [ji,ji,jI] at h1
   have h2:=h1.1.1 q hq1
   rw [ji,ji,ji,qM,qM] at h2
   rw [hS q.2 h2.1.1.2],rfl⟩
  rw [e] at HS
  exact hend x a w G1 hG HS fun j d hb hd=>hv j d (hall j (uP hd) hb) hd
end
end
section
section
variable {N:Nat} {D:List Deferred} {w0:World} {F:Nat->Prop} {G0 G G1 G2:GH} {L L1 L2:OL} {T Xs:List (Nat × ah)}
variable {r:Option Nat} {P:Program} {Q:Exit->Act->World->Prop} {l:List Oper} {a a':Act} {w w':World}
theorem ams {id:Nat} {κ:Type} (k0:κ) (Lf:κ->OL) (hm:P.follows .mixedOrders=true) (bL:List (List Nat)) (B:List Nat) (hk:yH l bL=true) (hB:wV l bL B=true) (m:Nat) (pr:κ->Nat->ah->GH->Prop)
  (hp:∀ k k' i v G,Nat.beq i m=false->(bL.getD i []).contains m=false->pr k i v G->pr k' i v G)
  (H:St N D w0 F G0 G (Lf k0) T a w)
  (hstep:allI (fun i o=>∀ k S a w G1,B.contains i=false->Nat.beq i m=false->S i=false->(∀ j∈bL.getD i [],S j=true)->(∀ k o,G k=some o->G1 k=some o)->St N D w0 F G0 G1 (Lf k) T a w->(∀ i d,S i=true->eB l i=some d->∃ v,a.tmps[d]?=some v∧pr k i v G1) ->
   WL r P l.toArray (fun e a' w'=>e=.normal∧DX N D w0 F G0 G (Lf k) T l (pr k) (dB S i) a' w') [o] a w) 0 l)
  (hmid:∀ o S a w G1,l[m]?=some o->S m=false->(∀ j∈bL.getD m [],S j=true)->(∀ k o,G k=some o->G1 k=some o)->St N D w0 F G0 G1 (Lf k0) T a w->(∀ k' i d,i≠m->S i=true->eB l i=some d->∃ v,a.tmps[d]?=some v∧pr k' i v G1) ->
   WL r P l.toArray (fun e a' w'=>e=.normal∧∃ k',DX N D w0 F G0 G (Lf k') T l (pr k') (dB S m) a' w') [o] a w)
  (hend:∀ k a w G1,(∀ k o,G k=some o->G1 k=some o)->St N D w0 F G0 G1 (Lf k) T a w->(∀ i d,B.contains i=false->eB l i=some d->∃ v,a.tmps[d]?=some v∧pr k i v G1)->WL r P l.toArray (fun e a w=>e=.normal∧Q .normal a w) (qC l B) a w):WP r P (.region id l.toArray true) Q a w:=by
 refine GR hm bL B hk hB (fun S a w=>∃ k,(S m=false->k=k0)∧DX N D w0 F G0 G (Lf k) T l (pr k) S a w) ⟨k0,fun _=>rfl,G,fun _ _ h=>h,H.move H.hp.drew,fun _ _ h=>absurd (show false=true from h) (by decide)⟩ ?_ ?_
 ·rintro i o S a w ho hb aO kI hdesc ⟨k,hk0,G1,hG,HS,hv⟩
  by_cases hi:i=m
  ·subst hi
   have hno:∀ j,j < l.length->S j=true->(bL.getD j []).contains i=false:=fun j hjl hj=>by
    cases hc:(bL.getD j []).contains i with
    | false=>rfl
    | true =>
     have:=hdesc j hjl (by simpa using hc)
     rw [this] at hj;cases hj
   obtain rfl:=hk0 aO
   refine oN (fun e a' w' ⟨he,k',hD⟩=>⟨he,k',fun h=>(by rw [show dB S i i=true from aG rfl] at h;cases h),hD⟩) (hmid o S a w G1 ho aO kI hG HS fun k' j d hj hSj hd=>by
    obtain ⟨v,hv1,hv2⟩:=hv j d hSj hd
    exact ⟨v,hv1,hp k k' j v _ (uK hj) (hno j (uP hd) hSj) hv2⟩)
  ·have h:=zD hstep i o ho
   rw [gI] at h
   exact oN (fun e a' w' ⟨he,hD⟩=>⟨he,k,fun h=>hk0 (by rwa [show dB S i m=S m from av fun e=>hi e.symm] at h),hD⟩) (h k S a w G1 hb (uK hi) aO kI hG HS hv)
 ·rintro S a w hall Ko ⟨k,-,G1,hG,HS,hv⟩
  exact hend k a w G1 hG HS fun j d hb hd=>hv j d (hall j (uP hd) hb) hd
end
end
theorem aro:dH prog 79 0 0:=⟨by kernel_rfl⟩
theorem arp:dH prog 79 1 1:=⟨by kernel_rfl⟩
theorem arq:dH prog 79 2 2:=⟨by kernel_rfl⟩
theorem ars:dH prog 79 3 3:=⟨by kernel_rfl⟩
theorem EF.row {G:GH} {L:OL} {but:List Int} {B:Option Addr} {c:Nat} {xs:List ah} (h:cu 3 1 (.slice B but.length c) but.length xs L) (hx:xs=but.map vi):EF G L B but:=fun i hi=>by
 rcases h.2 with ⟨-,h0,-⟩|⟨b,cap,cur,e,rfl,h1,h2,h3,h4⟩
 ·omega
 injection e with e1 e2 e3
 subst e1;refine ⟨b,0,rfl,.inr ⟨cur,eT,?_⟩⟩
 have h5:(cur.toList.take (but.length*1))[i]?=some (vi but[i]):=by rw [h4,hx];simp [hi]
 rw [uH,mQ] at h5;rw [Nat.mul_one,gI]
 simpa using h5
theorem afB:∀ l:List Int,(l.map fun k=>[vi k]).flatten=l.map vi
 | []=>rfl
 | x :: l=>by rw [eZ,List.flatten_cons,afB l];rfl
theorem ado {G:GH}:∀ {l:List Int} {xs:List ah},bZ G 1 (l.map fun k=>[li k]) xs->xs=l.map vi:=by
 rintro l _ ⟨css,rfl,hl,h⟩;rw [bQ] at hl
 have e:css=l.map fun k=>[vi k]:=by
  refine List.ext_getElem (by simpa using hl) fun i h1 h2=>?_
  have hi:i < l.length:=by simpa using h2
  have h3:=(h i [li l[i]] css[i] (by simp [hi]) (by simp [h1])).1;rw [List.getElem_map]
  simp only [aY] at h3
  obtain ⟨_,_,e,⟨rfl,-⟩,rfl⟩:=h3;exact e
 rw [e];exact afB l
theorem Un {p:Prop} (h:p:=by
 exact Dx HT Hb hG hv (QI aK) H rfl):p:=h
theorem ame {p:Prop} (h:p:=by
 exact Dx HT Hb hG hv (yX jG) H rfl):p:=h
theorem JB {p:Prop} (h:p:=by
 (iterate 8 (rcases i with _|i;(first|exact h|exact absurd hi (by decide)|exact absurd hc (by decide))));exact trivial):p:=h
theorem acD {p:Prop} (h:p:=by
 have Hb:=H.full;have H:=Hb;clear hc;refine qE oq H wn rfl (H.hp.zW (fF _ (gK _ eT)) rfl) rfl ?_;clear H;intro a H;refine aD ⟨rfl,?_⟩;exact Un):p:=h
theorem Mj {p:Prop} (h:p:=by
 clear H;intro a H;refine aD ⟨rfl,?_⟩;exact ame):p:=h
theorem abS {p:Prop} (h:p:=by
 clear aO;have Hb:=H.full;have H:=Hb;clear hc;refine bP wW (cs:=[_,_]) H wn rfl rfl (H.hp.dx 0 rfl rfl) rfl ?_;exact GD):p:=h
set_option maxHeartbeats 2000000 in
theorem anU (G:GH) (w0:World) (hG:Hold G w0) (A1 R1 A2 R2:List Int) (a1 r1 a2 r2:Option Addr) (an ac rn rc bn bc sn sc:Nat) (h1:au G (.sl 1 (A1.map fun k=>[li k])) (.slice a1 an ac)) (h2:au G (.sl 1 (R1.map fun k=>[li k])) (.slice r1 rn rc)) (h3:au G (.sl 1 (A2.map fun k=>[li k])) (.slice a2 bn bc)) (h4:au G (.sl 1 (R2.map fun k=>[li k])) (.slice r2 sn sc)) (l1:A1.length<=4294967296) (l2:R1.length<=4294967296) (l3:A2.length<=4294967296) (l4:R2.length<=4294967296) :
  Calls prog 35 #[.agg #[.slice a1 an ac,.slice r1 rn rc,.slice a2 bn bc,.slice r2 sn sc]] w0 (bK w0 G fun u G'=>∃ (A R B S:List Int) (va vr vb vs:ah),u=.tuple #[.agg #[va,vr],.agg #[vb,vs]]∧au G' (.sl 1 (A.map fun k=>[li k])) va∧au G' (.sl 1 (R.map fun k=>[li k])) vr∧au G' (.sl 1 (B.map fun k=>[li k])) vb∧au G' (.sl 1 (S.map fun k=>[li k])) vs∧xk [] A∧xk A R∧xk (A++R) B∧xk (A++R++B) S):=by
 have hml:maxLen=9223372036854775807:=rfl;refine eN [(0,_)] func35 rfl ntmps35 rfl rfl hG ?_;intro a H;refine cO (fun _ K1=>?_);refine dW (cs:=[_,_,_,_]) H wn rfl rfl rfl ?_;clear H;intro b1 a w hb1 H;refine dO wW H wn rfl ?_;clear H;intro b2 a w hb2 H;refine dO wW H wn rfl ?_;clear H;intro b3 a w hb3 H;refine K1 _ _ ?_;clear K1;refine bD (fun _ K2=>?_);have H:=H.eD (Pl:=[_,_,_]) (dN:=[_,_,_]) [2,0,1] (by decide) rfl;obtain ⟨Ga,hma,hb',H⟩:=H.fB;have hgs:=fun j v hj=>pR hb' 0 [.slice a1 an ac,.slice r1 rn rc,.slice a2 bn bc,.slice r2 sn sc] rfl j v hj;replace h1:=h1.mono hma;replace h2:=h2.mono hma;replace h3:=h3.mono hma;replace h4:=h4.mono hma;refine kP H (SC (Rf aro rfl (Rg oq rfl (hgs 0 _ rfl) ?_)));clear H;intro a H;refine gy PZ (Li:=[_,_]) (L:=[]) H wn rfl (Q6 _ _ [] (wT H.ro) A1 [] _ none 0 h1 (fun i hi=>absurd hi (Nat.not_lt_zero _)) l1 (by decide)) rfl ?_;clear H;rintro v7 G7 L7 a w ⟨rfl,A,hA,sW⟩ vQ H;obtain ⟨A7,n7,c7,rfl⟩:=sW.form
 obtain rfl:n7=A.length:=by have:=sW.len;rwa [bQ] at this
 have hAl:=hA.len;replace h2:=h2.mono vQ;replace h3:=h3.mono vQ;replace h4:=h4.mono vQ;replace hgs:=fun j v hj=>aF vQ (hgs j v hj);refine kH H (Rf Co rfl ?_);clear H;intro a H;refine bC oq 1 (vs:=[_]) H wn rfl ?_;clear H;intro w H;refine kH H (Kn K2 (SR fun _ K3=>Rf arp rfl (Rg oq rfl (hgs 1 _ rfl) (bq Co oq 1 rfl rfl ?_))));clear H K2;intro a H;refine gy PZ (Li:=[_,_]) (L:=[]) H wn rfl (Q6 _ _ [] (wT H.ro) R1 A _ A7 c7 h2 (EF.of sW) l2 (by omega)) rfl ?_;clear H;rintro v13 FT L13 a w ⟨rfl,R,hR,Fa⟩ Ba H;obtain ⟨I5,n13,c13,rfl⟩:=Fa.form
 obtain rfl:n13=R.length:=by have:=Fa.len;rwa [bQ] at this
 have hRl:=hR.len;replace sW:=sW.mono Ba;replace h3:=h3.mono Ba;replace h4:=h4.mono Ba;replace hgs:=fun j v hj=>aF Ba (hgs j v hj);refine kH H (Rf EN rfl ?_);clear H;intro a H;refine bC oq 1 (vs:=[_]) H wn rfl ?_;clear H;intro w H;refine K3 _ _ ?_;clear K3;refine bD (fun _ K4=>?_)
 have QI:Jd (fun (aK:Nat->ah × OL) (bT:Nat) (v:ah) (G:GH)=>match bT with|0=>v=(aK 0).1∧cu 3 1 v 0 [] (aK 0).2|1=>v=(aJ b2 (0+0))|2=>v=.slice A7 A.length c7|3=>v=(aK 3).1∧∃ xs,cu 3 1 v A.length xs (aK 3).2∧bZ G 1 (A.map fun q=>[li q]) xs|4=>v=(aJ b2 (0+1))|5=>v=.slice I5 R.length c13|6=>v=(aK 6).1∧∃ xs,cu 3 1 v (A++R).length xs (aK 6).2∧bZ G 1 ((A++R).map fun q=>[li q]) xs|_=>True):=by intro aK bT v G G' hm h;(iterate 8 (rcases bT with _|bT;(first|exact h|exact let ⟨h1,xs,h2,h3⟩:=h;⟨h1,xs,h2,h3.mono hm⟩)));exact trivial
 refine adk [0,3,6] [(0,3),(3,6)] (hmx) [[],[],[1],[0,1,2],[],[4],ra 0 6,ra 0 7] [7] (by kernel_rfl) (by kernel_rfl) (by decide) (by kernel_rfl) (by decide) (fun (aK:Nat->ah × OL) (bT:Nat) (v:ah) (G:GH)=>match bT with|0=>v=(aK 0).1∧cu 3 1 v 0 [] (aK 0).2|1=>v=(aJ b2 (0+0))|2=>v=.slice A7 A.length c7|3=>v=(aK 3).1∧∃ xs,cu 3 1 v A.length xs (aK 3).2∧bZ G 1 (A.map fun q=>[li q]) xs|4=>v=(aJ b2 (0+1))|5=>v=.slice I5 R.length c13|6=>v=(aK 6).1∧∃ xs,cu 3 1 v (A++R).length xs (aK 6).2∧bZ G 1 ((A++R).map fun q=>[li q]) xs|_=>True) (fun m hm x y i v G hi hc h=>by
  have hm:m=0∨m=3∨m=6:=by simpa using hm
  rcases hm with rfl|rfl|rfl
  ·exact JB
  ·exact JB
  ·exact JB
  ) H ?_ ?_ ?_
 ·clear H;refine ay ?_ ?_ ?_ ?_ (ay ?_ ?_ ?_ ?_ cK)
  ·exact xG
  ·intro aK dM bH a w G1 fF _ _ aO hc hG HT hv;have H:=HT;clear aO;have Hb:=H.full;have H:=Hb;clear hc;refine kH H (Rf Co rfl ?_);clear H;intro a H;refine aD ⟨rfl,?_⟩;exact Un
  ·intro aK dM bH a w G1 fF _ _ aO hc hG HT hv;have H:=HT;clear aO;have H:=H.aM (hv 1 16 (hc 1 (by decide)) rfl) rfl;exact acD
  ·exact xG
  ·intro aK dM bH a w G1 fF _ _ aO hc hG HT hv;have H:=HT;clear aO;have Hb:=H.full;have H:=Hb;clear hc;refine kH H (Rf EN rfl ?_);clear H;intro a H;refine aD ⟨rfl,?_⟩;exact Un
  ·intro aK dM bH a w G1 fF _ _ aO hc hG HT hv;have H:=HT;clear aO;have H:=H.aM (hv 4 19 (hc 4 (by decide)) rfl) rfl;exact acD
  ·exact xG
  exact GL
 ·clear H;refine ay ?_ ?_ ?_ ?_ (ay ?_ ?_ ?_ ?_ cK)
  ·intro _ aK dM bH a w G1 fF _ hc hG HT hv;have H:=HT;have H:=H.cast (show CQ [(0,3),(3,6)] aK 0++dM=dM from rfl);have Hb:=H.full;have H:=Hb;clear hc;refine Aa iG aC H wn rfl ?_;clear H;intro b15 a w agi H;refine aD ⟨rfl,(.slice (some ⟨b15,0,none⟩) 0 0,[(b15,.cells #[] 3 (0,0))]),?_⟩;exact xK (by kernel_rfl) (QI (mJ aK 0 (.slice (some ⟨b15,0,none⟩) 0 0,[(b15,.cells #[] 3 (0,0))]))) rfl HT Hb hG (fun j e h1 h2 h3=>(let ⟨v,q1,_,q2⟩:=hv (.slice (some ⟨b15,0,none⟩) 0 0,[(b15,.cells #[] 3 (0,0))]) j e h1 h2 h3;⟨v,q1,q2⟩)) (fun _ _ h=>h) (⟨rfl,cu.empty⟩) H
  ·intro hB;exact gL
  ·intro hB;exact gL
  ·intro _ aK dM bH a w G1 fF _ hc hG HT hv;have H:=HT;have H:=H.cast (show CQ [(0,3),(3,6)] aK 3++dM=(aK 0).2++dM from rfl);obtain ⟨u15,Xx,Bd,-⟩:=hv (.bool false,[]) 0 15 (by decide) (hc 0 (by decide)) rfl;(try dsimp only at Bd);obtain ⟨jK,Nu⟩:=Bd;have H:=H.iI Xx;obtain ⟨u17,Xy,Ib,-⟩:=hv (.bool false,[]) 2 17 (by decide) (hc 2 (by decide)) rfl;obtain rfl:u17=.slice A7 A.length c7:=Ib;have H:=H.iI Xy;have Hb:=H.full;have H:=Hb;clear hc;refine NZ iG aC rfl rfl (Li:=dM) (Lo:=(aK 0).2) (H.perm pK) wn rfl rfl Nu (sW.mono hG) (by omega) (by omega) rfl ?_;clear H;intro v18 TD n18 a w CF WR H;have Wy:=fun (b:Nat) (o:Obj) (h:G1 b=some o)=>h;rw [gI,jR] at CF;have H:=H.perm pK;refine aD ⟨rfl,(v18,TD),?_⟩;exact xK (by kernel_rfl) (QI (mJ aK 3 (v18,TD))) rfl HT Hb hG (fun j e h1 h2 h3=>(let ⟨v,q1,_,q2⟩:=hv (v18,TD) j e h1 h2 h3;⟨v,q1,q2⟩)) Wy (⟨rfl,_,CF,WR⟩) H
  ·intro hB;exact gL
  ·intro hB;exact gL
  ·intro _ aK dM bH a w G1 fF _ hc hG HT hv;have H:=HT;have H:=H.cast (show CQ [(0,3),(3,6)] aK 6++dM=(aK 3).2++dM from rfl);obtain ⟨u18,NC,Fb,-⟩:=hv (.bool false,[]) 3 18 (by decide) (hc 3 (by decide)) rfl;(try dsimp only at Fb);obtain ⟨h18,aCY,CF,WR⟩:=Fb;have H:=H.iI NC;obtain ⟨u20,auT,aup,-⟩:=hv (.bool false,[]) 5 20 (by decide) (hc 5 (by decide)) rfl;obtain rfl:u20=.slice I5 R.length c13:=aup;have H:=H.iI auT;have Hb:=H.full;have H:=Hb;clear hc;refine NZ iG aC rfl rfl (Li:=dM) (Lo:=(aK 3).2) (H.perm pK) wn rfl rfl CF (Fa.mono hG) (by omega) (by omega) rfl ?_;clear H;intro v21 zu n21 a w CG J8 H;have EW:=fun (b:Nat) (o:Obj) (h:G1 b=some o)=>h;have H:=H.perm pK;refine aD ⟨rfl,(v21,zu),?_⟩;exact xK (by kernel_rfl) (QI (mJ aK 6 (v21,zu))) rfl HT Hb hG (fun j e h1 h2 h3=>(let ⟨v,q1,_,q2⟩:=hv (v21,zu) j e h1 h2 h3;⟨v,q1,q2⟩)) EW (⟨rfl,_,by rw [iw];exact CG,by rw [kF];exact WR.append J8⟩) H
  intro hB;exact gL
 clear H;intro aK a w G rV H hv;rw [show iM [0,3,6] (live [(0,3),(3,6)] fun _=>true) aK=(aK 6).2 from by first|(simp [iM,live];done)|(simp [iM,live];rfl)] at H
 try simp only [iM,List.flatMap_cons,List.flatMap_nil,cond_true,ig,iZ] at H
 obtain ⟨u21,hu21,agT⟩:=hv 6 21 (by decide) rfl;(try dsimp only at agT);obtain ⟨h21,aCZ,CG,J8⟩:=agT;have H:=H.iI hu21;clear hv;obtain ⟨⟨v21,zu⟩,e21⟩:∃ y,y=aK 6:=⟨_,rfl⟩;rw [<- e21] at H h21 CG;dsimp only at H h21 CG;subst h21;obtain ⟨FP,c21,rfl,-,-⟩:=CG.shape;have H:=H.perm pK;refine kH H (Ra rfl ?_);clear H;intro a H;refine aD ⟨rfl,?_⟩;refine K4 _ _ ?_;clear K4;refine bD (fun _ K5=>?_);have avi:=ado J8;replace sW:=sW.mono rV;replace Fa:=Fa.mono rV;replace h3:=h3.mono rV;replace h4:=h4.mono rV;replace hgs:=fun j v hj=>aF rV (hgs j v hj);refine kP H (SC (Rf arq rfl (Rg oq rfl (hgs 2 _ rfl) (Rm rfl ?_))));clear H;intro a H;refine gy PZ (Li:=[_,_]) (L:=zu) H wn rfl (Q6 _ _ zu (Hp.owns (Li:=[_,_]) H.hp) A2 (A++R) _ FP c21 h3 (EF.row CG avi) l3 (by rw [iw];omega)) rfl ?_;clear H;rintro v25 FV L25 a w ⟨e25,B,hB,QG⟩ oU H;obtain rfl:=e25.symm;obtain ⟨Ow,n25,Px,rfl⟩:=QG.form
 obtain rfl:n25=B.length:=by have:=QG.len;rwa [bQ] at this
 have hBl:=hB.len;replace sW:=sW.mono oU;replace Fa:=Fa.mono oU;replace J8:=J8.mono oU;replace h4:=h4.mono oU;replace hgs:=fun j v hj=>aF oU (hgs j v hj);refine kH H (Rf Co rfl ?_);clear H;intro a H;refine bC oq 0 (vs:=[_]) H wn rfl ?_;clear H;intro w H;refine aD ?_;refine K5 _ _ ?_;clear K5;refine bD (fun _ K6=>?_)
 have yX:Jd (fun (jG:ah × OL) (bT:Nat) (v:ah) (G:GH)=>match bT with|0=>v=(aJ b1 (0+3))|1=>v=.slice r2 sn sc|2=>v=.slice FP (A++R).length c21|3=>v=(aJ b3 (0+0))|4=>v=.slice Ow B.length Px|5=>v=jG.1∧∃ xs,cu 3 1 v (A++R++B).length xs jG.2∧bZ G 1 ((A++R++B).map fun q=>[li q]) xs|_=>True):=by intro jG bT v G G' hm h;(iterate 9 (rcases bT with _|bT;(first|exact h|exact let ⟨h1,xs,h2,h3⟩:=h;⟨h1,xs,h2,h3.mono hm⟩)));exact trivial
 refine ams (κ:=ah × OL) ((.slice FP (A++R).length c21,zu)) (fun k_=>(b3,.cells #[.slice Ow B.length Px,.slice none 0 0] 43 (0,0)) :: (b2,.cells #[.slice A7 A.length c7,.slice I5 R.length c13] 43 (0,0)) :: k_.2) (hmx) [[],[0],[],[],[3],[2,3,4],ra 0 6,ra 0 7,ra 0 8] [6,7,8] (by kernel_rfl) (by kernel_rfl) 5 (fun (jG:ah × OL) (bT:Nat) (v:ah) (G:GH)=>match bT with|0=>v=(aJ b1 (0+3))|1=>v=.slice r2 sn sc|2=>v=.slice FP (A++R).length c21|3=>v=(aJ b3 (0+0))|4=>v=.slice Ow B.length Px|5=>v=jG.1∧∃ xs,cu 3 1 v (A++R++B).length xs jG.2∧bZ G 1 ((A++R++B).map fun q=>[li q]) xs|_=>True) (fun k k' i v G hi hc h=>by (iterate 9 (rcases i with _|i;(first|exact h|exact absurd hi (by decide)|exact absurd hc (by decide))));exact trivial) H ?_ ?_ ?_
 ·clear H;refine ay ?_ ?_ ?_ ?_ (ay ?_ ?_ ?_ ?_ (bF ?_ cK))
  ·intro jG bH a w G1 _ _ aO hc hG HT hv;have H:=HT;clear aO;have Hb:=H.full;have H:=Hb;clear hc;refine kH H (Rf ars rfl ?_);exact Mj
  ·intro jG bH a w G1 _ _ aO hc hG HT hv;have H:=HT;clear aO;have H:=H.aM (hv 0 27 (hc 0 (by decide)) rfl) rfl;have Hb:=H.full;have H:=Hb;clear hc;refine kH H (Rg oq rfl (aF hG (hgs 3 _ rfl)) ?_);exact Mj
  ·intro jG bH a w G1 _ _ aO hc hG HT hv;have H:=HT;clear aO;have Hb:=H.full;have H:=Hb;clear hc;refine kH H (Rm rfl ?_);exact Mj
  ·intro jG bH a w G1 _ _ aO hc hG HT hv;have H:=HT;clear aO;have Hb:=H.full;have H:=Hb;clear hc;refine kH H (Rf Co rfl ?_);exact Mj
  ·intro jG bH a w G1 _ _ aO hc hG HT hv;have H:=HT;clear aO;have H:=H.aM (hv 3 30 (hc 3 (by decide)) rfl) rfl;have Hb:=H.full;have H:=Hb;clear hc;refine qE oq H wn rfl (H.hp.zW eT rfl) rfl ?_;exact Mj
  ·intro _ _ _ _ _ _ hB;exact gL
  ·intro _ _ _ _ _ hB;exact gL
  ·intro _ _ _ _ _ hB;exact gL
  exact Ml
 ·clear H;intro o_ bH a w G1 qB _ hc hG HT hv;obtain rfl:_=o_:=Option.some.inj qB;clear qB;have H:=HT;have H:=H.aM (hv ((.slice FP (A++R).length c21,zu)) 2 29 (by decide) (hc 2 (by decide)) rfl) rfl;have H:=H.aM (hv ((.slice FP (A++R).length c21,zu)) 4 31 (by decide) (hc 4 (by decide)) rfl) rfl;have Hb:=H.full;have H:=Hb;clear hc;have aBO:(A++R).length=A.length+R.length:=iw;refine NZ iG aC rfl rfl (Li:=[_,_]) (Lo:=zu) H wn rfl rfl CG (QG.mono hG) (by omega) (by omega) rfl ?_;clear H;intro v32 LK n32 a w Ky WT H;have asc:=fun (b:Nat) (o:Obj) (h:G1 b=some o)=>h;refine aD ⟨rfl,(v32,LK),?_⟩;exact xK (by kernel_rfl) (yX ((v32,LK))) rfl HT Hb hG (fun j e h1 h2 h3=>hv _ j e h1 h2 h3) asc (⟨rfl,_,by rw [show (A++R++B).length=(A++R).length+B.length from iw];exact Ky,by rw [kF];exact (J8.mono hG).append WT⟩) H
 clear H;intro jG a w G lF H hv;have H:=H.aM (hv 1 28 rfl rfl) rfl;obtain ⟨u32,auU,agU⟩:=hv 5 32 (by decide) rfl;(try dsimp only at agU);obtain ⟨h32,aC0,Ky,WT⟩:=agU;have H:=H.iI auU;clear hv;have OG:=H;obtain ⟨v32,LK⟩:=jG;dsimp only at OG h32 Ky;obtain ⟨A32,c32,e32,-,-⟩:=Ky.shape;rw [e32] at Ky;rw [e32] at OG;have H:=OG;clear OG;have hx32:=ado WT;refine gy PZ (Li:=[_,_]) (L:=LK) H wn rfl (Q6 _ _ LK (Hp.owns (Li:=[_,_]) H.hp) R2 (A++R++B) _ A32 c32 (h4.mono lF) (EF.row Ky hx32) l4 (by rw [iw,iw];omega)) rfl ?_;clear H;rintro v33 ZT L33 a w ⟨e33,S,hS,agV⟩ Nb H;obtain rfl:=e33.symm;obtain ⟨A33,n33,c33,rfl⟩:=agV.form;refine kH H (Rf EN rfl ?_);clear H;intro a H;refine bC oq 0 (vs:=[_]) H wn rfl ?_;clear H;intro w H;refine aD ⟨rfl,?_⟩;refine K6 _ _ ?_;clear K6;refine bD (fun _ K7=>?_);refine adl (hmx) [[],[],[0],[0,1,2]] [3] (by kernel_rfl) (by kernel_rfl) 2 (by decide) (fun (bT:Nat) (v:ah) (G:GH)=>match bT with|0=>v=.agg #[.slice A7 A.length c7,.slice I5 R.length c13]|1=>v=.agg #[.slice Ow B.length Px,.slice A33 n33 c33]|_=>True) 1 ((b2,.cells #[.slice A7 A.length c7,.slice I5 R.length c13] 43 (0,0))) H ?_ ?_ ?_ ?_ (by kernel_rfl)
 ·clear H;refine ay ?_ ?_ ?_ (bR rfl) cK
  ·intro bH a w G1 _ _ aO hc hG HT hv;have H:=HT;clear aO;have Hb:=H.full;have H:=Hb;clear hc;refine bP wW (cs:=[_,_]) H wn rfl rfl (H.hp.dx 1 rfl rfl) rfl ?_;exact GD
  ·intro bH a w G1 _ _ aO hc hG HT hv;have H:=HT;exact abS
  exact Ml
 ·clear H;intro o_ bH a w G1 qB _ hc hG HT hv;obtain rfl:_=o_:=Option.some.inj qB;clear qB;have H:=HT;have H:=H.aM (hv 0 35 (hc 0 (by decide)) rfl) rfl;have Hb:=H.full;have H:=Hb;clear hc;refine bC wW 1 (vs:=[_,_]) H wn rfl ?_;exact abF
 ·clear H;refine ay (bR rfl) ?_ ?_ (bR rfl) cK
  ·intro bH a w G1 _ _ aO hc hG HT hv;have H:=HT;dsimp only [List.set,List.append,lca,bJ] at H;exact abS
  exact Ml
 clear H;intro a w G kV H hv;dsimp only [List.set,List.append,lca,bJ] at H;have H:=H.aM (hv 1 36 rfl rfl) rfl;clear hv;refine bC wW 0 (vs:=[_,_]) H wn rfl ?_;clear H;intro w H;refine aD ⟨rfl,?_⟩;refine K7 _ _ ?_;clear K7;refine eO ?_;refine (jU H results35 (.cons (ny wW (cs:=[_,_]) H rfl rfl (H.hp.dx 1 rfl rfl)) (.cons (ny wW (cs:=[_,_]) H rfl rfl (H.hp.dx 0 rfl rfl)) .nil)) ?_).1;exact H.rt ⟨A,R,B,S,_,_,_,_,rfl,((sW.mono lF).mono Nb).mono kV,((Fa.mono lF).mono Nb).mono kV,((QG.mono lF).mono Nb).mono kV,agV.mono kV,hA,hR,hB,hS⟩
theorem aiA {d:gG} (h:iL d=0):Je d.flow:=by
 have h1:=lu h _ (gK _ (gK _ eT));exact Je.of (PI h1)
end Go.Proofs.YtdiflmikikiedaaGreat
