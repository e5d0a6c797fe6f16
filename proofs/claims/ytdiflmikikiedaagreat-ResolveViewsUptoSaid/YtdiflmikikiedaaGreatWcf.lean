/-
  What the claim stands on, part 6: Nm Nml Nd13 Hg24 Ne13 Npre Rv24 Dx24 Cd24 Wh24 Dn Mw24 Kt Par Pas L14 L14b L14c It Div Nrm L14d L14e Sl Sm16 Kn24 Eqi En Stq Dms.
-/
import Derived.Test.YtdiflmikikiedaaGreatWce
namespace Go.Proofs.YtdiflmikikiedaaGreat
set_option linter.all false
open Go.Proofs.Tryz
set_option maxRecDepth 20000
set_option maxHeartbeats 4000000
open Go.RowKit
theorem SS:∀ args w,(callFunc 58 args).run prog w=.ok (.enter 58 args) w:=enters func58 rfl (by kernel_rfl)
theorem ahM:∀ args w,(callFunc 109 args).run prog w=.ok (.enter 109 args) w:=enters func109 rfl (by kernel_rfl)
theorem Iw:∀ args w,(callFunc 52 args).run prog w=.ok (.enter 52 args) w:=enters func52 rfl (by kernel_rfl)
theorem ahO:∀ args w,(callFunc 112 args).run prog w=.ok (.enter 112 args) w:=enters func112 rfl (by kernel_rfl)
theorem aiD:∀ args w,(callFunc 173 args).run prog w=.ok (.enter 173 args) w:=enters func173 rfl (by kernel_rfl)
theorem ahN:∀ args w,(callFunc 111 args).run prog w=.ok (.enter 111 args) w:=enters func111 rfl (by kernel_rfl)
theorem apS {G:GH} (r:aU):tH (.func (.func 112) #[] #[]) G r.dat (decide (r.cells.length=0)):=by
 intro G1 w0 cs hm hG hr;refine jo (caps:=[]) ahO ?_;obtain ⟨pA,pn,pc,dA,dn,dc,yA,yn,yc,fA,fn,fc,rfl,-,hf⟩:=hr.row;have hn:=hf.len;rw [bO] at hn;subst hn;refine eN [(0,_)] func112 rfl ntmps112 rfl rfl hG ?_;intro a H;refine fK (fun _ K1=>?_);refine dW (cs:=[_,_,_,_,_,_]) H wn rfl rfl rfl ?_;clear H;intro b1 a w hb1 H;exact kH H (aF K1 rfl (SR fun _ K2=>dU Ej DF 0 rfl rfl (Rl vB rfl (Rc rfl (aF K2 rfl (LR results112 rfl fun H=>H.rt (dG (decide_eq_decide.2 (by omega)))))))))
theorem ahu (G:GH) (w0:World) (hG:Hold G w0) (l:List aU) (v:aj) (hv:au G (.sl 6 (l.map aU.dat)) v) (hne:∀ r∈l,r.cells≠[]) :
  Calls prog 109 #[v,.func (.func 112) #[] #[]] w0 (bB w0 G fun u G'=>au G' (.sl 6 (l.map aU.dat)) u):=by
 obtain ⟨A,n,c,rfl⟩:=hv.form
 have hno:l.findIdx? (fun r=>decide (r.cells.length=0))=none:=by
  rw [List.findIdx?_eq_none_iff];intro r hr;exact jf fun h=>hne r hr (List.length_eq_zero_iff.1 h)
 refine eN [(0,_),(1,_)] func109 rfl ntmps109 rfl rfl hG ?_;intro a H;refine kP H (SR fun _ K1=>aF K1 rfl (SR fun _ K2=>Rm rfl (Rm rfl ?_)));clear H K1;intro a H;refine s_call aiC H wn rfl (aoH _ _ H.ro l (fun r=>decide (r.cells.length=0)) _ _ hv (fun r _=>apS r)) rfl ?_;clear H;rintro v10 zD a w rfl yS H;rw [hno] at H;refine kH H (aF K2 rfl (SQ fun _ K3=>SR fun _ K4=>Rm rfl (Rc rfl (Kz K4 (Cd rfl ?_ ?_))))) <;> clear H K2 K4
 ·intro h12 a H
  exact kP H (SR fun _ K5=>Rm rfl (aF K5 rfl (LR results109 rfl fun H=>H.rt (hv.mono yS))))
 intro h12 a H
 try have qo:=dF h12
 exact absurd rfl qo
def Fv (n:Nat):Prop:=∀ (G:GH) (w0:World),Hold G w0→∀ (l:List ay) (v:aj),au G (.sl 11 (l.map ay.dat)) v→uY l→cu l < n →
 Calls prog 58 #[v] w0 (bB w0 G fun u G'=>au G' (.sl 11 ((nZ l).map ay.dat)) u)
theorem apN {n:Nat} (ih:Fv n) (hn:n≤4294967296) (G:GH) (w0:World) (hG:Hold G w0) (x:aZ) (cs:List aj) (hv:aV G x.dat cs) (hne:EL x) (hz:bZ x.dat < n+1) :
  Calls prog 173 #[.agg cs.toArray] w0 (bB w0 G fun u G'=>∃ cs',u=.agg cs'.toArray∧aV G' (nC x).dat cs'):=by
 have he:=DJ x;obtain ⟨pA,pn,pc,dA,dn,dc,yA,yn,yc,fA,fn,fc,rfl,hh,hf⟩:=hv.cell;rw [apD] at hne;refine eN [(0,_)] func173 rfl ntmps173 rfl rfl hG ?_;intro a H;refine fK (fun _ K1=>?_);refine dW (cs:=[_,_,_,_,_,_,_]) H wn rfl rfl rfl ?_;clear H;intro b1 a w hb1 H;refine dJ jL H wn rfl ?_;clear H;intro b2 a w hb2 H;refine K1 _ _ ?_;clear K1;refine eY (fun _ K2=>?_)
 have dO:AY (fun (bQ:Nat) (v:aj) (G:GH)=>match bQ with|0=>v=(aM b1 0)|1=>v=vi x.id|2=>v=(aM b1 1)|3=>v=.agg #[.slice pA pn pc,vi x.head.marks.ins,vi x.head.marks.move,.slice dA dn dc,.slice yA yn yc]|4=>∃ p d l,v=.agg #[p,vi x.head.marks.ins,vi x.head.marks.move,d,l]∧iA G x.head p d l|5=>v=(aM b1 6)|6=>v=.slice fA fn fc|7=>au G (.sl 11 ((nZ x.flow).map ay.dat)) v|_=>True):=by intro bQ v G G' hm h;(iterate 10 (rcases bQ with _|bQ;(first|exact h|exact let ⟨p,d,l,h1,h2⟩:=h;⟨p,d,l,h1,h2.mono hm⟩|exact au.mono hm h)));exact trivial
 refine zK (hmx) [[],[0],[],[2],[2,3],[],[5],(ra 2 5),(ra 0 8),(ra 0 9)] [8,9] (by kernel_rfl) (by kernel_rfl) _ dO H ?_ ?_
 ·clear H;refine aD ?_ ?_ ?_ ?_ (aD ?_ ?_ ?_ ?_ (bM (bS rfl) (bM (bS rfl) cO)))
  ·refine cZ [] rfl trivial (by kernel_rfl) dO rfl rfl ?_;intro aP a w G1 hG HT H fin;exact kH H (Rf Tn rfl fun _ H=>fin H iJ rfl)
  ·refine cZ [(0,3,_)] rfl ⟨fun _ _ h=>h,aL⟩ (by kernel_rfl) dO rfl rfl ?_;intro aP a w G1 hG HT H fin;exact kH H (Ro aT 1 rfl fun _ H=>fin H iJ rfl)
  ·refine cZ [] rfl trivial (by kernel_rfl) dO rfl rfl ?_;intro aP a w G1 hG HT H fin;exact kH H (Rf Ou rfl fun _ H=>fin H iJ rfl)
  ·refine cZ [(2,5,_)] rfl ⟨fun _ _ h=>h,aL⟩ (by kernel_rfl) dO rfl rfl ?_;intro aP a w G1 hG HT H fin;refine aR dB (cs:=[_,_,_,_,_]) H wn rfl rfl (H.hp.bT 1 rfl rfl) rfl ?_;clear H;intro a H;exact fin H iJ rfl
  ·refine cZ [(3,6,_)] rfl ⟨fun _ _ h=>h,aL⟩ (by kernel_rfl) dO rfl rfl ?_;intro aP a w G1 hG HT H fin;refine s_call FB H wn rfl (Fy _ _ H.ro x.head _ _ _ _ _ _ _ _ _ (hh.mono hG) (by omega)) rfl ?_;clear H;rintro v7 G7 a w Da KW H;exact fin H KW (Da)
  ·refine cZ [] rfl trivial (by kernel_rfl) dO rfl rfl ?_;intro aP a w G1 hG HT H fin;exact kH H (Rf Ov rfl fun _ H=>fin H iJ rfl)
  ·refine cZ [(5,8,_)] rfl ⟨fun _ _ h=>h,aL⟩ (by kernel_rfl) dO rfl rfl ?_;intro aP a w G1 hG HT H fin;exact kH H (Ro lS 1 rfl fun _ H=>fin H iJ rfl)
  refine cZ [(6,9,_)] rfl ⟨fun _ _ h=>h,aL⟩ (by kernel_rfl) dO rfl rfl ?_;intro aP a w G1 hG HT H fin;refine s_call SS H wn rfl (ih _ _ H.ro x.flow _ (hf.mono hG) hne (by omega)) rfl ?_;clear H;rintro v10 zD a w uj ru H;exact fin H ru (uj)
 clear H;intro a w G iY H hv;have H:=H.aN (hv 1 4 rfl rfl) rfl;obtain ⟨u7,Vh,Da⟩:=hv 4 7 (by decide) rfl;(try dsimp only at Da);obtain ⟨p7,d7,l7,rfl,CU⟩:=Da;obtain ⟨a1,a2,a3,rfl⟩:=CU.props.form;obtain ⟨a4,a5,a6,rfl⟩:=CU.bH.form;obtain ⟨a7,a8,a9,rfl⟩:=CU.layers.form;have H:=H.gI Vh;obtain ⟨u10,L9,uj⟩:=hv 7 10 (by decide) rfl;(try dsimp only at uj);obtain ⟨Xn,n10,c10,rfl⟩:=uj.form;have H:=H.gI L9;clear hv;refine jl QA [_,_,_,_,_,_,_] H wn rfl rfl rfl rfl ?_;clear H;intro a H;refine aY jL 0 (vs:=[_,_,_,_,_,_,_]) _ H wn rfl rfl rfl rfl rfl rfl rfl rfl ?_;clear H;intro w H;dsimp only [List.set,setRow] at H;refine aC ⟨rfl,?_⟩;refine K2 _ _ ?_;clear K2;refine cK ?_;refine (leave1 H results173 (.cons (nH jL (cs:=[_,_,_,_,_,_,_]) H rfl rfl (H.hp.bT 0 rfl rfl)) .nil) ?_).1;exact H.rt ⟨_,rfl,by rw [apA];exact aV.Ml (x:=.mk x.id x.head (nZ x.flow)) CU uj⟩
theorem apO {n:Nat} (ih:Fv n) (hn:n≤4294967296) {G:GH} {w0:World} (x:aZ) (hne:EL x) (hz:bZ x.dat < n+1):Cj (.func (.func 173) #[] #[]) w0 G x.dat (nC x).dat:=by
 intro G1 w1 cs hm1 hG1 hr;have h:=apN ih hn _ _ hG1 x cs hr hne hz;have h2:=jo (P:=prog) (caps:=[]) (args:=[.agg cs.toArray]) aiD h;exact h2
theorem apP {n:Nat} (ih:Fv n) (hn:n≤4294967296) (G:GH) (w0:World) (hG:Hold G w0) (x:aU) (cs:List aj) (hv:aV G x.dat cs) (hne:EN x) (hz:bZ x.dat < n+1) :
  Calls prog 111 #[.agg cs.toArray] w0 (bB w0 G fun u G'=>∃ cs',u=.agg cs'.toArray∧aV G' (nR x).dat cs'):=by
 have he:=DK x;have hl:=JW x.cells;obtain ⟨pA,pn,pc,dA,dn,dc,yA,yn,yc,fA,fn,fc,rfl,hh,hf⟩:=hv.row;rw [acJ] at hne;refine eN [(0,_)] func111 rfl ntmps111 rfl rfl hG ?_;intro a H;refine fK (fun _ K1=>?_);refine dW (cs:=[_,_,_,_,_,_]) H wn rfl rfl rfl ?_;clear H;intro b1 a w hb1 H;refine dJ jA H wn rfl ?_;clear H;intro b2 a w hb2 H;refine K1 _ _ ?_;clear K1;refine eY (fun _ K2=>?_)
 have dO:AY (fun (bQ:Nat) (v:aj) (G:GH)=>match bQ with|0=>v=(aM b1 0)|1=>v=.agg #[.slice pA pn pc,vi x.head.marks.ins,vi x.head.marks.move,.slice dA dn dc,.slice yA yn yc]|2=>∃ p d l,v=.agg #[p,vi x.head.marks.ins,vi x.head.marks.move,d,l]∧iA G x.head p d l|3=>v=(aM b1 5)|4=>v=.slice fA fn fc|5=>au G (.sl 7 (x.cells.map fun y=>(nC y).dat)) v|_=>True):=by intro bQ v G G' hm h;(iterate 8 (rcases bQ with _|bQ;(first|exact h|exact let ⟨p,d,l,h1,h2⟩:=h;⟨p,d,l,h1,h2.mono hm⟩|exact au.mono hm h)));exact trivial
 refine zK (hmx) [[],[0],[0,1],[],[3],(ra 0 5),(ra 0 6),(ra 0 7)] [6,7] (by kernel_rfl) (by kernel_rfl) _ dO H ?_ ?_
 ·clear H;refine aD ?_ ?_ ?_ ?_ (aD ?_ ?_ (bS rfl) (bS rfl) cO)
  ·refine cZ [] rfl trivial (by kernel_rfl) dO rfl rfl ?_;intro aP a w G1 hG HT H fin;exact kH H (Rf Ot rfl fun _ H=>fin H iJ rfl)
  ·refine cZ [(0,3,_)] rfl ⟨fun _ _ h=>h,aL⟩ (by kernel_rfl) dO rfl rfl ?_;intro aP a w G1 hG HT H fin;refine aR dB (cs:=[_,_,_,_,_]) H wn rfl rfl (H.hp.bT 1 rfl rfl) rfl ?_;clear H;intro a H;exact fin H iJ rfl
  ·refine cZ [(1,4,_)] rfl ⟨fun _ _ h=>h,aL⟩ (by kernel_rfl) dO rfl rfl ?_;intro aP a w G1 hG HT H fin;refine s_call FB H wn rfl (Fy _ _ H.ro x.head _ _ _ _ _ _ _ _ _ (hh.mono hG) (by omega)) rfl ?_;clear H;rintro v5 G5 a w rD lZ H;exact fin H lZ (rD)
  ·refine cZ [] rfl trivial (by kernel_rfl) dO rfl rfl ?_;intro aP a w G1 hG HT H fin;exact kH H (Rf Ej rfl fun _ H=>fin H iJ rfl)
  ·refine cZ [(3,6,_)] rfl ⟨fun _ _ h=>h,aL⟩ (by kernel_rfl) dO rfl rfl ?_;intro aP a w G1 hG HT H fin;exact kH H (Ro DF 1 rfl fun _ H=>fin H iJ rfl)
  refine cZ [(4,7,_)] rfl ⟨fun _ _ h=>h,aL⟩ (by kernel_rfl) dO rfl rfl ?_;intro aP a w G1 hG HT H fin;refine s_call Zj H wn rfl (Y7 nC _ _ H.ro x.cells _ _ (hf.mono hG) (by omega) (fun y hy=>apO ih hn y (acH hne.2 y hy) (by have:=aeW hy;omega))) rfl ?_;clear H;rintro v8 G8 a w nk oM H;exact fin H oM (nk)
 clear H;intro a w G iY H hv;obtain ⟨u5,Gw,rD⟩:=hv 2 5 (by decide) rfl;(try dsimp only at rD);obtain ⟨p5,d5,l5,rfl,sV⟩:=rD;obtain ⟨a1,a2,a3,rfl⟩:=sV.props.form;obtain ⟨a4,a5,a6,rfl⟩:=sV.bH.form;obtain ⟨a7,a8,a9,rfl⟩:=sV.layers.form;have H:=H.gI Gw;obtain ⟨u8,Ai,nk⟩:=hv 5 8 (by decide) rfl;(try dsimp only at nk);obtain ⟨A8,n8,c8,rfl⟩:=nk.form;have H:=H.gI Ai;clear hv;refine jl Qz [_,_,_,_,_,_] H wn rfl rfl rfl rfl ?_;clear H;intro a H;refine aY jA 0 (vs:=[_,_,_,_,_,_]) _ H wn rfl rfl rfl rfl rfl rfl rfl rfl ?_;clear H;intro w H;dsimp only [List.set,setRow] at H;refine aC ⟨rfl,?_⟩;refine K2 _ _ ?_;clear K2;refine cK ?_;refine (leave1 H results111 (.cons (nH jA (cs:=[_,_,_,_,_,_]) H rfl rfl (H.hp.bT 0 rfl rfl)) .nil) ?_).1;exact H.rt ⟨_,rfl,by rw [acD];exact aV.Mq (x:=.mk x.head (x.cells.map nC)) sV (by show au _ (.sl 7 ((x.cells.map nC).map aZ.dat)) _;rw [List.map_map];exact nk)⟩
theorem apQ {n:Nat} (ih:Fv n) (hn:n≤4294967296) {G:GH} {w0:World} (x:aU) (hne:EN x) (hz:bZ x.dat < n+1):Cj (.func (.func 111) #[] #[]) w0 G x.dat (nR x).dat:=by
 intro G1 w1 cs hm1 hG1 hr;have h:=apP ih hn _ _ hG1 x cs hr hne hz;have h2:=jo (P:=prog) (caps:=[]) (args:=[.agg cs.toArray]) ahN h;exact h2
theorem joined {G:GH} {o:List ay} {z y:ay} {x0:List aj} {s p d q f r:aj} (hc:bV G 11 (o.map ay.dat) x0) (hl:x0.length=o.length*11) (hh:iA G z.head p d q) (hf:au G (.sl 11 (z.flow.map ay.dat)) f) (hr:au G (.sl 6 (z.rows.map aU.dat)) r) (hs:s=.string (z.text++y.text)) :
  bV G 11 ((o++[rE z y]).map ay.dat) ((x0++[vi z.kind,vi z.code,vi z.id,.string z.text,p,vi z.head.marks.ins,vi z.head.marks.move,d,q,f,r]).set (((o++[z]).length - 1)*11+3) s):=by
 rw [kV,iM,List.length_singleton,Nat.add_sub_cancel,List.set_append_right _ _ (by omega),hl,Kk];refine hc.snoc ?_ rfl;rw [hs];exact aV.mkItem (x:=rE z y) hh hf hr
theorem NK {s:ByteArray} {k:Int} {n:Nat} (hk:k=1):(s.toList == (⟨#[]⟩:ByteArray).toList)=true↔(k=7∧n=0)∨(k=1∧s.size=0):=by
 rw [beq_iff_eq,ByteArray.toList_eq,ByteArray.toList_eq]
 constructor
 ·intro h;refine .inr ⟨hk,?_⟩;have:=aB List.length h
  simpa using this
 rintro (⟨h,-⟩|⟨-,h⟩)
 ·omega
 have:s.data.toList.length=0:=by simpa using h
 rw [List.length_eq_zero_iff.1 this]
theorem apR {n:Nat} (ih:Fv n) (hn:n≤1073741824):Fv (n+1):=by
  intro G w0 hG l v hv hne hz;obtain ⟨A,c,rfl,hc1,hc2,hg⟩:=hv.slice
  have hml:4294967297≤maxLen:=by decide
  have htl:oh l≤cu l:=aeo l;have hll:l.length≤oh l:=VG l;rw [bO] at *;refine eN [(0,_)] func58 rfl ntmps58 rfl rfl hG ?_;intro a H;refine kP H (SR fun _ K1=>aF K1 rfl (SR fun _ K2=>aF K2 rfl (SQ fun _ K3=>SR fun _ K4=>Rm rfl (Rl lT rfl (Rm rfl (Kz K4 (SB ?_)))))));clear H K1 K2 K4;intro a H;skip;refine eH (ι:=Nat × aj × List aj × OL × GH) (Tc:=[(7,_),(8,_)]) (Lc:=[]) (fun gh=>[(3,gh.2.1),(9,vi gh.1)]) (fun gh=>[]++gh.2.2.2.1) (fun gh=>gh.2.2.2.2) (fun gh=>gh.1≤l.length∧bX 68 11 gh.2.1 (uo l gh.1).length gh.2.2.1 gh.2.2.2.1∧bV gh.2.2.2.2 11 ((uo l gh.1).map ay.dat) gh.2.2.1∧(∀ b o,G b=some o→gh.2.2.2.2 b=some o)) (fun gh=>l.length - gh.1) ((0,.slice none 0 0,[],[],G)) (by exact (H).sub ⟨rfl,rfl,rfl,rfl,aL⟩) ?_ ?_
  · exact ⟨by omega,bX.nil,bV.nil,fun _ _ h=>h⟩
  clear H;rintro ⟨k,v,xs,Lo,g⟩ a w hI H;dsimp only at hI H;obtain ⟨hk,hrw,dQ,hgm⟩:=hI;have hol:=aqc hk;obtain ⟨out,hout⟩:∃ o,o=uo l k:=⟨_,rfl⟩;rw [← hout] at hrw dQ hol;dsimp only [lca,bK] at H;refine kP H (SR fun _ K5=>Rc rfl (Kz K5 (SQ fun _ K6=>Cd rfl ?_ ?_))) <;> clear H K5
  · intro h10 a H
    try have iU:=dT h10
    have hk2:k < l.length:=by omega
    have hos:=acU hk2;have hot:=V5 (l:=l) (k:=k) (by omega);have htt:=aep l (k+1);rw [fV hk2,Hl] at htt
    simp only [oh] at htt
    rw [← hout] at hos hot;obtain ⟨vA,vc,rfl,-,-⟩:=hrw.shape;obtain ⟨b,o,pA,pn,pc,dA,dn,dc,yA,yn,yc,fA,fn,fc,rA,rn,rc,rfl,hrow,hhd,hfl,hrs⟩:=FJ hk2 hg;replace hrow:=fun j u hj=>aG hgm (hrow j u hj);have hnx:=acI hne _ (lH hk2);rw [apE] at hnx;obtain ⟨hnf,hnr⟩:=hnx;have hzi:=JX hk2;have hze:=zy l[k];have hrl:=JY l[k].rows
    have anP:∀ r∈l[k].rows.map nR,r.cells≠[]:=fun r hr=>by
      obtain ⟨x,hx,rfl⟩:=List.mem_map.1 hr;have h1:=VW hnr x hx;rw [acJ] at h1;rw [acD];exact fun e=>h1.1 (List.map_eq_nil_iff.1 e)
    refine kP H (Kc K6 (SQ fun _ K7=>SB (SR fun _ K8=>Ri lT gB rfl rfl ?_)));clear H K6;intro a H;refine aR gB (cs:=[_,_,_,_,_,_,_,_,_,_,_]) H wn rfl rfl (fun j v hj=>H.hp.aH (hrow j v hj)) rfl ?_;clear H;intro a H;refine dJ gB H wn rfl ?_;clear H;intro b5 a w hb5 H;refine aY gB 0 (vs:=[_,_,_,_,_,_,_,_,_,_,_]) _ H wn rfl rfl rfl rfl rfl rfl rfl rfl ?_;clear H;intro w H;dsimp only [List.set,setRow] at H;refine K8 _ _ ?_;clear K8;refine kP H (SR fun _ K9=>Rf Bt rfl ?_);clear H;intro a H;refine aR dB (cs:=[_,_,_,_,_]) H wn rfl rfl (H.hp.bT 0 rfl rfl) rfl ?_;clear H;intro a H;refine s_call FB H wn rfl (Fy _ _ H.ro _ _ _ _ _ _ _ _ _ _ (hhd.mono hgm) (by omega)) rfl ?_;clear H;rintro v15 Cn a w ⟨sD,d15,l15,rfl,I6⟩ BD H;obtain ⟨a1,a2,a3,rfl⟩:=I6.props.form;obtain ⟨a4,a5,a6,rfl⟩:=I6.bH.form;obtain ⟨a7,a8,a9,rfl⟩:=I6.layers.form;refine kH H (Rf Bt rfl ?_);clear H;intro a H;refine aY dB 0 (vs:=[_,_,_,_,_]) _ H wn rfl rfl rfl rfl rfl rfl rfl rfl ?_;clear H;intro w H;dsimp only [List.set,setRow] at H;refine K9 _ _ ?_;clear K9;refine kP H (SR fun _ eU=>dU IK lS 0 rfl rfl ?_);clear H;intro a H;refine s_call SS H wn rfl (ih _ _ H.ro l[k].flow _ (hfl.mono fun b o h=>BD b o (hgm b o h)) hnf (by omega)) rfl ?_;clear H;rintro v19 HV a w LP rW H;obtain ⟨Hy,n19,c19,rfl⟩:=LP.form;refine kH H (Rf IK rfl ?_);clear H;intro a H;refine aY lS 0 (vs:=[_]) _ H wn rfl rfl rfl rfl rfl rfl rfl rfl ?_;clear H;intro w H;dsimp only [List.set,setRow] at H;refine eU _ _ ?_;clear eU;refine kP H (SR fun _ fQ=>dU FH DC 0 rfl rfl ?_);clear H;intro a H;refine s_call Zb H wn rfl (Y8 nR _ _ H.ro l[k].rows _ _ (hrs.mono fun b o h=>rW b o (BD b o (hgm b o h))) (by omega) (fun x hx=>apQ ih (by omega) x (VW hnr x hx) (by have:=afa hx;omega))) rfl ?_;clear H;rintro v23 Q0 a w Jl Ev H;rw [show (l[k].rows.map fun x=>(nR x).dat)=(l[k].rows.map nR).map aU.dat by rw [List.map_map];rfl] at Jl;obtain ⟨A23,n23,c23,rfl⟩:=Jl.form;refine s_call ahM H wn rfl (ahu _ _ H.ro (l[k].rows.map nR) _ Jl anP) rfl ?_;clear H;rintro v24 yH a w Jm nX H;obtain ⟨QW,n24,c24,rfl⟩:=Jm.form;have aaY:=Jm.len;rw [bO,bO] at aaY;subst aaY;refine kH H (Rf FH rfl ?_);clear H;intro a H;refine aY DC 0 (vs:=[_]) _ H wn rfl rfl rfl rfl rfl rfl rfl rfl ?_;clear H;intro w H;dsimp only [List.set,setRow] at H;refine fQ _ _ ?_;clear fQ;refine eY (fun _ iF=>?_);obtain ⟨y,hy⟩:∃ y,y=nI l[k]:=⟨_,rfl⟩;have hye:=hy.trans (acC l[k])
    have hyk:y.kind=l[k].kind:=by rw [hye];rfl
    have Mf:y.text=l[k].text:=by rw [hye];rfl
    have Jt:y.head=l[k].head:=by rw [hye];rfl
    have Py:y.rows.length=l[k].rows.length:=by rw [hye];simp [ay.rows]
    rw [← hy] at hos;obtain ⟨Sc,OV⟩:∃ x,x=[vi l[k].kind,vi l[k].code,vi l[k].id,.string l[k].text,.slice a1 a2 a3,vi l[k].head.marks.ins,vi l[k].head.marks.move,.slice a4 a5 a6,.slice a7 a8 a9,.slice Hy n19 c19,.slice QW l[k].rows.length c24]:=⟨_,rfl⟩
    have abu:aV yH y.dat Sc:=by
      rw [OV,hye];exact aV.mkItem (x:=.mk l[k].kind l[k].code l[k].id l[k].text l[k].head (nZ l[k].flow) (l[k].rows.map nR)) (I6.mono fun b o h=>nX b o (Ev b o (rW b o h))) (LP.mono fun b o h=>nX b o (Ev b o h)) Jm
    have OT:=dQ.mono fun b o h=>nX b o (Ev b o (rW b o (BD b o h)));have aaH:∀ b o,G b=some o→yH b=some o:=fun b o h=>nX b o (Ev b o (rW b o (BD b o (hgm b o h))));refine kP H (SC (Rm rfl (Rl lT rfl (gY iF rfl (SB ?_)))));clear H iF;intro a H;refine rR (ι:=Bool) (Tc:=[(3,_),(5,_),(6,_),(7,_),(8,_),(9,_)]) (Lc:=[]) (fun gh=>[(32,.bool gh)]) (fun gh=>[(b5,.cells [vi l[k].kind,vi l[k].code,vi l[k].id,.string l[k].text,.slice a1 a2 a3,vi l[k].head.marks.ins,vi l[k].head.marks.move,.slice a4 a5 a6,.slice a7 a8 a9,.slice Hy n19 c19,.slice QW l[k].rows.length c24].toArray 68 (0,0))]++Lo) (fun gh=>yH) (fun gh=>gh=true↔vM y) (by exact (H).sub ⟨rfl,rfl,rfl,rfl,rfl,rfl,aL⟩) ?_ ?_
    · skip;refine kP H (SC (dU vP aT 0 rfl rfl (Rc rfl (Rm rfl (Sp 36 rfl ?_ ?_))))) <;> clear H
      · intro zR a H
        try have p36:=dT zR
        refine kH H (YF FH zR rfl (YO DC 0 zR rfl (YL tq zR rfl (YC zR rfl (Pt zR rfl (Rm rfl (Sp 42 rfl ?_ ?_))))))) <;> clear H
        · intro kW a H
          try have p42:=dT kW
          refine kH H (fU kW rfl (fU kW rfl (Ku rfl (Ku rfl (Ku rfl (Ks kW rfl (Pt kW rfl (Ra rfl ?_))))))));clear H;intro a H;refine aC ?_;refine ⟨_,by exact (H).sub ⟨rfl,rfl,rfl,rfl,rfl,rfl,rfl,aL⟩,?_⟩;rw [vM,hyk,Py,Mf]
          first
            | exact ⟨fun _=>.inl ⟨p36,by omega⟩,fun _=>by first|rfl|exact iO p42⟩
            | exact ⟨fun h=>(by cases h),fun h=>(by exfalso;omega)⟩
            | exact NK p46
            | fail
        intro kW a H
        try have p42:=dF kW
        refine kH H (YF vP kW rfl (YO aT 0 kW rfl (YC kW rfl (YM kW rfl (Sp 46 rfl ?_ ?_))))) <;> clear H
        · intro h46 a H
          try have p46:=dT h46
          exfalso;omega
        intro h46 a H
        try have p46:=dF h46
        refine kH H (fB h46 rfl (PF kW h46 rfl (Pf kW rfl (Ra rfl ?_))));clear H;intro a H;refine aC ?_;refine ⟨_,by exact (H).sub ⟨rfl,rfl,rfl,rfl,rfl,rfl,rfl,aL⟩,?_⟩;rw [vM,hyk,Py,Mf]
        first
          | exact ⟨fun _=>.inl ⟨p36,by omega⟩,fun _=>by first|rfl|exact iO p42⟩
          | exact ⟨fun h=>(by cases h),fun h=>(by exfalso;omega)⟩
          | exact NK p46
          | fail
      intro zR a H
      try have p36:=dF zR
      refine kH H (fU zR rfl (fU zR rfl (Pf zR rfl (Rm rfl ?_))));clear H;intro a H;refine JH vP H (wg H rfl rfl rfl) rfl rfl ?_;clear H;intro a H;refine kL aT H (wg H rfl rfl rfl) rfl (H.hp.sw 0 rfl rfl) rfl ?_;clear H;intro a H;refine ER H (wg H rfl rfl rfl) rfl rfl rfl rfl ?_;clear H;intro a H;refine JI H (wg H rfl rfl rfl) rfl rfl ?_;clear H;intro a H;refine adS H 46 rfl ?_ ?_
      · intro h46
        try have p46:=dT h46
        refine kH H (YF Ei h46 rfl (YO kR 0 h46 rfl ?_));clear H;intro a H;refine BZ H (wg H rfl rfl h46) rfl rfl rfl ?_;clear H;intro a H;refine MH H (wg H rfl rfl rfl) rfl h46 rfl rfl ?_;clear H;intro a H;refine kH H (Pf rfl rfl (Ra rfl ?_));clear H;intro a H;refine aC ?_;refine ⟨_,by exact (H).sub ⟨rfl,rfl,rfl,rfl,rfl,rfl,rfl,aL⟩,?_⟩;rw [vM,hyk,Py,Mf]
        first
          | exact ⟨fun _=>.inl ⟨p36,by omega⟩,fun _=>by first|rfl|exact iO p42⟩
          | exact ⟨fun h=>(by cases h),fun h=>(by exfalso;omega)⟩
          | exact NK p46
          | fail
      intro h46
      try have p46:=dF h46
      refine kH H (fB h46 rfl ?_);clear H;intro a H;refine Qv H (wg H rfl rfl rfl) rfl h46 rfl rfl ?_;clear H;intro a H;refine kH H (Pf rfl rfl (Ra rfl ?_));clear H;intro a H;refine aC ?_;refine ⟨_,by exact (H).sub ⟨rfl,rfl,rfl,rfl,rfl,rfl,rfl,aL⟩,?_⟩;rw [vM,hyk,Py,Mf]
      first
        | exact ⟨fun _=>.inl ⟨p36,by omega⟩,fun _=>by first|rfl|exact iO p42⟩
        | exact ⟨fun h=>(by cases h),fun h=>(by exfalso;omega)⟩
        | exact NK p46
        | fail
    clear H;intro db a w hI H;skip;dsimp only [lca,bK] at H;refine mW H rfl ?_ ?_
    · intro h32
      try have p32:=dT h32
      have hdp:=hI.1 (by assumption);rw [RG hdp] at hos;refine kP H (Kc K7 (SC (Rd rfl (Rm rfl ?_))));clear H K7;intro a H;refine aC ?_;refine dx ((k+1,_,xs,Lo,_)) (by exact (H.dX (Pl:=[_]) (dN:=[]) [] (by decide) rfl).sub ⟨rfl,rfl,rfl,rfl,aL⟩) ?_
      (try dsimp only);exact ⟨by omega,by rw [hos];exact hrw,by rw [hos];exact OT,aaH⟩
    intro h32
    try have p32:=dF h32
    have hnd:¬ vM y:=fun h=>by have:=hI.2 h;simp_all
    obtain ⟨bo,pk,pt,pp,pd,pl,xg⟩:∃ (bo:Nat) (pk:dP × Int) (pt:ByteArray) (pp pd pl:aj),0 < (out.length:Int)→∃ (o:List ay) (z:ay) (x0:List aj) (f r:aj),out=o++[z]∧vA=some ⟨bo,0,none⟩∧pk=(z.head,z.kind)∧pt=z.text ∧
        xs=x0++[vi z.kind,vi z.code,vi z.id,.string z.text,pp,vi z.head.marks.ins,vi z.head.marks.move,pd,pl,f,r]∧x0.length=o.length*11∧bV yH 11 (o.map ay.dat) x0∧iA yH z.head pp pd pl∧au yH (.sl 11 (z.flow.map ay.dat)) f∧au yH (.sl 6 (z.rows.map aU.dat)) r ∧
        ∀ j u,[vi pk.2,vi z.code,vi z.id,.string pt,pp,vi pk.1.marks.ins,vi pk.1.marks.move,pd,pl][j]?=some u→xs[(out.length - 1)*11+j]?=some u:=by
      by_cases h0:0 < out.length
      · obtain ⟨bo,hbo⟩:=hrw.ptr h0;obtain ⟨o,z,e⟩:∃ o z,out=o++[z]:=⟨_,_,(List.dropLast_concat_getLast (fun e=>by rw [e] at h0;simp at h0)).symm⟩;rw [e,kV] at OT;obtain ⟨x0,cs,hxs,hc0,hrz,hcl,hxl⟩:=OT.atc;obtain ⟨qA,qn,qc,sA,sn,sc,tA,tn,tc,IB,IU,IC,rA2,rn2,rc2,rfl,hh,hf2,hr2⟩:=hrz.item;rw [bO] at hxl;refine ⟨bo,(z.head,z.kind),z.text,.slice qA qn qc,.slice sA sn sc,.slice tA tn tc,fun _=>⟨o,z,x0,_,_,e,hbo,rfl,rfl,hxs,hxl,hc0,hh,hf2,hr2,fun j u hj=>?_⟩⟩;rw [hxs,e,iM,List.length_singleton,Nat.add_sub_cancel,tN (by omega),hxl,Kk];rw [← hj]
        match j,hj with
        | 0,hj=>rfl
        | 1,hj=>rfl
        | 2,hj=>rfl
        | 3,hj=>rfl
        | 4,hj=>rfl
        | 5,hj=>rfl
        | 6,hj=>rfl
        | 7,hj=>rfl
        | 8,hj=>rfl
        | _+9,hj=>simp at hj
      exact ⟨0,(⟨[],⟨0,0,[],[]⟩⟩,0),⟨#[]⟩,.slice none 0 0,.slice none 0 0,.slice none 0 0,fun h=>by omega⟩
    have Md:0 < (out.length:Int)→vA=some ⟨bo,0,none⟩:=fun h=>by obtain ⟨_,_,_,_,_,_,e,_⟩:=xg h;exact e
    refine rR (ι:=Bool × GH) (Tc:=[(3,_),(5,_),(6,_),(7,_),(8,_),(9,_)]) (Lc:=[]) (fun gh=>[(52,.bool gh.1)]) (fun gh=>[(b5,.cells [vi l[k].kind,vi l[k].code,vi l[k].id,.string l[k].text,.slice a1 a2 a3,vi l[k].head.marks.ins,vi l[k].head.marks.move,.slice a4 a5 a6,.slice a7 a8 a9,.slice Hy n19 c19,.slice QW l[k].rows.length c24].toArray 68 (0,0))]++Lo) (fun gh=>gh.2) (fun gh=>(gh.1=true→(l[k].kind=1∧0 < (out.length:Int)∧pk.2=1∧pk.1=l[k].head))∧(gh.1=false→uo l (k+1)=out++[y])∧(∀ b o,yH b=some o→gh.2 b=some o)) (by exact (H).sub ⟨rfl,rfl,rfl,rfl,rfl,rfl,aL⟩) ?_ ?_
    · skip
      by_cases c1:l[k].kind=1
      · skip
        by_cases c2:0 < (out.length:Int)
        · skip
          by_cases c3:pk.2=1
          · skip
            by_cases c4:pk.1=l[k].head
            · skip;refine dI hmx [[],[0],[0,1],[0,1,2],(ra 0 4),(ra 0 5),(ra 0 6),(ra 0 7),(ra 0 8),(ra 0 8),(ra 0 8++[9]),(ra 0 11),(ra 0 12),(ra 0 13),(ra 0 14),(ra 0 15),(ra 0 16),(ra 0 17),(ra 0 17),(ra 0 17++[18]),(ra 0 20),(ra 0 21),(ra 0 22),(ra 0 17),(ra 0 17++[23]),(ra 0 25),(ra 0 26),(ra 0 27)] [] (by kernel_rfl) [_,vi l[k].kind,_,_,_,_,_,_,.slice (some ⟨bo,0,none⟩) out.length vc,_,vi ((out.length - 1:Nat):Int),_,_,vi pk.2,_,_,_,.slice (some ⟨bo,0,none⟩) out.length vc,_,vi ((out.length - 1:Nat):Int),_,_,rz pk.1 pp pd pl,_,rz l[k].head (.slice a1 a2 a3) (.slice a4 a5 a6) (.slice a7 a8 a9),.bool (decide (pk.1=l[k].head)),_,_] H (aD (Z0 rfl (Rf vP rfl)) (Z1 0 53 rfl (Ro aT 0 rfl)) (Z1 1 54 rfl (Rc rfl)) (Z1 2 55 rfl (Rm rfl)) (aD (Z1 3 56 rfl (YM (aI c1) rfl)) (Z2 4 57 3 56 rfl (YC (aI c1) rfl)) (Z2 3 56 5 58 rfl (Pt (aI c1) rfl)) (Z1 6 59 rfl (Rm rfl)) (aD ?_ (Z1 7 60 rfl (YM (aI c2) rfl)) ?_ (Z3 8 61 10 63 7 60 rfl (YI lT gB (aI c2) rfl rfl)) (aD (Z2 11 64 7 60 rfl (YF vP (aI c2) rfl)) ?_ (Z2 13 66 7 60 rfl (YC (aI c2) rfl)) (Z2 7 60 14 67 rfl (Pt (aI c2) rfl)) (aD (Z1 15 68 rfl (Rm rfl)) ?_ (Z1 16 69 rfl (YM (aI c3) rfl)) ?_ (aD (Z3 17 70 19 72 16 69 rfl (YI lT gB (aI c3) rfl rfl)) (Z2 20 73 16 69 rfl (YF Bt (aI c3) rfl)) ?_ (Z1 16 69 rfl (YF Bt (aI c3) rfl)) (aD ?_ ?_ (Z2 16 69 25 78 rfl (Pt (aI c3) rfl)) (Z1 26 79 rfl (Ra rfl)) cO))))))) ?_
              · refine eu 7 60 rfl rfl fun _ a w G1 hG HT H fin=>?_;refine kH H (YM (aI c2) rfl ?_);clear H;intro a H;exact fin H iJ (by show _=_;first|rfl|exact aB (fun A=>Value.slice A out.length vc) (Md c2))
              · refine dL 9 62 7 60 rfl rfl fun _ a w G1 hG HT H fin=>?_;refine og _ H (wg H rfl rfl (aI c2)) rfl rfl rfl (by omega) (by omega) rfl ?_;clear H;intro a H;exact fin H iJ (by show _=_;first|rfl|exact aB vi (by omega))
              · refine dL 12 65 7 60 rfl rfl fun _ a w G1 hG HT H fin=>?_;obtain ⟨_,_,_,_,_,_,rfl,_,_,_,_,_,_,_,_,hx⟩:=xg c2;refine kL aT H (wg H rfl rfl (aI c2)) rfl (hrw.at H.hp (fun x hx=>fJ _ hx) (by rw [gD];exact hx 0 _ rfl)) rfl ?_;clear H;intro a H;exact fin H iJ rfl
              · refine eu 16 69 rfl rfl fun _ a w G1 hG HT H fin=>?_;refine kH H (YM (aI c3) rfl ?_);clear H;intro a H;exact fin H iJ (by show _=_;first|rfl|exact aB (fun A=>Value.slice A out.length vc) (Md c2))
              · refine dL 18 71 16 69 rfl rfl fun _ a w G1 hG HT H fin=>?_;refine og _ H (wg H rfl rfl (aI c3)) rfl rfl rfl (by omega) (by omega) rfl ?_;clear H;intro a H;exact fin H iJ (by show _=_;first|rfl|exact aB vi (by omega))
              · refine dL 21 74 16 69 rfl rfl fun _ a w G1 hG HT H fin=>?_;obtain ⟨_,_,_,_,_,_,rfl,_,_,_,_,_,_,_,_,hx⟩:=xg c2
                refine aR dB (cs:=[pp,vi pk.1.marks.ins,vi pk.1.marks.move,pd,pl]) H (wg H rfl rfl (aI c3)) rfl rfl (fun j u hj=>hrw.at H.hp (fun x hx=>fJ _ hx) (by
                    rw [gD,Nat.add_assoc];refine hx (4+j) u ?_
                    match j,hj with
                    | 0,hj=>exact hj
                    | 1,hj=>exact hj
                    | 2,hj=>exact hj
                    | 3,hj=>exact hj
                    | 4,hj=>exact hj)) rfl ?_;clear H;intro a H
                exact fin H iJ rfl
              · refine dL 23 76 16 69 rfl rfl fun _ a w G1 hG HT H fin=>?_;refine aR dB (cs:=[_,_,_,_,_]) H (wg H rfl rfl (aI c3)) rfl rfl (H.hp.bT 0 rfl rfl) rfl ?_;clear H;intro a H;exact fin H iJ rfl
              · refine yL 22 75 24 77 16 69 rfl rfl fun _ a w G1 hG HT H fin=>?_;refine s_call Iw H (wg H rfl rfl (aI c3)) rfl (Iz _ _ H.ro pk.1 l[k].head _ _ _ _ _ _ (by obtain ⟨_,_,_,_,_,_,_,e,_,_,_,_,hh,_⟩:=xg c2;rw [e];exact hh.mono hG) (I6.mono fun b o h=>hG b o (nX b o (Ev b o (rW b o h))))) rfl ?_;clear H;rintro v78 G78 a w rfl Uk H;exact fin H Uk (rfl)
              clear H;intro a w G mF H hv;have H:=H.aN (hv 27 52 rfl rfl) rfl;clear hv;refine aC ⟨rfl,?_⟩;refine ⟨(_,_),by exact (H).sub ⟨rfl,rfl,rfl,rfl,rfl,rfl,rfl,aL⟩,?_⟩;(try dsimp only);refine ⟨fun h=>by first|exact absurd h (by decide)|exact ⟨c1,c2,c3,nS h⟩,fun h=>?_,mF⟩
              first
                | exact absurd ((aI c4).symm.trans h) (by decide)
                | (rw [hos]
                   refine DZ hnd fun o2 z2 e2 hj=>?_;rw [um,hyk,Jt] at hj;obtain ⟨j1,j2,j3⟩:=hj
                   first
                     | exact c1 j1
                     | (have c2':0 < (out.length:Int):=by rw [e2,iM,List.length_singleton];omega
                        obtain ⟨o,z,_,_,_,e,_,wQ,_⟩:=xg c2';obtain ⟨-,ez⟩:=List.append_inj' (e2.symm.trans e) rfl
                        injection ez with ez
                        subst ez
                        first
                          | exact c2 c2'
                          | exact c3 (by rw [wQ];exact j2)
                          | exact c4 (by rw [wQ];exact j3)))
            skip;refine dI hmx [[],[0],[0,1],[0,1,2],(ra 0 4),(ra 0 5),(ra 0 6),(ra 0 7),(ra 0 8),(ra 0 8),(ra 0 8++[9]),(ra 0 11),(ra 0 12),(ra 0 13),(ra 0 14),(ra 0 15),(ra 0 16),(ra 0 17),(ra 0 17),(ra 0 17++[18]),(ra 0 20),(ra 0 21),(ra 0 22),(ra 0 17),(ra 0 17++[23]),(ra 0 25),(ra 0 26),(ra 0 27)] [] (by kernel_rfl) [_,vi l[k].kind,_,_,_,_,_,_,.slice (some ⟨bo,0,none⟩) out.length vc,_,vi ((out.length - 1:Nat):Int),_,_,vi pk.2,_,_,_,.slice (some ⟨bo,0,none⟩) out.length vc,_,vi ((out.length - 1:Nat):Int),_,_,rz pk.1 pp pd pl,_,rz l[k].head (.slice a1 a2 a3) (.slice a4 a5 a6) (.slice a7 a8 a9),.bool (decide (pk.1=l[k].head)),_,_] H (aD (Z0 rfl (Rf vP rfl)) (Z1 0 53 rfl (Ro aT 0 rfl)) (Z1 1 54 rfl (Rc rfl)) (Z1 2 55 rfl (Rm rfl)) (aD (Z1 3 56 rfl (YM (aI c1) rfl)) (Z2 4 57 3 56 rfl (YC (aI c1) rfl)) (Z2 3 56 5 58 rfl (Pt (aI c1) rfl)) (Z1 6 59 rfl (Rm rfl)) (aD ?_ (Z1 7 60 rfl (YM (aI c2) rfl)) ?_ (Z3 8 61 10 63 7 60 rfl (YI lT gB (aI c2) rfl rfl)) (aD (Z2 11 64 7 60 rfl (YF vP (aI c2) rfl)) ?_ (Z2 13 66 7 60 rfl (YC (aI c2) rfl)) (Z2 7 60 14 67 rfl (Pt (aI c2) rfl)) (aD (Z1 15 68 rfl (Rm rfl)) ?_ (Z1 16 69 rfl (YM (aI c3) rfl)) ?_ (aD (Z3 17 70 19 72 16 69 rfl (YI lT gB (aI c3) rfl rfl)) (Z2 20 73 16 69 rfl (YF Bt (aI c3) rfl)) ?_ (Z1 16 69 rfl (YF Bt (aI c3) rfl)) (aD ?_ ?_ (Z2 16 69 25 78 rfl (Pt (aI c3) rfl)) (Z1 26 79 rfl (Ra rfl)) cO))))))) ?_
            · refine eu 7 60 rfl rfl fun _ a w G1 hG HT H fin=>?_;refine kH H (YM (aI c2) rfl ?_);clear H;intro a H;exact fin H iJ (by show _=_;first|rfl|exact aB (fun A=>Value.slice A out.length vc) (Md c2))
            · refine dL 9 62 7 60 rfl rfl fun _ a w G1 hG HT H fin=>?_;refine og _ H (wg H rfl rfl (aI c2)) rfl rfl rfl (by omega) (by omega) rfl ?_;clear H;intro a H;exact fin H iJ (by show _=_;first|rfl|exact aB vi (by omega))
            · refine dL 12 65 7 60 rfl rfl fun _ a w G1 hG HT H fin=>?_;obtain ⟨_,_,_,_,_,_,rfl,_,_,_,_,_,_,_,_,hx⟩:=xg c2;refine kL aT H (wg H rfl rfl (aI c2)) rfl (hrw.at H.hp (fun x hx=>fJ _ hx) (by rw [gD];exact hx 0 _ rfl)) rfl ?_;clear H;intro a H;exact fin H iJ rfl
            · refine eu 16 69 rfl rfl fun _ a w G1 hG HT H fin=>?_;refine kH H (YM (aI c3) rfl ?_);clear H;intro a H;exact fin H iJ (by show _=_;first|rfl|exact aB (fun A=>Value.slice A out.length vc) (Md c2))
            · refine dL 18 71 16 69 rfl rfl fun _ a w G1 hG HT H fin=>?_;refine og _ H (wg H rfl rfl (aI c3)) rfl rfl rfl (by omega) (by omega) rfl ?_;clear H;intro a H;exact fin H iJ (by show _=_;first|rfl|exact aB vi (by omega))
            · refine dL 21 74 16 69 rfl rfl fun _ a w G1 hG HT H fin=>?_;obtain ⟨_,_,_,_,_,_,rfl,_,_,_,_,_,_,_,_,hx⟩:=xg c2
              refine aR dB (cs:=[pp,vi pk.1.marks.ins,vi pk.1.marks.move,pd,pl]) H (wg H rfl rfl (aI c3)) rfl rfl (fun j u hj=>hrw.at H.hp (fun x hx=>fJ _ hx) (by
                  rw [gD,Nat.add_assoc];refine hx (4+j) u ?_
                  match j,hj with
                  | 0,hj=>exact hj
                  | 1,hj=>exact hj
                  | 2,hj=>exact hj
                  | 3,hj=>exact hj
                  | 4,hj=>exact hj)) rfl ?_;clear H;intro a H
              exact fin H iJ rfl
            · refine dL 23 76 16 69 rfl rfl fun _ a w G1 hG HT H fin=>?_;refine aR dB (cs:=[_,_,_,_,_]) H (wg H rfl rfl (aI c3)) rfl rfl (H.hp.bT 0 rfl rfl) rfl ?_;clear H;intro a H;exact fin H iJ rfl
            · refine yL 22 75 24 77 16 69 rfl rfl fun _ a w G1 hG HT H fin=>?_;refine s_call Iw H (wg H rfl rfl (aI c3)) rfl (Iz _ _ H.ro pk.1 l[k].head _ _ _ _ _ _ (by obtain ⟨_,_,_,_,_,_,_,e,_,_,_,_,hh,_⟩:=xg c2;rw [e];exact hh.mono hG) (I6.mono fun b o h=>hG b o (nX b o (Ev b o (rW b o h))))) rfl ?_;clear H;rintro v78 G78 a w rfl Uk H;exact fin H Uk (rfl)
            clear H;intro a w G mF H hv;have H:=H.aN (hv 27 52 rfl rfl) rfl;clear hv;refine aC ⟨rfl,?_⟩;refine ⟨(_,_),by exact (H).sub ⟨rfl,rfl,rfl,rfl,rfl,rfl,rfl,aL⟩,?_⟩;(try dsimp only);refine ⟨fun h=>by first|exact absurd h (by decide)|exact ⟨c1,c2,c3,nS h⟩,fun h=>?_,mF⟩
            first
              | exact absurd ((aI c4).symm.trans h) (by decide)
              | (rw [hos]
                 refine DZ hnd fun o2 z2 e2 hj=>?_;rw [um,hyk,Jt] at hj;obtain ⟨j1,j2,j3⟩:=hj
                 first
                   | exact c1 j1
                   | (have c2':0 < (out.length:Int):=by rw [e2,iM,List.length_singleton];omega
                      obtain ⟨o,z,_,_,_,e,_,wQ,_⟩:=xg c2';obtain ⟨-,ez⟩:=List.append_inj' (e2.symm.trans e) rfl
                      injection ez with ez
                      subst ez
                      first
                        | exact c2 c2'
                        | exact c3 (by rw [wQ];exact j2)
                        | exact c4 (by rw [wQ];exact j3)))
          skip;refine dI hmx [[],[0],[0,1],[0,1,2],(ra 0 4),(ra 0 5),(ra 0 6),(ra 0 7),(ra 0 8),(ra 0 8),(ra 0 8++[9]),(ra 0 11),(ra 0 12),(ra 0 13),(ra 0 14),(ra 0 15),(ra 0 16),(ra 0 17),(ra 0 17),(ra 0 17++[18]),(ra 0 20),(ra 0 21),(ra 0 22),(ra 0 17),(ra 0 17++[23]),(ra 0 25),(ra 0 26),(ra 0 27)] [] (by kernel_rfl) [_,vi l[k].kind,_,_,_,_,_,_,.slice (some ⟨bo,0,none⟩) out.length vc,_,vi ((out.length - 1:Nat):Int),_,_,vi pk.2,_,_,_,undef,undef,undef,undef,undef,undef,undef,undef,undef,_,_] H (aD (Z0 rfl (Rf vP rfl)) (Z1 0 53 rfl (Ro aT 0 rfl)) (Z1 1 54 rfl (Rc rfl)) (Z1 2 55 rfl (Rm rfl)) (aD (Z1 3 56 rfl (YM (aI c1) rfl)) (Z2 4 57 3 56 rfl (YC (aI c1) rfl)) (Z2 3 56 5 58 rfl (Pt (aI c1) rfl)) (Z1 6 59 rfl (Rm rfl)) (aD ?_ (Z1 7 60 rfl (YM (aI c2) rfl)) ?_ (Z3 8 61 10 63 7 60 rfl (YI lT gB (aI c2) rfl rfl)) (aD (Z2 11 64 7 60 rfl (YF vP (aI c2) rfl)) ?_ (Z2 13 66 7 60 rfl (YC (aI c2) rfl)) (Z2 7 60 14 67 rfl (Pt (aI c2) rfl)) (aD (Z1 15 68 rfl (Rm rfl)) (aW 16 (aX c3) rfl rfl) (aW 16 (aX c3) rfl rfl) (aW 16 (aX c3) rfl rfl) (aD (aW 16 (aX c3) rfl rfl) (aW 16 (aX c3) rfl rfl) (aW 16 (aX c3) rfl rfl) (aW 16 (aX c3) rfl rfl) (aD (aW 16 (aX c3) rfl rfl) (aW 16 (aX c3) rfl rfl) (Z2 16 69 25 78 rfl (Pf (aX c3) rfl)) (Z1 26 79 rfl (Ra rfl)) cO))))))) ?_
          · refine eu 7 60 rfl rfl fun _ a w G1 hG HT H fin=>?_;refine kH H (YM (aI c2) rfl ?_);clear H;intro a H;exact fin H iJ (by show _=_;first|rfl|exact aB (fun A=>Value.slice A out.length vc) (Md c2))
          · refine dL 9 62 7 60 rfl rfl fun _ a w G1 hG HT H fin=>?_;refine og _ H (wg H rfl rfl (aI c2)) rfl rfl rfl (by omega) (by omega) rfl ?_;clear H;intro a H;exact fin H iJ (by show _=_;first|rfl|exact aB vi (by omega))
          · refine dL 12 65 7 60 rfl rfl fun _ a w G1 hG HT H fin=>?_;obtain ⟨_,_,_,_,_,_,rfl,_,_,_,_,_,_,_,_,hx⟩:=xg c2;refine kL aT H (wg H rfl rfl (aI c2)) rfl (hrw.at H.hp (fun x hx=>fJ _ hx) (by rw [gD];exact hx 0 _ rfl)) rfl ?_;clear H;intro a H;exact fin H iJ rfl
          clear H;intro a w G mF H hv;have H:=H.aN (hv 27 52 rfl rfl) rfl;clear hv;refine aC ⟨rfl,?_⟩;refine ⟨(_,_),by exact (H).sub ⟨rfl,rfl,rfl,rfl,rfl,rfl,rfl,aL⟩,?_⟩;(try dsimp only);refine ⟨fun h=>by first|exact absurd h (by decide)|exact ⟨c1,c2,c3,nS h⟩,fun h=>?_,mF⟩
          first
            | exact absurd ((aI c4).symm.trans h) (by decide)
            | (rw [hos]
               refine DZ hnd fun o2 z2 e2 hj=>?_;rw [um,hyk,Jt] at hj;obtain ⟨j1,j2,j3⟩:=hj
               first
                 | exact c1 j1
                 | (have c2':0 < (out.length:Int):=by rw [e2,iM,List.length_singleton];omega
                    obtain ⟨o,z,_,_,_,e,_,wQ,_⟩:=xg c2';obtain ⟨-,ez⟩:=List.append_inj' (e2.symm.trans e) rfl
                    injection ez with ez
                    subst ez
                    first
                      | exact c2 c2'
                      | exact c3 (by rw [wQ];exact j2)
                      | exact c4 (by rw [wQ];exact j3)))
        skip;refine dI hmx [[],[0],[0,1],[0,1,2],(ra 0 4),(ra 0 5),(ra 0 6),(ra 0 7),(ra 0 8),(ra 0 8),(ra 0 8++[9]),(ra 0 11),(ra 0 12),(ra 0 13),(ra 0 14),(ra 0 15),(ra 0 16),(ra 0 17),(ra 0 17),(ra 0 17++[18]),(ra 0 20),(ra 0 21),(ra 0 22),(ra 0 17),(ra 0 17++[23]),(ra 0 25),(ra 0 26),(ra 0 27)] [] (by kernel_rfl) [_,vi l[k].kind,_,_,_,_,_,_,undef,undef,undef,undef,undef,undef,undef,_,_,undef,undef,undef,undef,undef,undef,undef,undef,undef,_,_] H (aD (Z0 rfl (Rf vP rfl)) (Z1 0 53 rfl (Ro aT 0 rfl)) (Z1 1 54 rfl (Rc rfl)) (Z1 2 55 rfl (Rm rfl)) (aD (Z1 3 56 rfl (YM (aI c1) rfl)) (Z2 4 57 3 56 rfl (YC (aI c1) rfl)) (Z2 3 56 5 58 rfl (Pt (aI c1) rfl)) (Z1 6 59 rfl (Rm rfl)) (aD (aW 7 (aX c2) rfl rfl) (aW 7 (aX c2) rfl rfl) (aW 7 (aX c2) rfl rfl) (aW 7 (aX c2) rfl rfl) (aD (aW 7 (aX c2) rfl rfl) (aW 7 (aX c2) rfl rfl) (aW 7 (aX c2) rfl rfl) (Z2 7 60 14 67 rfl (Pf (aX c2) rfl)) (aD (Z1 15 68 rfl (Rm rfl)) (aW 16 rfl rfl rfl) (aW 16 rfl rfl rfl) (aW 16 rfl rfl rfl) (aD (aW 16 rfl rfl rfl) (aW 16 rfl rfl rfl) (aW 16 rfl rfl rfl) (aW 16 rfl rfl rfl) (aD (aW 16 rfl rfl rfl) (aW 16 rfl rfl rfl) (Z2 16 69 25 78 rfl (Pf rfl rfl)) (Z1 26 79 rfl (Ra rfl)) cO))))))) ?_
        clear H;intro a w G mF H hv;have H:=H.aN (hv 27 52 rfl rfl) rfl;clear hv;refine aC ⟨rfl,?_⟩;refine ⟨(_,_),by exact (H).sub ⟨rfl,rfl,rfl,rfl,rfl,rfl,rfl,aL⟩,?_⟩;(try dsimp only);refine ⟨fun h=>by first|exact absurd h (by decide)|exact ⟨c1,c2,c3,nS h⟩,fun h=>?_,mF⟩
        first
          | exact absurd ((aI c4).symm.trans h) (by decide)
          | (rw [hos]
             refine DZ hnd fun o2 z2 e2 hj=>?_;rw [um,hyk,Jt] at hj;obtain ⟨j1,j2,j3⟩:=hj
             first
               | exact c1 j1
               | (have c2':0 < (out.length:Int):=by rw [e2,iM,List.length_singleton];omega
                  obtain ⟨o,z,_,_,_,e,_,wQ,_⟩:=xg c2';obtain ⟨-,ez⟩:=List.append_inj' (e2.symm.trans e) rfl
                  injection ez with ez
                  subst ez
                  first
                    | exact c2 c2'
                    | exact c3 (by rw [wQ];exact j2)
                    | exact c4 (by rw [wQ];exact j3)))
      skip;refine dI hmx [[],[0],[0,1],[0,1,2],(ra 0 4),(ra 0 5),(ra 0 6),(ra 0 7),(ra 0 8),(ra 0 8),(ra 0 8++[9]),(ra 0 11),(ra 0 12),(ra 0 13),(ra 0 14),(ra 0 15),(ra 0 16),(ra 0 17),(ra 0 17),(ra 0 17++[18]),(ra 0 20),(ra 0 21),(ra 0 22),(ra 0 17),(ra 0 17++[23]),(ra 0 25),(ra 0 26),(ra 0 27)] [] (by kernel_rfl) [_,vi l[k].kind,_,_,undef,undef,_,_,undef,undef,undef,undef,undef,undef,undef,_,_,undef,undef,undef,undef,undef,undef,undef,undef,undef,_,_] H (aD (Z0 rfl (Rf vP rfl)) (Z1 0 53 rfl (Ro aT 0 rfl)) (Z1 1 54 rfl (Rc rfl)) (Z1 2 55 rfl (Rm rfl)) (aD (aW 3 (aX c1) rfl rfl) (aW 3 (aX c1) rfl rfl) (Z2 3 56 5 58 rfl (Pf (aX c1) rfl)) (Z1 6 59 rfl (Rm rfl)) (aD (aW 7 rfl rfl rfl) (aW 7 rfl rfl rfl) (aW 7 rfl rfl rfl) (aW 7 rfl rfl rfl) (aD (aW 7 rfl rfl rfl) (aW 7 rfl rfl rfl) (aW 7 rfl rfl rfl) (Z2 7 60 14 67 rfl (Pf rfl rfl)) (aD (Z1 15 68 rfl (Rm rfl)) (aW 16 rfl rfl rfl) (aW 16 rfl rfl rfl) (aW 16 rfl rfl rfl) (aD (aW 16 rfl rfl rfl) (aW 16 rfl rfl rfl) (aW 16 rfl rfl rfl) (aW 16 rfl rfl rfl) (aD (aW 16 rfl rfl rfl) (aW 16 rfl rfl rfl) (Z2 16 69 25 78 rfl (Pf rfl rfl)) (Z1 26 79 rfl (Ra rfl)) cO))))))) ?_
      clear H;intro a w G mF H hv;have H:=H.aN (hv 27 52 rfl rfl) rfl;clear hv;refine aC ⟨rfl,?_⟩;refine ⟨(_,_),by exact (H).sub ⟨rfl,rfl,rfl,rfl,rfl,rfl,rfl,aL⟩,?_⟩;(try dsimp only);refine ⟨fun h=>by first|exact absurd h (by decide)|exact ⟨c1,c2,c3,nS h⟩,fun h=>?_,mF⟩
      first
        | exact absurd ((aI c4).symm.trans h) (by decide)
        | (rw [hos]
           refine DZ hnd fun o2 z2 e2 hj=>?_;rw [um,hyk,Jt] at hj;obtain ⟨j1,j2,j3⟩:=hj
           first
             | exact c1 j1
             | (have c2':0 < (out.length:Int):=by rw [e2,iM,List.length_singleton];omega
                obtain ⟨o,z,_,_,_,e,_,wQ,_⟩:=xg c2';obtain ⟨-,ez⟩:=List.append_inj' (e2.symm.trans e) rfl
                injection ez with ez
                subst ez
                first
                  | exact c2 c2'
                  | exact c3 (by rw [wQ];exact j2)
                  | exact c4 (by rw [wQ];exact j3)))
    clear H;rintro ⟨jb,g9⟩ a w hI H;dsimp only at hI H;obtain ⟨hjy,hjn,uU⟩:=hI;have amI:=OT.mono uU;have xV:=abu.mono uU;have aaI:∀ b o,G b=some o→g9 b=some o:=fun b o h=>uU b o (aaH b o h);dsimp only [lca,bK] at H;refine mW H rfl ?_ ?_
    · intro CK
      try have p52:=dT CK
      obtain ⟨c1,c2,c3,c4⟩:=hjy (by assumption);obtain ⟨oo,z,x0,zf,zr,Ph,rfl,rfl,rfl,hxs,hxl,hc0,hhz,hfz,hrz,hxj⟩:=xg c2
      have hzt:z.text.size≤oh out:=by
        rw [Ph,Hl];simp only [oh];omega
      obtain ⟨cur,-,rfl,hcur,hset⟩:=hrw.set1;refine dI hmx [[],[],[1],[0,1,2],(ra 0 4),(ra 0 5),[],[6],(ra 0 8),(ra 0 9),(ra 0 10),(ra 0 11)] [9,10,11] (by kernel_rfl) [_,_,vi ((out.length - 1:Nat):Int),_,_,.string z.text,_,.string l[k].text,.string (z.text++l[k].text)] H (aD (Z0 rfl (Rm rfl)) (Z0 rfl (Rm rfl)) ?_ (Z2 0 80 2 82 rfl (Ri lT gB rfl rfl)) (aD (Z1 3 83 rfl (Rf Ei rfl)) ?_ (Z0 rfl (Rf Ei rfl)) (Z1 6 86 rfl (Ro kR 0 rfl)) (aD ?_ (bS rfl) (bS rfl) (bS rfl) cO))) ?_
      · refine eu 1 81 rfl rfl fun _ a w G1 hG HT H fin=>?_;refine kH H (Rs rfl ?_);clear H;intro a H;exact fin H iJ (by show _=_;first|rfl|exact aB vi (by omega))
      · refine eu 4 84 rfl rfl fun _ a w G1 hG HT H fin=>?_;refine kL kR H wn rfl (hrw.at H.hp (fun x hx=>fJ _ hx) (by rw [gD];exact hxj 3 _ rfl)) rfl ?_;clear H;intro a H;exact fin H iJ rfl
      · refine dL 5 85 7 87 rfl rfl fun _ a w G1 hG HT H fin=>?_;refine arS H wn rfl rfl (by omega) rfl ?_;clear H;intro a H;exact fin H iJ rfl
      clear H;intro a w G nW H hv;have H:=H.aN (hv 0 80 rfl rfl) rfl;have H:=H.aN (hv 2 82 rfl rfl) rfl;have H:=H.aN (hv 8 88 rfl rfl) rfl;clear hv;refine kH H (Ri lT gB rfl rfl (Rf Ei rfl ?_));clear H;intro a H;refine aY kR 1 (c:=cur) (vs:=[.string (z.text++l[k].text)]) (cur.set ((out.length - 1)*11+3) (.string (z.text++l[k].text))) H wn rfl rfl rfl rfl rfl rfl (by simp;omega) (by rw [gD];rfl) ?_;clear H;intro w H;dsimp only [List.set] at H;have aob:=hset ((out.length - 1)*11+3) (.string (z.text++l[k].text))
      have hnj:uo l (k+1)=oo++[rE z y]:=by rw [hos,Ph];exact ND hnd ⟨by rw [hyk];exact c1,c3,by rw [Jt];exact c4⟩
      refine aC ⟨rfl,?_⟩;refine K7 _ _ ?_;clear K7;refine kP H (SC (Rd rfl (Rm rfl ?_)));clear H;intro a H;refine aC ?_;refine dx ((k+1,_,xs.set ((out.length - 1)*11+3) (.string (z.text++l[k].text)),_,_)) (by exact (H.dX (Pl:=[_]) (dN:=[]) [] (by decide) rfl).sub ⟨rfl,rfl,rfl,rfl,aL⟩) ?_
      (try dsimp only);exact ⟨by omega,by rw [hnj,show (oo++[rE z y]).length=out.length by rw [Ph];simp];exact aob,by rw [hnj,hxs,Ph];exact joined (hc0.mono fun b o h=>nW b o (uU b o h)) hxl (hhz.mono fun b o h=>nW b o (uU b o h)) (hfz.mono fun b o h=>nW b o (uU b o h)) (hrz.mono fun b o h=>nW b o (uU b o h)) (by rw [Mf]),fun b o h=>nW b o (aaI b o h)⟩
    intro CK
    try have p52:=dF CK
    have hnx:=hjn (by assumption);refine kP H (SC (Rm rfl ?_));clear H;intro a H;refine aR gB (cs:=[_,_,_,_,_,_,_,_,_,_,_]) H wn rfl rfl (H.hp.bT 0 rfl rfl) rfl ?_;clear H;intro a H;refine gQ lT gB [_,_,_,_,_,_,_,_,_,_,_] [_,_,_,_,_,_,_,_,_,_,_] H wn rfl rfl rfl rfl rfl (by intro i q h;match i,h with|0,h=>exact h|n+1,h=>simp at h) rfl rfl ?_;clear H;intro Yb a w ams H;refine mI (Li:=[_,_]) (Lo:=Lo) (news:=Sc) lT gB rfl rfl H wn rfl rfl hrw (by rw [OV];rfl) (by rw [OV];exact H.hp.bT 0 rfl rfl) abu.one (by omega) (by omega) rfl ?_;clear H;intro v31 afo a w Po H;refine kH H (gY K7 rfl (SC (Rd rfl (Rm rfl ?_))));clear H K7;intro a H;refine aC ?_;refine dx ((k+1,v31,xs++Sc,afo,_)) (by exact (H.dX (Pl:=[_,_]) (dN:=[]) [] (by decide) rfl).sub ⟨rfl,rfl,rfl,rfl,aL⟩) ?_
    (try dsimp only);exact ⟨by omega,by rw [hnx,iM];exact Po,by rw [hnx,kV];exact (amI.snoc xV (by rw [OV];rfl)),aaI⟩
  intro h10 a H
  try have iU:=dF h10
  refine jI ?_;refine K3 _ _ ?_;clear K3;refine eY (fun _ jd=>?_)
  obtain rfl:k=l.length:=by omega
  obtain ⟨G',hm,hrep,H⟩:=H.nO (Li:=[]) hrw (rows:=out.map ay.dat) (by simp) dQ;exact kP H (SC (Rm rfl (gY jd rfl (LR results58 rfl fun H=>H.rt (by rw [nZ,← hout];exact hrep)))))
theorem acM:∀ n:Nat,n≤1073741825→Fv n
 | 0,_=>fun _ _ _ _ _ _ _ h=>absurd h (by omega)
 | n+1,hn=>apR (acM n (by omega)) (by omega)
theorem apT (G:GH) (w0:World) (hG:Hold G w0) (l:List ay) (v:aj) (hv:au G (.sl 11 (l.map ay.dat)) v) (hne:uY l) (hz:cu l≤1073741824) :
  Calls prog 58 #[v] w0 (bB w0 G fun u G'=>au G' (.sl 11 ((nZ l).map ay.dat)) u):=acM 1073741825 (by omega) G w0 hG l v hv hne (by omega)
theorem ajT:∀ args w,(callFunc 59 args).run prog w=.ok (.enter 59 args) w:=enters func59 rfl (by kernel_rfl)
theorem ajV:∀ args w,(callFunc 63 args).run prog w=.ok (.enter 63 args) w:=enters func63 rfl (by kernel_rfl)
theorem ajU:∀ args w,(callFunc 61 args).run prog w=.ok (.enter 61 args) w:=enters func61 rfl (by kernel_rfl)
theorem atN {G:GH} {b3:Nat} {us:List Int} {uv:aj} (hb:aH G b3 0=some uv) (hu:au G (.sl 1 (us.map fun k=>[li k])) uv) (hl:us.length≤4294967296) (x:bL):tH (.func (.func 61) #[] #[(aM b3 0)]) G x.dat (!ni us x.id):=by
 intro G1 w0 cs hm hG hr;obtain rfl:=JG hr;replace hb:=aG hm hb;replace hu:=hu.mono hm;obtain ⟨uA,uc,rfl,-,-,-⟩:=hu.slice;refine jo (caps:=[(aM b3 0)]) ajU ?_;refine eN [(0,_),(1,_)] func61 rfl ntmps61 rfl rfl hG ?_;intro a H;refine fK (fun _ K1=>?_);refine dW (cs:=[_,_,_]) H wn rfl rfl rfl ?_;clear H;intro b2 a w hb2 H;refine kH H (aF K1 rfl (SR fun _ K2=>Rg Hq rfl hb (dU Oi aT 0 rfl rfl ?_)));clear H K1;intro a H;refine s_call ZB H wn rfl (Yf _ _ H.ro us x.id _ hu hl) rfl ?_;clear H;rintro v10 zD a w ⟨rfl,rfl⟩ yS H;refine kH H (Rm rfl ?_);clear H;intro a H;(iterate 2 refine lQ H wn rfl rfl rfl ?_;clear H;intro a H);exact kH H (Ra rfl (aF K2 rfl (SR fun _ K3=>Rm rfl (Rn rfl (aF K3 rfl (LR results61 rfl fun H=>H.rt rfl))))))
def oP (d:fT):fT:=⟨nZ d.flow,d.fin,d.revs,d.gU⟩
def nD (d:fT):fT:=⟨nZ d.flow,d.fin,d.revs.filter fun r=>ni (yB (kS (oP d))) r.id,d.gU⟩
theorem aqY (G:GH) (l:List bL):bV G 3 (l.map bL.dat) (oF l):=by
 have h:∀ (B A:List bL),bV G 3 (A.map bL.dat) (oF A)→bV G 3 ((A++B).map bL.dat) (oF (A++B)):=by
  intro B
  induction B with
  | nil=>intro A h;rw [fZ];exact h
  | cons x B ih =>
   intro A h;have h2:=h.snoc (ME G x) rfl;have h3:=ih (A++[x]) (by rw [Ww,kV];exact h2)
   simpa using h3
 exact h l [] bV.nil
set_option maxRecDepth 8000 in
theorem Sk (G:GH) (w0:World) (hG:Hold G w0) (D:iE) (d:fT) (hR:jN G D d) (hz:yF d) (hne:uY d.flow) (hz2:cu (nZ d.flow)≤1073741824) (hw:∀ k∈kS (oP d),-9223372036854775808≤k∧k < 9223372036854775808) (hl:(kS (oP d)).length≤4294967296) :
  Calls prog 17 #[D.val] w0 (bB w0 G fun u G'=>∃ D':iE,u=D'.val∧jN G' D' (nD d)):=by
 obtain ⟨df,dp,dd,dy,dr,d1,d2,d3,d4,ins,mv⟩:=D;obtain ⟨zf,zh,zr,zt,zs,Hw⟩:=hz;refine eN [(0,_)] func17 rfl ntmps17 rfl rfl hG ?_;intro a H;refine fK (fun _ K1=>?_);refine dW (cs:=[_,_,_,_,_,_,_,_,_,_,_]) H wn rfl rfl rfl ?_;clear H;intro b1 a w hb1 H;refine dJ gV H wn rfl ?_;clear H;intro b2 a w hb2 H;refine K1 _ _ ?_;clear K1;refine kP H (SR fun _ K2=>dU vO lS 1 rfl rfl ?_);clear H;intro a H;refine s_call SS H wn rfl (apT _ _ H.ro d.flow _ hR.fl hne zf) rfl ?_;clear H;rintro v6 G6 a w hv6 F6 H;obtain ⟨fA,fn,fc,rfl⟩:=hv6.form;have zU:jN G6 ⟨(fA,fn,fc),dp,dd,dy,dr,d1,d2,d3,d4,ins,mv⟩ (oP d):=⟨hv6,hR.hd.mono F6,hR.ins,hR.mv,hR.rv.mono F6,hR.st.mono F6⟩;refine kH H (Rf vO rfl ?_);clear H;intro a H;refine aY lS 1 (vs:=[_]) _ H wn rfl rfl rfl rfl rfl rfl rfl rfl ?_;clear H;intro w H;dsimp only [List.set,setRow] at H;refine K2 _ _ ?_;clear K2;refine fK (fun _ K3=>?_);refine aR gV (cs:=(⟨(fA,fn,fc),dp,dd,dy,dr,d1,d2,d3,d4,ins,mv⟩:iE).cells) H wn rfl rfl (H.hp.bT 1 rfl rfl) rfl ?_;clear H;intro a H;refine s_call Zx H wn rfl (Y4 _ _ H.ro _ _ zU (by show cu (nZ d.flow)≤_;omega) hw hl) rfl ?_;clear H;rintro v9 G9 a w Pv Aa H;obtain ⟨uA,un,uc,rfl⟩:=Pv.form;refine dJ Hq H wn rfl ?_;clear H;intro b3 a w hb3 H;refine aY Hq 0 (vs:=[_]) _ H wn rfl rfl rfl rfl rfl rfl rfl rfl ?_;clear H;intro w H;dsimp only [List.set,setRow] at H;refine K3 _ _ ?_;clear K3;refine eY (fun _ K4=>?_);obtain ⟨Gb,hmb,uf,H⟩:=H.eB;have hq3:aH Gb b3 0=some (.slice uA un uc):=nN uf 0 [.slice uA un uc] rfl 0 _ rfl;replace Pv:=Pv.mono hmb;replace zU:=(zU.mono Aa).mono hmb;refine kP H (SC (dU zN vw 1 rfl rfl ?_));clear H;intro a H;refine gK ZA (Li:=[_,_]) (L:=[]) H wn rfl (Yv _ _ (yh H.ro) _ _ _ _ zU.rv (by simpa [oP] using zr)) rfl ?_;clear H;rintro v12 Cm L12 a w ⟨avV,U6,amF⟩ CW H;obtain rfl:=aqZ amF;rw [bO] at U6;obtain ⟨rA,rc,rfl,-,-⟩:=U6.shape;refine qy H wn rfl rfl ?_;clear H;intro a H;refine gK ajT (Li:=[_,_]) (L:=L12) H wn rfl (ahv d.revs (fun r=>!ni (yB (kS (oP d))) r.id) (Hp.owns (Li:=[_,_]) H.hp) U6 (fun x _=>atN (aG CW hq3) (Pv.mono CW) (by rw [yB,List.length_mergeSort];exact hl) x)) rfl ?_;clear H;rintro v14 AJ L14 a w LY xS H
 simp only [Bool.not_not] at LY
 obtain ⟨Gr,hmr,abz,H⟩:=St.nO (Li:=[_,_]) H LY (rows:=(nD d).revs.map bL.dat) (by simp [nD]) (aqY _ _);obtain ⟨rB,rn,rd,rfl⟩:=abz.form;replace zU:=((zU.mono CW).mono xS).mono hmr;have hR2:jN Gr ⟨(fA,fn,fc),dp,dd,dy,(rB,rn,rd),d1,d2,d3,d4,ins,mv⟩ (nD d):=⟨zU.fl,zU.hd,zU.ins,zU.mv,abz,zU.st⟩;refine kH H (Rf zN rfl ?_);clear H;intro a H;refine aY vw 1 (vs:=[_]) _ H wn rfl rfl rfl rfl rfl rfl rfl rfl ?_;clear H;intro w H;dsimp only [List.set,setRow] at H;refine aC ?_;refine K4 _ _ ?_;clear K4;refine fK (fun _ K5=>?_);refine aR gV (cs:=(⟨(fA,fn,fc),dp,dd,dy,(rB,rn,rd),d1,d2,d3,d4,ins,mv⟩:iE).cells) H wn rfl rfl (H.hp.bT 1 rfl rfl) rfl ?_;clear H;intro a H;refine gK ajV (Li:=[_,_]) (L:=[]) H wn rfl (ahw _ _ (yh H.ro) _ _ hR2 ⟨by show cu (nZ d.flow)≤_;omega,zh,Nat.le_trans (List.length_filter_le _ _) zr,fun x hx=>zt x (List.mem_filter.1 hx).1,zs,Hw⟩) rfl ?_;clear H;rintro v17 yG Rq a w ⟨D',rfl,xf,Lf,xr,Lr,rfl,Jq,UD,Js,UE,ank,anl,anx,hst'⟩ sW H;obtain ⟨Gs,hms,anQ,H⟩:=St.nO (Li:=[_,_]++Lf) (by rw [jm];exact H) Js (rows:=(nD d).revs.map bL.dat) (by simp) UE;obtain ⟨Gt,hmt,anf,H⟩:=St.nO (Li:=[_,_]) H Jq (rows:=(nD d).flow.map ay.dat) (by simp) (UD.mono hms);refine aY gV 0 (vs:=[_,_,_,_,_,_,_,_,_,_,_]) _ H wn rfl rfl rfl rfl rfl rfl rfl rfl ?_;clear H;intro w H;dsimp only [List.set,setRow] at H;refine K5 _ _ ?_;clear K5;refine cK ?_;refine (leave1 H results17 (.cons (nH gV (cs:=[_,_,_,_,_,_,_,_,_,_,_]) H rfl rfl (H.hp.bT 0 rfl rfl)) .nil) ?_).1;exact H.rt ⟨D',rfl,anf,(ank.mono hms).mono hmt,anl,anx,anQ.mono hmt,(hst'.mono hms).mono hmt⟩
theorem FI {l:List Int} (h:∀ x∈l,x=0):dY l=0:=by
 induction l with
 | nil=>rfl
 | cons x l ih=>rw [h x eX];simp only [dY,ne_eq,not_true_eq_false,if_false];exact ih fun y hy=>h y (fJ _ hy)
theorem Kl {E:Nat→Int} {n:Nat} (h:∀ i,i < n→E i=0):kr E n=0:=FI fun x hx=>by
 obtain ⟨i,hi,rfl⟩:=List.mem_map.1 hx;exact h i (uK.1 hi)
def Fh (iV:List Int) (h:dP):Prop:=∀ q∈refs h,q≠0→q∈iV
theorem Ll {C C':bC} {e:Int} {h:dP} (h1:C'.st=C.st) (h2:C'.mK=C.mK) (h0:0∉C.iV) (hin:Fh C'.iV h) (hE:gN C e h=0):gN C' e h=0:=by
 have z:=kG hE;have z1:=z (ig e h.props) (by simp);have z2:=z (yw C h.props) (by simp);have z3:=z (jJ C h.marks) (by simp);have z4:=z (kr (sQ C h.marks.bH) h.marks.bH.length) (by simp);have z5:=z (dh (decide (64 < (h.marks.layers.length:Int))) 9) (by simp);have z6:=z (kr (xk C e h.marks.layers) h.marks.layers.length) (by simp);have hr:∀ q∈refs h,q=0∨q∈C.iV:=UK hE;refine FI fun x hx=>?_
 simp only [iX,List.not_mem_nil,or_false] at hx
 rcases hx with rfl|rfl|rfl|rfl|rfl|rfl
 ·exact z1
 ·rw [yw,h1,h2];exact z2
 ·unfold jJ at z3 ⊢
  have hi:¬ (h.marks.ins≠0∧h.marks.ins∉C'.iV):=fun hn=>hn.2 (hin _ (by simp [refs]) hn.1)
  by_cases hq:h.marks.ins≠0∧h.marks.ins∉C.iV
  ·rw [ak hq] at z3;cases z3
  rw [ah hq] at z3;rw [ah hi];exact z3
 ·refine Kl fun k hk=>?_;have h5:=Bf z4 k hk
  unfold sQ at h5 ⊢
  rw [dZ hk] at h5 ⊢;dsimp only [tV] at h5 ⊢
  have hm:h.marks.bH[k].rev∈refs h:=by simp only [refs,iX,mJ,List.mem_map];exact .inr (.inl ⟨_,lH hk,rfl⟩)
  by_cases hq:h.marks.bH[k].rev∉C.iV
  ·rw [ak hq] at h5;cases h5
  rw [ah hq] at h5;rw [ah (fun hn=>hn (hin _ hm fun e=>h0 (e ▸ nT.1 hq)))];exact h5
 ·exact z5
 refine Kl fun k hk=>?_;have h5:=Bf z6 k hk
 unfold xk at h5 ⊢
 rw [dZ hk] at h5 ⊢;dsimp only [wo] at h5 ⊢
 have hm:h.marks.layers[k].rev∈refs h:=by simp only [refs,iX,mJ,List.mem_map];exact .inr (.inr ⟨_,lH hk,rfl⟩)
 by_cases hq:h.marks.layers[k].rev∉C.iV
 ·rw [ak hq] at h5;cases h5
 rw [ah hq] at h5;rw [ah (fun hn=>hn (hin _ hm fun e=>h0 (e ▸ nT.1 hq))),h1,h2];exact h5
mutual
theorem arK {C C':bC} (h1:C'.st=C.st) (h2:C'.mK=C.mK) (h0:0∉C.iV) (body note:Bool) (t:Int):∀ x:ay,(∀ h∈zT x,Fh C'.iV h)→kY C body note t x→kY C' body note t x
 | .mk k c i tx h f r,hh,hx=>by
  have hf:=MF h1 h2 h0 false true t f;have hr:=adL h1 h2 h0 note (t+1) r;rw [zT] at hh;rw [kY] at hx ⊢;refine ⟨hx.1,hx.2.1,Ll h1 h2 h0 (hh h eX) hx.2.2.1,fun e=>?_,fun e=>⟨(hx.2.2.2.2 e).1,?_⟩⟩
  ·subst e;exact hf (fun y hy=>hh y (fJ _ (by simpa using hy))) (hx.2.2.2.1 rfl)
  subst e;exact hr (fun y hy=>hh y (fJ _ (by simpa using hy))) (hx.2.2.2.2 rfl).2
theorem arL {C C':bC} (h1:C'.st=C.st) (h2:C'.mK=C.mK) (h0:0∉C.iV) (note:Bool) (t:Int):∀ x:aU,(∀ h∈Er x,Fh C'.iV h)→oU C note t x→oU C' note t x
 | .mk h cs,hh,hx=>by
  have hc:=adK h1 h2 h0 note t cs;rw [Er] at hh;rw [oU] at hx ⊢;refine ⟨FI fun y hy=>?_,hc (fun y hy=>hh y (fJ _ hy)) hx.2⟩;have z:=kG hx.1
  simp only [iX,List.not_mem_nil,or_false] at hy
  rcases hy with rfl|rfl|rfl
  ·exact Ll h1 h2 h0 (hh h eX) (z _ eX)
  ·exact z _ (by simp)
  exact z _ (by simp)
theorem arJ {C C':bC} (h1:C'.st=C.st) (h2:C'.mK=C.mK) (h0:0∉C.iV) (note:Bool) (t:Int):∀ x:aZ,(∀ h∈Eo x,Fh C'.iV h)→oQ C note t x→oQ C' note t x
 | .mk i h f,hh,hx=>by
  have hf:=MF h1 h2 h0 false note t f;rw [Eo] at hh;rw [oQ] at hx ⊢;exact ⟨Ll h1 h2 h0 (hh h eX) hx.1,hf (fun y hy=>hh y (fJ _ hy)) hx.2⟩
theorem MF {C C':bC} (h1:C'.st=C.st) (h2:C'.mK=C.mK) (h0:0∉C.iV) (body note:Bool) (t:Int):∀ l:List ay,(∀ h∈jS l,Fh C'.iV h)→iC C body note t l→iC C' body note t l
 | [],_,_=>by rw [iC];trivial
 | x :: l,hh,h=>by
  rw [jS] at hh;rw [iC] at h ⊢;exact ⟨arK h1 h2 h0 body note t x (fun y hy=>hh y (List.mem_append_left _ hy)) h.1,MF h1 h2 h0 body note t l (fun y hy=>hh y (List.mem_append_right _ hy)) h.2⟩
theorem adL {C C':bC} (h1:C'.st=C.st) (h2:C'.mK=C.mK) (h0:0∉C.iV) (note:Bool) (t:Int):∀ l:List aU,(∀ h∈oN l,Fh C'.iV h)→jY C note t l→jY C' note t l
 | [],_,_=>by rw [jY];trivial
 | x :: l,hh,h=>by
  rw [oN] at hh;rw [jY] at h ⊢;exact ⟨arL h1 h2 h0 note t x (fun y hy=>hh y (List.mem_append_left _ hy)) h.1,adL h1 h2 h0 note t l (fun y hy=>hh y (List.mem_append_right _ hy)) h.2⟩
theorem adK {C C':bC} (h1:C'.st=C.st) (h2:C'.mK=C.mK) (h0:0∉C.iV) (note:Bool) (t:Int):∀ l:List aZ,(∀ h∈qh l,Fh C'.iV h)→kK C note t l→kK C' note t l
 | [],_,_=>by rw [kK];trivial
 | x :: l,hh,h=>by
  rw [qh] at hh;rw [kK] at h ⊢;exact ⟨arJ h1 h2 h0 note t x (fun y hy=>hh y (List.mem_append_left _ hy)) h.1,adK h1 h2 h0 note t l (fun y hy=>hh y (List.mem_append_right _ hy)) h.2⟩
end
theorem adg {α:Type} {l:List α} {R:α→α→Prop} (htr:∀ a b c,R a b→R b c→R a c) (h:∀ k (hk:k+1 < l.length),R l[k] l[k+1]):l.Pairwise R:=by
 rw [List.pairwise_iff_getElem];intro i j hi hj hij
 induction j with
 | zero=>omega
 | succ j ih =>
  by_cases e:i=j
  ·subst e;exact h i hj
  exact htr _ _ _ (ih (by omega) (by omega)) (h j hj)
def XV (C:bC) (e k v:Int):Prop:=vQ e k=true∧tQ k v=0∧oW C.st C.mK k v=0
def yM (C:bC) (e:Int) (l:List aS):Prop:=(∀ p∈l,XV C e p.key p.value)∧l.Pairwise fun x y=>x.key < y.key
def zG (C:bC) (e k:Int) (s:Int × Bool):Prop:=vQ e k=true∧(s.2=true→tQ k s.1=0∧oW C.st C.mK k s.1=0)∧(s.2=false→s.1=0)
def H9 (C:bC) (e:Int) (y:cB):Prop:=y.rev∈C.iV∧zG C e y.key (y.before,y.had)
structure Nn (C:bC) (e:Int) (h:dP):Prop where
 el:1≤e∧e≤10
 ps:yM C e h.props
 mrk:(h.marks.ins≠0→h.marks.ins∈C.iV)∧(0≤h.marks.move∧h.marks.move≤1073741824)∧(h.marks.move≠0→h.marks.ins≠0)∧h.marks.bH.length≤16
 dl:(∀ x∈h.marks.bH,x.rev∈C.iV∧0≤x.move∧x.move≤1073741824)∧h.marks.bH.Pairwise fun x y=>x.rev < y.rev
 ln:h.marks.layers.length≤64
 ly:(∀ y∈h.marks.layers,H9 C e y)∧h.marks.layers.Pairwise fun x y=>x.key≤y.key
theorem RY (e:Int):∀ (l:List aS) (q:Option Int),yR e q l=0↔(∀ p∈l,vQ e p.key=true∧tQ p.key p.value=0)∧(l.Pairwise fun x y=>x.key < y.key)∧∀ j,q=some j→∀ p∈l,j < p.key
 | [],q=>by simp [yR]
 | p :: r,q=>by
  rw [yR];have ih:=RY e r (some p.key)
  constructor
  ·intro h
   split at h
   ·cases h
   rename_i h1
   split at h
   ·cases h
   rename_i h2
   split at h
   ·cases h
   rename_i h3
   split at h
   ·rename_i h4
    obtain ⟨a,b,c⟩:=ih.1 h
    have hq:∀ j,q=some j→j < p.key:=fun j e=>by
     subst e;rw [EK,lF] at h3;have:j≠p.key:=fun e=>h2 (by rw [e])
     omega
    refine ⟨fun x hx=>?_,?_,fun j e x hx=>?_⟩
    ·rcases iX.1 hx with rfl|hx
     ·exact ⟨by simpa using h1,h4⟩
     exact a x hx
    ·exact wK.2 ⟨fun y hy=>c _ rfl y hy,b⟩
    rcases iX.1 hx with rfl|hx
    ·exact hq j e
    exact Int.lt_trans (hq j e) (c _ rfl x hx)
   rename_i h4;exact absurd h h4
  rintro ⟨a,b,c⟩;obtain ⟨b1,b2⟩:=wK.1 b;obtain ⟨a1,a2⟩:=a p eX;rw [ah (by simp [a1]),ah (fun e=>by have:=c _ e p eX;omega),ah,ak a2]
  ·exact ih.2 ⟨fun x hx=>a x (fJ _ hx),b2,fun j e x hx=>by cases e;exact b1 x hx⟩
  intro hl
  cases q with
  | none=>cases hl
  | some j =>
   rw [EK,lF] at hl;have:=c j rfl p eX;omega
theorem FX (C:bC) (e:Int) (h:dP):gN C e h=0↔Nn C e h:=by
 constructor
 ·intro hE;have z:=kG hE;have z1:=z (ig e h.props) (by simp);have z2:=z (yw C h.props) (by simp);have z3:=z (jJ C h.marks) (by simp);have z4:=z (kr (sQ C h.marks.bH) h.marks.bH.length) (by simp);have z5:=z (dh (decide (64 < (h.marks.layers.length:Int))) 9) (by simp);have z6:=z (kr (xk C e h.marks.layers) h.marks.layers.length) (by simp)
  unfold ig at z1
  have hel:¬ (e < 1∨10 < e):=fun h=>by rw [ak h] at z1;cases z1
  rw [ah hel,RY] at z1
  unfold jJ at z3
  have hD:∀ k (hk:k < h.marks.bH.length),tV C k h.marks.bH[k] ((h.marks.bH[k - 1]?.map fO.rev).getD 0)=0:=fun k hk=>by
   have h5:=Bf z4 k hk
   unfold sQ at h5
   rwa [dZ hk] at h5
  have hL:∀ k (hk:k < h.marks.layers.length),wo C e k h.marks.layers[k] ((h.marks.layers[k - 1]?.map cB.key).getD 0)=0:=fun k hk=>by
   have h5:=Bf z6 k hk
   unfold xk at h5
   rwa [dZ hk] at h5
  refine ⟨by omega,⟨fun p hp=>⟨(z1.1 p hp).1,(z1.1 p hp).2,?_⟩,z1.2.1⟩,?_,⟨fun x hx=>?_,adg (fun a b c=>Int.lt_trans) fun k hk=>?_⟩,?_,⟨fun y hy=>?_,adg (fun a b c=>Int.le_trans) fun k hk=>?_⟩⟩
  ·exact kG z2 _ (List.mem_map.2 ⟨p,hp,rfl⟩)
  ·split at z3
   ·cases z3
   rename_i a1
   split at z3
   ·cases z3
   rename_i a2
   split at z3
   ·cases z3
   rename_i a3
   exact ⟨fun h0=>Decidable.byContradiction fun hn=>a1 ⟨h0,hn⟩,by omega,by omega,by omega⟩
  ·obtain ⟨k,hk,rfl⟩:=List.getElem_of_mem hx;have h6:=hD k hk
   unfold tV at h6
   split at h6
   ·cases h6
   rename_i a1
   split at h6
   ·cases h6
   split at h6
   ·cases h6
   rename_i a3
   exact ⟨nT.1 a1,by omega⟩
  ·have h6:=hD (k+1) hk;rw [Nat.add_sub_cancel,dZ (by omega:k < h.marks.bH.length)] at h6
   unfold tV at h6
   split at h6
   ·cases h6
   split at h6
   ·cases h6
   rename_i a2
   simp only [vE,Option.getD_some] at a2
   omega
  ·unfold dh at z5
   split at z5
   ·cases z5
   rename_i a;simp only [lF] at a;omega
  ·obtain ⟨k,hk,rfl⟩:=List.getElem_of_mem hy;have h6:=hL k hk
   unfold wo at h6
   split at h6
   ·cases h6
   rename_i a1
   split at h6
   ·cases h6
   rename_i a2
   split at h6
   ·cases h6
   refine ⟨nT.1 a1,by simpa using a2,fun ht=>?_,fun hf=>?_⟩
   ·dsimp only at ht;rw [ah (by rw [ht];decide)] at h6;exact ⟨kG h6 _ eX,kG h6 _ (by simp)⟩
   dsimp only at hf;rw [ak hf,tu (by decide)] at h6
   simpa using h6
  have h6:=hL (k+1) hk;rw [Nat.add_sub_cancel,dZ (by omega:k < h.marks.layers.length)] at h6
  unfold wo at h6
  split at h6
  ·cases h6
  split at h6
  ·cases h6
  split at h6
  ·cases h6
  rename_i a2
  simp only [vE,Option.getD_some] at a2
  omega
 rintro ⟨hel,⟨hp,hps⟩,⟨m1,m2,m3,m4⟩,⟨d1,d2⟩,hln,⟨l1,l2⟩⟩;refine FI fun x hx=>?_
 simp only [iX,List.not_mem_nil,or_false] at hx
 rcases hx with rfl|rfl|rfl|rfl|rfl|rfl
 ·unfold ig
  rw [ah (by omega),RY];exact ⟨fun p h=>⟨(hp p h).1,(hp p h).2.1⟩,hps,fun j e=>by cases e⟩
 ·refine FI fun x hx=>?_;obtain ⟨p,h1,rfl⟩:=List.mem_map.1 hx;exact (hp p h1).2.2
 ·unfold jJ
  rw [ah fun h=>h.2 (m1 h.1),ah fun h=>h.elim (fun h=>h m2) fun h=>m3 h.1 h.2,ah (by omega)]
 ·refine Kl fun k hk=>?_
  unfold sQ
  rw [dZ hk];dsimp only [tV];have:=d1 _ (lH hk);rw [ah fun h=>h this.1,ah,ah fun h=>h this.2];rintro ⟨h0,h1⟩;rw [dZ (by omega:k - 1 < h.marks.bH.length)] at h1;have:=List.pairwise_iff_getElem.1 d2 (k - 1) k (by omega) hk (by omega)
  simp only [vE,Option.getD_some] at h1
  omega
 ·rw [tu (by decide),mU];omega
 refine Kl fun k hk=>?_
 unfold xk
 rw [dZ hk];dsimp only [wo];obtain ⟨a1,a2,a3,a4⟩:=l1 _ (lH hk);rw [ah fun h=>h a1,ah (by simp [a2]),ah]
 ·split
  ·rename_i hf
   rw [tu (by decide)];have:=a4 hf
   simpa using this
  rename_i hf
  obtain ⟨b1,b2⟩:=a3 (by simpa using hf);exact Ox.2 ⟨b1,b2⟩
 rintro ⟨h0,h1⟩;rw [dZ (by omega:k - 1 < h.marks.layers.length)] at h1;have:=List.pairwise_iff_getElem.1 l2 (k - 1) k (by omega) hk (by omega)
 simp only [vE,Option.getD_some] at h1
 omega
theorem aav {l:List aS} {k:Int} (h:ni (l.map aS.key) k=true):∃ hi:iB (l.map aS.key) k < l.length,l[iB (l.map aS.key) k].key=k:=by
 have h1:=Lb h;rw [bO] at h1;have h2:=nS h;rw [sM,dZ h1] at h2;exact ⟨h1,by simpa using h2⟩
theorem alu {C:bC} {e:Int} {l:List aS} (hp:yM C e l) {k:Int} (hf:vQ e k=true):zG C e k (zO l k):=by
 unfold zO
 split
 ·rename_i h
  obtain ⟨h1,h2⟩:=aav h;have:=(hp.1 _ (lH h1)).2;rw [h2] at this;rw [List.getD_eq_getElem?_getD,dZ h1];exact ⟨hf,fun _=>this,fun h=>by cases h⟩
 exact ⟨hf,fun h=>(by cases h),fun _=>rfl⟩
theorem aeh {C:bC} {e k:Int} (hf:vQ e k=true):zG C e k (0,false):=⟨hf,fun h=>(by cases h),fun _=>rfl⟩
theorem afO {l:List aS} (hs:l.Pairwise fun x y=>x.key < y.key) (k:Int):(∀ p∈l.take (iB (l.map aS.key) k),p.key < k)∧∀ p∈l.drop (iB (l.map aS.key) k),k≤p.key:=by
 have hle:=D9 (l.map aS.key) k;rw [bO] at hle;have hp:(l.map aS.key).Pairwise (·≤·):=List.pairwise_map.2 (hs.imp fun h=>Int.le_of_lt h);obtain ⟨r1,r2⟩:=Yg hp k;refine ⟨fun p h=>?_,fun p h=>?_⟩
 ·obtain ⟨i,hi,rfl⟩:=List.getElem_of_mem h;rw [List.length_take] at hi;have:=r1 i (by rw [bO];omega) (by omega);rw [List.getElem_map] at this;rw [List.getElem_take];exact this
 obtain ⟨i,hi,rfl⟩:=List.getElem_of_mem h;rw [List.length_drop] at hi;have h1:=r2 (by rw [bO];omega);rw [List.getElem_map] at h1;rw [List.getElem_drop]
 by_cases e:i=0
 ·subst e;exact h1
 have:=List.pairwise_iff_getElem.1 hs (iB (l.map aS.key) k) (iB (l.map aS.key) k+i) (by omega) (by omega) (by omega)
 omega
theorem ahg {C:bC} {e:Int} {l:List aS} (hp:yM C e l) (k:Int):yM C e (Eb l k):=by
 unfold Eb
 split
 ·have hs:(l.take (iB (l.map aS.key) k)++l.drop (iB (l.map aS.key) k+1)).Sublist l:=by
   conv=>rhs;rw [← List.take_append_drop (iB (l.map aS.key) k) l]
   exact List.Sublist.append (kF _) (by rw [← List.drop_drop];exact List.drop_sublist _ _)
  exact ⟨fun p h=>hp.1 p (hs.subset h),hp.2.sublist hs⟩
 exact hp
theorem asG {C:bC} {e:Int} {l:List aS} (hp:yM C e l) {k v:Int} (hk:XV C e k v):yM C e (EW l k v):=by
 obtain ⟨b1,b2⟩:=afO hp.2 k
 unfold EW
 split
 ·rename_i h
  obtain ⟨h1,h2⟩:=aav h;rw [List.getD_eq_getElem?_getD,dZ h1,Option.getD_some,h2];refine ⟨fun p hpm=>?_,?_⟩
  ·rcases List.mem_or_eq_of_mem_set hpm with h|rfl
   ·exact hp.1 p h
   exact hk
  have e:(l.set (iB (l.map aS.key) k) ⟨k,v⟩).map aS.key=l.map aS.key:=by
   rw [List.map_set];refine List.ext_getElem (by simp) fun i h3 h4=>?_;rw [List.getElem_set]
   split
   ·rename_i hi;subst hi;rw [List.getElem_map,h2]
   rfl
  have:=List.pairwise_map.2 hp.2;rw [← e] at this;exact List.pairwise_map.1 this
 rename_i h
 have hne:∀ p∈l,p.key≠k:=fun p hpm he=>by
  rw [Uv (List.pairwise_map.2 (hp.2.imp fun h=>Int.le_of_lt h)),lF] at h;exact h (List.mem_map.2 ⟨p,hpm,he⟩)
 refine ⟨fun p hpm=>?_,?_⟩
 ·rcases mJ.1 hpm with h|h
  ·exact hp.1 p (List.mem_of_mem_take h)
  rcases iX.1 h with rfl|h
  ·exact hk
  exact hp.1 p (List.mem_of_mem_drop h)
 rw [List.pairwise_append];refine ⟨hp.2.sublist (List.take_sublist _ _),wK.2 ⟨fun p h=>?_,hp.2.sublist (List.drop_sublist _ _)⟩,fun p h q hq=>?_⟩
 ·have h1:=b2 p h;have h2:=hne p (List.mem_of_mem_drop h)
  show k < p.key
  omega
 have h1:=b1 p h
 rcases iX.1 hq with rfl|hq
 ·exact h1
 have h2:=b2 q hq
 show p.key < q.key
 omega
theorem auf {C:bC} {e:Int} {l:List aS} (hp:yM C e l) {k:Int} {s:Int × Bool} (hs:zG C e k s):yM C e (zu l k s):=by
 unfold zu
 split
 ·rename_i h
  exact asG hp ⟨hs.1,hs.2.1 h⟩
 exact ahg hp k
theorem VA {C:bC} {e:Int} (rej:Int→Bool) {sZ:List (Int × Bool)} {k:Int} (hf:vQ e k=true) (hst:∀ s∈sZ,zG C e k s):∀ (l:List cB) (j:Nat) (now:Int × Bool),(∀ y∈l,y.key=k∧y.rev∈C.iV)→zG C e k now →
  (∀ y∈(rF rej sZ l j now).1,y.key=k∧H9 C e y∧∃ z∈l,z.rev=y.rev∧rej z.rev=false)∧zG C e k (rF rej sZ l j now).2
 | [],_,_,_,hn=>by rw [rF];exact ⟨fun y h=>(by cases h),hn⟩
 | y :: r,j,now,hl,hn=>by
  obtain ⟨h1,h2⟩:=hl y eX;have hl2:=fun z hz=>hl z (fJ _ hz);rw [rF]
  split
  ·obtain ⟨a,b⟩:=VA rej hf hst r (j+1) now hl2 hn;refine ⟨fun z hz=>?_,b⟩;obtain ⟨c1,c2,x,c3,c4⟩:=a z hz;exact ⟨c1,c2,x,fJ _ c3,c4⟩
  rename_i hr
  have hg:zG C e k (sZ.getD (j+1) (0,false)):=by
   rw [List.getD_eq_getElem?_getD]
   cases hx:sZ[j+1]? with
   | none=>exact aeh hf
   | some s=>exact hst s (kT hx)
  obtain ⟨a,b⟩:=VA rej hf hst r (j+1) _ hl2 hg;refine ⟨fun z hz=>?_,b⟩
  rcases iX.1 hz with rfl|hz
  ·refine ⟨h1,⟨h2,?_⟩,y,eX,rfl,by simpa using hr⟩;dsimp only;rw [h1];exact hn
  obtain ⟨c1,c2,x,c3,c4⟩:=a z hz;exact ⟨c1,c2,x,fJ _ c3,c4⟩
theorem TF (acc:Int→Bool):∀ (l:List cB) (k c:Nat),c≤k→c≤lJ acc l k c
 | [],k,c,_=>by rw [lJ];exact bR _
 | y :: r,k,c,h=>by
  rw [lJ]
  split
  ·have:=TF acc r (k+1) (k+1) (bR _);omega
  exact TF acc r (k+1) c (by omega)
theorem aae (acc:Int→Bool):∀ (l:List cB) (k c:Nat),c≤k→∀ y∈l.drop (lJ acc l k c - k),acc y.rev=false
 | [],_,_,_,y,h=>by rw [List.drop_nil] at h;cases h
 | x :: r,k,c,hc,y,h=>by
  rw [lJ] at h
  have hc2:(if acc x.rev=true then k+1 else c)≤k+1:=by split <;> omega
  have ih:=aae acc r (k+1) (if acc x.rev=true then k+1 else c) hc2;have hge:=TF acc r (k+1) (if acc x.rev=true then k+1 else c) hc2
  by_cases hk:lJ acc r (k+1) (if acc x.rev=true then k+1 else c)≤k
  ·rw [show lJ acc r (k+1) (if acc x.rev=true then k+1 else c) - k=0 by omega,List.drop_zero] at h;rw [show lJ acc r (k+1) (if acc x.rev=true then k+1 else c) - (k+1)=0 by omega,List.drop_zero] at ih
   rcases iX.1 h with rfl|h
   ·cases ha:acc y.rev
    ·rfl
    rw [ak ha] at hge hk;omega
   exact ih y h
  rw [show lJ acc r (k+1) (if acc x.rev=true then k+1 else c) - k=(lJ acc r (k+1) (if acc x.rev=true then k+1 else c) - (k+1))+1 by omega,List.drop_succ_cons] at h;exact ih y h
theorem alB {C:bC} {e:Int} (acc rej:Int→Bool) {props:List aS} (hp:yM C e props) {k:Int} {l:List cB} (hne:l≠[]) (hl:∀ y∈l,y.key=k∧H9 C e y) :
  (∀ y∈(pY acc rej props k l).1,y.key=k∧H9 C e y∧∃ z∈l,z.rev=y.rev∧rej z.rev=false∧acc z.rev=false)∧zG C e k (pY acc rej props k l).2:=by
 have hf:vQ e k=true:=by
  obtain ⟨y,r,rfl⟩:=List.exists_cons_of_ne_nil hne;obtain ⟨h1,-,h2,-⟩:=hl y eX;rw [← h1];exact h2
 have hst:∀ s∈qP props k l,zG C e k s:=fun s hs=>by
  unfold qP at hs
  rcases mJ.1 hs with hs|hs
  ·obtain ⟨y,hy,rfl⟩:=List.mem_map.1 hs;obtain ⟨h1,-,h2⟩:=hl y hy;rw [← h1];exact h2
  rw [tL.1 hs];exact alu hp hf
 unfold pY
 have hn:zG C e k ((qP props k l).getD (lJ acc l 0 0) (0,false)):=by
  rw [List.getD_eq_getElem?_getD]
  cases hx:(qP props k l)[lJ acc l 0 0]? with
  | none=>exact aeh hf
  | some s=>exact hst s (kT hx)
 obtain ⟨a,b⟩:=VA rej hf hst (l.drop (lJ acc l 0 0)) (lJ acc l 0 0) _ (fun y hy=>⟨(hl y (List.mem_of_mem_drop hy)).1,(hl y (List.mem_of_mem_drop hy)).2.1⟩) hn;refine ⟨fun y hy=>?_,b⟩;obtain ⟨c1,c2,x,c3,c4⟩:=a y hy;exact ⟨c1,c2,x,List.mem_of_mem_drop c3,c4.1,c4.2,aae acc l 0 0 (bR _) x (by simpa using c3)⟩
theorem aak:∀ (f:Nat) (l:List cB),∀ q∈qY f l,∀ y∈q.2,y.key=q.1
 | 0,_,q,hq=>by cases hq
 | f+1,[],q,hq=>by cases hq
 | f+1,y :: r,q,hq=>by
  rw [qY] at hq
  rcases iX.1 hq with rfl|hq
  ·intro z hz
   rcases iX.1 hz with rfl|hz
   ·rfl
   have:=List.all_takeWhile (l:=r) (p:=fun z=>decide (z.key=y.key));rw [kE] at this
   simpa using this z hz
  exact aak f _ q hq
theorem YK {C:bC} {e:Int} (acc rej:Int→Bool) {props:List aS} (hp:yM C e props):∀ (L:List (Int × List cB)) (s:List aS × List cB),yM C e s.1→(∀ q∈L,q.2≠[]∧∀ y∈q.2,y.key=q.1∧H9 C e y) →
  yM C e (qV acc rej props L s).1∧∃ m,(qV acc rej props L s).2=s.2++m∧(m.map cB.key).Sublist ((L.flatMap Prod.snd).map cB.key)∧∀ y∈m,H9 C e y∧∃ z∈L.flatMap Prod.snd,z.rev=y.rev∧rej z.rev=false∧acc z.rev=false
 | [],s,h,_=>by rw [qV];exact ⟨h,[],by simp,kF _,fun y h=>by cases h⟩
 | (k,l) :: r,s,h,hL=>by
  obtain ⟨h1,h2⟩:=hL (k,l) eX;obtain ⟨a,b⟩:=alB acc rej hp h1 h2;have hln:=TG acc rej props k l;rw [qV];obtain ⟨c,m,d1,d2,d3⟩:=YK acc rej hp r (zu s.1 k (pY acc rej props k l).2,s.2++(pY acc rej props k l).1) (auf h b) fun q hq=>hL q (fJ _ hq);refine ⟨c,(pY acc rej props k l).1++m,by rw [d1,jm],?_,fun y hy=>?_⟩
  ·rw [List.flatMap_cons,kV,kV];refine List.Sublist.append ?_ d2;have e1:(pY acc rej props k l).1.map cB.key=List.replicate (pY acc rej props k l).1.length k:=List.eq_replicate_iff.2 ⟨by simp,fun x hx=>by obtain ⟨y,hy,rfl⟩:=List.mem_map.1 hx;exact (a y hy).1⟩;have e2:l.map cB.key=List.replicate l.length k:=List.eq_replicate_iff.2 ⟨by simp,fun x hx=>by obtain ⟨y,hy,rfl⟩:=List.mem_map.1 hx;exact (h2 y hy).1⟩;rw [e1,e2];exact (List.replicate_sublist_replicate k).2 hln
  rw [List.flatMap_cons]
  rcases mJ.1 hy with hy|hy
  ·obtain ⟨-,c2,x,c3,c4⟩:=a y hy;exact ⟨c2,x,mJ.2 (.inl c3),c4⟩
  obtain ⟨c2,x,c3,c4⟩:=d3 y hy;exact ⟨c2,x,mJ.2 (.inr c3),c4⟩
theorem YP {C:bC} {e:Int} (acc rej:Int→Bool) {h:dP} (hh:Nn C e h):Nn C e (kM acc rej h)∧∀ y∈(kM acc rej h).marks.layers,∃ z∈h.marks.layers,z.rev=y.rev∧rej z.rev=false∧acc z.rev=false:=by
 obtain ⟨hel,hps,⟨m1,m2,m3,m4⟩,⟨d1,d2⟩,hln,⟨l1,l2⟩⟩:=hh;obtain ⟨f1,f2⟩:=IV h.marks.layers.length h.marks.layers (bR _);obtain ⟨a,m,b1,b2,b3⟩:=YK acc rej hps (qY h.marks.layers.length h.marks.layers) (h.props,[]) hps fun q hq=>⟨f2 q hq,fun y hy=>⟨aak _ _ q hq y hy,l1 y (by rw [← f1];exact List.mem_flatMap.2 ⟨q,hq,hy⟩)⟩⟩;rw [f1] at b2 b3;rw [oL] at b1;have hsub:=List.filter_sublist (p:=fun x:fO=>!rej x.rev) (l:=h.marks.bH);have hlen:=b2.length_le;rw [bO,bO] at hlen
 have hmk:(if ny acc h then 0 else h.marks.ins)=0∧(if ny acc h then 0 else h.marks.move)=0∨(if ny acc h then 0 else h.marks.ins)=h.marks.ins∧(if ny acc h then 0 else h.marks.move)=h.marks.move:=by
  by_cases hi:ny acc h
  ·exact .inl ⟨ak hi,ak hi⟩
  exact .inr ⟨ah hi,ah hi⟩
 refine ⟨⟨hel,a,?_,⟨fun x hx=>d1 x (hsub.subset hx),d2.sublist hsub⟩,?_,⟨fun y hy=>?_,?_⟩⟩,fun y hy=>?_⟩
 ·have hd:=hsub.length_le
  unfold kM
  dsimp only
  rcases hmk with ⟨e1,e2⟩|⟨e1,e2⟩
  ·rw [e1,e2];exact ⟨fun h=>absurd rfl h,by omega,fun h=>absurd rfl h,by omega⟩
  rw [e1,e2];exact ⟨m1,m2,m3,by omega⟩
 ·unfold kM;dsimp only;rw [b1];omega
 ·unfold kM at hy;dsimp only at hy;rw [b1] at hy;exact (b3 y hy).1
 ·unfold kM;dsimp only;rw [b1]
  exact List.pairwise_map.1 ((List.pairwise_map.2 l2).sublist b2)
 unfold kM at hy;dsimp only at hy;rw [b1] at hy;exact (b3 y hy).2
theorem N7 {C:bC} {e:Int} (acc rej:Int→Bool) {h:dP} (hh:gN C e h=0):gN C e (kM acc rej h)=0:=(FX C e _).2 (YP acc rej ((FX C e h).1 hh)).1
def Ki (l:List bL):Prop:=l.length≤256∧(∀ x∈l,wM x.author=true∧(0≤x.time∧x.time≤1099511627776)∧1≤x.id∧x.id≤1073741824)∧l.Pairwise fun x y=>x.id < y.id
theorem adJ {l:List bL} (h:Cv l=0):Ki l:=by
 have h1:=kG h _ (eX);have h2:=kG h _ (fJ _ eX)
 have hl:l.length≤256:=by
  rw [tu (by decide),mU] at h1;omega
 have hi:∀ i (hi:i < l.length),Qf l i l[i]=0:=fun i hi=>by
  have h3:=Bf h2 i (by omega)
  unfold BQ at h3
  rwa [dZ hi] at h3
 refine ⟨hl,fun x hx=>?_,?_⟩
 ·obtain ⟨i,hi',rfl⟩:=List.getElem_of_mem hx;have z:=kG (hi i hi');have z1:=Mi (z _ eX);rw [dZ hi'] at z1;have z2:=z (dh (!wM l[i].author) 39) (by simp);have z3:=z (dh (!decide (0≤l[i].time∧l[i].time≤1099511627776)) 40) (by simp);rw [tu (by decide)] at z2 z3;exact ⟨by simpa using z2,by simpa using z3,z1.1,z1.2.1⟩
 have step:∀ i (hi':i+1 < l.length),l[i].id < l[i+1].id:=fun i hi'=>by
  have z1:=(Mi (kG (hi (i+1) hi') _ eX)).2.2 (by omega);rw [Nat.add_sub_cancel,dZ hi',dZ (show i < l.length by omega)] at z1;exact z1
 rw [List.pairwise_iff_getElem];intro i j hi' hj hij
 induction j with
 | zero=>omega
 | succ j ih =>
  by_cases e:i=j
  ·subst e;exact step i hj
  exact Int.lt_trans (ih (by omega) (by omega)) (step j hj)
theorem aoE {id:Nat→Int} {i:Nat} (h1:1≤id i∧id i≤1073741824) (h2:0 < i→id (i - 1) < id i):qm id i=0:=by
 unfold qm
 rw [ah (fun hn=>hn h1),ah (fun hn=>by have:=h2 hn.1;omega),ah (fun hn=>by have:=h2 hn.1;omega)]
theorem aaj {l:List bL} (h:Ki l):Cv l=0:=by
 obtain ⟨hl,hx,hp⟩:=h;refine Ox.2 ⟨(tu (by decide)).2 (jf (by omega)),Kl fun i hi=>?_⟩
 have hi':i < l.length:=by omega
 unfold BQ
 rw [dZ hi'];have h1:=hx _ (lH hi');refine FI fun y hy=>?_
 simp only [iX,List.not_mem_nil,or_false] at hy
 rcases hy with rfl|rfl|rfl
 ·have e:∀ k (hk:k < l.length),(l[k]?.map bL.id).getD 0=l[k].id:=fun k hk=>by rw [dZ hk];rfl
  exact aoE (by rw [e i hi'];exact h1.2.2) (fun h0=>by
   rw [e i hi',e (i - 1) (by omega)]
   exact List.pairwise_iff_getElem.1 hp (i - 1) i (by omega) hi' (by omega))
 ·rw [tu (by decide),h1.1];rfl
 rw [tu (by decide),iO h1.2.1];rfl
theorem Ki.sub {l m:List bL} (h:Ki l) (hs:m.Sublist l):Ki m:=⟨Nat.le_trans hs.length_le h.1,fun x hx=>h.2.1 x (hs.subset hx),h.2.2.sublist hs⟩
def uF (A:List qB):Int:=(A.map fun f=>EI f.items).sum
theorem WZ (a b:List qB):uF (a++b)=uF a+uF b:=by simp [uF]
theorem QI (x:qB) (b:List qB):uF (x :: b)=EI x.items+uF b:=by simp [uF]
theorem atB (A:List qB):MU A=uF A:=by
 have key:∀ (A:List qB) (n:Int),A.foldl (fun n f=>n+EI f.items) n=n+uF A:=by
  intro A
  induction A with
  | nil=>intro n;simp [uF]
  | cons x A ih=>intro n;rw [List.foldl_cons,ih,QI];omega
 rw [MU,key];omega
theorem VF {C:bC} {body note:Bool} {t:Int} {l:List ay} (h:iC C body note t l):EI l=Hg l:=by
 unfold EI
 rw [ak]
 unfold Oc
 rw [kE];intro x hx;have h1:=(FK ((PZ x).1 (Dl.1 h x hx)).1).1;refine iO ?_
 unfold MW JR;rw [ak h1];split <;> rfl
theorem atA (k c i:Int) (tx:ByteArray) (h:dP) (f:List ay) (r:List aU):uI (.mk k c i tx h f r)=jC (.mk k c i tx h f r)+(if k=6 then jM f else if k=7 then om r else 0):=by rw [uI];rfl
mutual
theorem atD (C:bC) (body note:Bool) (t:Int) (n2:Bool) (t2:Int):∀ x:ay,kY C body note t x→(jC x:Nat)+uF (M0 n2 t2 x)=(uI x:Nat)
 | .mk k c i tx h f r,hx=>by
  have hf:=QJ C false true t true t2 f;have hr:=aez C note (t+1) n2 t2 r;rw [kY] at hx;rw [atA,M0]
  by_cases h6:k=6
  ·subst h6;have ho:=hx.2.2.2.1 rfl;have:=hf ho;rw [ak rfl,ak rfl,QI];dsimp only;rw [VF ho];push_cast;omega
  by_cases h7:k=7
  ·subst h7;have:=hr (hx.2.2.2.2 rfl).2;rw [ah h6,ah h6,ak rfl,ak rfl];push_cast;omega
  rw [ah h6,ah h6,ah h7,ah h7];simp [uF]
theorem atE (C:bC) (note:Bool) (t:Int) (n2:Bool) (t2:Int):∀ x:aU,oU C note t x→uF (M4 n2 t2 x)=(uR x:Nat)
 | .mk h cs,hx=>by
  have hc:=aex C note t n2 t2 cs;rw [oU] at hx;rw [uR,M4];exact hc hx.2
theorem atC (C:bC) (note:Bool) (t:Int) (n2:Bool) (t2:Int):∀ x:aZ,oQ C note t x→uF (MZ n2 t2 x)=(uC x:Nat)
 | .mk i h f,hx=>by
  have hf:=QJ C false note t n2 (t2+1) f;rw [oQ] at hx;have:=hf hx.2;rw [uC,MZ,QI];dsimp only;rw [VF hx.2];omega
theorem QJ (C:bC) (body note:Bool) (t:Int) (n2:Bool) (t2:Int):∀ l:List ay,iC C body note t l→(Hg l:Nat)+uF (Ch n2 t2 l)=(jM l:Nat)
 | [],_=>by simp [Hg,Ch,uF,jM]
 | x :: l,h=>by
  rw [iC] at h;have h1:=atD C body note t n2 t2 x h.1;have h2:=QJ C body note t n2 t2 l h.2;rw [Hg,Ch,jM,WZ];push_cast;omega
theorem aez (C:bC) (note:Bool) (t:Int) (n2:Bool) (t2:Int):∀ l:List aU,jY C note t l→uF (E8 n2 t2 l)=(om l:Nat)
 | [],_=>by simp [E8,uF,om]
 | x :: l,h=>by
  rw [jY] at h;have h1:=atE C note t n2 t2 x h.1;have h2:=aez C note t n2 t2 l h.2;rw [E8,om,WZ];push_cast;omega
theorem aex (C:bC) (note:Bool) (t:Int) (n2:Bool) (t2:Int):∀ l:List aZ,kK C note t l→uF (E5 n2 t2 l)=(pq l:Nat)
 | [],_=>by simp [E5,uF,pq]
 | x :: l,h=>by
  rw [kK] at h;have h1:=atC C note t n2 t2 x h.1;have h2:=aex C note t n2 t2 l h.2;rw [E5,pq,WZ];push_cast;omega
end
theorem aey {C:bC} {body note:Bool} {t:Int} {l:List ay} (h:iC C body note t l):MU (IQ l)=(jM l:Nat):=by
 have:=QJ C body note t false 0 l h;rw [atB,IQ,QI];dsimp only;rw [VF h];exact this
theorem PO {d:fT} (h:iy d=0):iy (oP d)=0∧MU (IQ (nZ d.flow))=MU (IQ d.flow):=by
 obtain ⟨h1,h2,h3,h4,h5⟩:=(Bl d).1 h;obtain ⟨e1,e2⟩:=aoC h3;exact ⟨(Bl (oP d)).2 ⟨h1,h2,acT h3,by show kg [] [] (iZ (nZ d.flow));rw [e1];exact h4,by show jM (nZ d.flow)≤_;rw [e2];exact h5⟩,by rw [aey (acT h3),aey h3,e2]⟩
theorem atp (l:List Int):(yB l).Pairwise (·≤·):=by
 have h:=List.pairwise_mergeSort (le:=leI) (fun a b c h1 h2=>by simp only [leI,lF] at *;omega) (fun a b=>by simp only [leI,Bool.or_eq_true,lF];omega) l
 exact h.imp fun h=>by simpa [leI] using h
theorem aoW (d:fT):(fun r:bL=>ni (yB (kS (oP d))) r.id)=fun r=>decide (r.id∈kS (oP d)):=by
 funext r
 rw [Uv (atp _)];exact decide_eq_decide.2 (by rw [yB,List.mem_mergeSort])
theorem acz {d:fT} (h:iy d=0):iy (nD d)=0:=by
 obtain ⟨h1,h2,h3,h4,h5⟩:=(Bl _).1 (PO h).1;have hg:=adJ h1.2
 have h0:(0:Int)∉(oP d).ku.iV:=by
  intro hm;obtain ⟨x,hx,e⟩:=List.mem_map.1 (show (0:Int)∈d.revs.map bL.id from hm);have:=(hg.2.1 x hx).2.2.1
  omega
 have hin:∀ q∈JD (oP d),q≠0→q∈(nD d).ku.iV:=by
  intro q hq hn
  have hu:q∈kS (oP d):=by
   unfold kS
   rw [List.mem_filter,lF,NC];exact ⟨.inr hq,hn⟩
  have hr:=(Qd (PO h).1 q hq).resolve_left hn;obtain ⟨x,hx,rfl⟩:=List.mem_map.1 hr
  show x.id∈(nD d).revs.map bL.id
  refine List.mem_map.2 ⟨x,?_,rfl⟩
  show x∈d.revs.filter _
  rw [aoW,List.mem_filter];exact ⟨hx,iO hu⟩
 refine (Bl (nD d)).2 ⟨⟨h1.1,aaj (hg.sub List.filter_sublist)⟩,⟨Ll (C:=(oP d).ku) (C':=(nD d).ku) rfl rfl h0 (fun q hq hn=>hin q (by unfold JD;exact List.mem_append_right _ hq) hn) h2.1,h2.2⟩,MF (C:=(oP d).ku) (C':=(nD d).ku) rfl rfl h0 true false 0 _ (fun x hx q hq hn=>hin q (by unfold JD;exact List.mem_append_left _ (List.mem_flatMap.2 ⟨x,hx,hq⟩)) hn) h3,h4,h5⟩
mutual
theorem apJ (C:bC) (body note:Bool) (t:Int):∀ x:ay,kY C body note t x→Jw x
 | .mk k c i tx h f r,hx=>by
  have hf:=PV C false true t f;have hr:=acL C note (t+1) r;rw [kY] at hx;obtain ⟨-,-,abA,aaF⟩:=FK hx.1;dsimp only [ay.kind,ay.rows,ay.flow] at abA aaF;rw [Jw];refine ⟨?_,?_⟩
  ·by_cases h6:k=6
   ·exact hf (hx.2.2.2.1 h6)
   rw [aaF h6,uY];trivial
  by_cases h7:k=7
  ·exact hr (hx.2.2.2.2 h7).2
  rw [abA h7,Dj];trivial
theorem apK (C:bC) (note:Bool) (t:Int):∀ x:aU,oU C note t x→EN x
 | .mk h cs,hx=>by
  have hc:=acK C note t cs;rw [oU] at hx;rw [EN];refine ⟨fun e=>?_,hc hx.2⟩;have z:=kG hx.1 (dh (decide ((cs.length:Int)=0)) 11) (by simp);rw [tu (by decide),e] at z
  simp at z
theorem apI (C:bC) (note:Bool) (t:Int):∀ x:aZ,oQ C note t x→EL x
 | .mk i h f,hx=>by
  have hf:=PV C false note t f;rw [oQ] at hx;rw [EL];exact hf hx.2
theorem PV (C:bC) (body note:Bool) (t:Int):∀ l:List ay,iC C body note t l→uY l
 | [],_=>by rw [uY];trivial
 | x :: l,h=>by
  rw [iC] at h;rw [uY];exact ⟨apJ C body note t x h.1,PV C body note t l h.2⟩
theorem acL (C:bC) (note:Bool) (t:Int):∀ l:List aU,jY C note t l→Dj l
 | [],_=>by rw [Dj];trivial
 | x :: l,h=>by
  rw [jY] at h;rw [Dj];exact ⟨apK C note t x h.1,acL C note t l h.2⟩
theorem acK (C:bC) (note:Bool) (t:Int):∀ l:List aZ,kK C note t l→EM l
 | [],_=>by rw [EM];trivial
 | x :: l,h=>by
  rw [kK] at h;rw [EM];exact ⟨apI C note t x h.1,acK C note t l h.2⟩
end
theorem apB {d:fT} (hz:yF d):yF (nD d):=⟨Nat.le_trans (Xl _) hz.fl,hz.hd,Nat.le_trans (List.length_filter_le _ _) hz.rn,fun x hx=>hz.rt x (List.mem_filter.1 hx).1,hz.sn,hz.st⟩
theorem acA {d:fT} (hz:yF d) (h:iy d=0):uY d.flow∧cu (nZ d.flow)≤1073741824∧(∀ k∈kS (oP d),-9223372036854775808≤k∧k < 9223372036854775808)∧(kS (oP d)).length≤4294967296:=by
 have h0:=(PO h).1;refine ⟨PV _ _ _ _ _ ((Bl d).1 h).2.2.1,Nat.le_trans (Xl _) hz.fl,fun q hq=>by have:=atQ h0 hq;omega,?_⟩;exact Nat.le_trans (atP h0) hz.rn
section
theorem TB {k c i:Int} {tx:ByteArray} {h h':dP} {f f':List ay} {r r':List aU} (hx:kI (.mk k c i tx h f r)=0) (hf:k≠6→f'=f) (hr:k≠7→r'=r):kI (.mk k c i tx h' f' r')=0:=by
 have e:uO (.mk k c i tx h' f' r')=uO (.mk k c i tx h f r):=by
  rw [nL]
  simp only [uO,Bool.or_eq_true,nK,lF]
  have c1:wO (.mk k c i tx h' f' r')=wO (.mk k c i tx h f r):=rfl;have c2:xu (.mk k c i tx h' f' r')=xu (.mk k c i tx h f r):=rfl;have c3:zw (.mk k c i tx h' f' r')=zw (.mk k c i tx h f r):=rfl;rw [c1,c2,c3]
  show (((((_∧c≠0)∨(_∧i≠0))∨(_∧(!qW tx)=true))∨(k≠6∧0 < (f'.length:Int)))∨(k≠7∧0 < (r'.length:Int)))↔(((((_∧c≠0)∨(_∧i≠0))∨(_∧(!qW tx)=true))∨(k≠6∧0 < (f.length:Int)))∨(k≠7∧0 < (r.length:Int)))
  by_cases h6:k=6
  ·subst h6;rw [hr (by decide)];simp
  rw [hf h6]
  by_cases h7:k=7
  ·subst h7;simp
  rw [hr h7]
 have e2:codeOk (.mk k c i tx h' f' r')=codeOk (.mk k c i tx h f r):=rfl;have e3:zm (.mk k c i tx h' f' r')=zm (.mk k c i tx h f r):=rfl
 unfold kI at hx ⊢
 rw [e,e2,e3];exact hx
theorem Ju (k c i:Int) (tx:ByteArray) (h:dP) (f:List ay) (r:List aU):qM (.mk k c i tx h f r)=(if k=6∨k=7 then [i] else [])++(if k=6 then iZ f else if k=7 then nu r else []):=by
 rw [qM]
 by_cases h6:k=6
 ·rw [ak h6,ak h6,ah (show ¬ k=7 by omega),fZ]
 rw [ah h6,ah h6,oL]
theorem abM:∀ a b:List aU,nu (a++b)=nu a++nu b
 | [],b=>by simp [nu]
 | x :: a,b=>by simp [nu,abM a b]
theorem abL:∀ a b:List aZ,nY (a++b)=nY a++nY b
 | [],b=>by simp [nY]
 | x :: a,b=>by simp [nY,abL a b]
theorem aev:∀ a b:List aU,om (a++b)=om a+om b
 | [],b=>by simp [om]
 | x :: a,b=>by simp [om,aev a b];omega
theorem aeu:∀ a b:List aZ,pq (a++b)=pq a+pq b
 | [],b=>by simp [pq]
 | x :: a,b=>by simp [pq,aeu a b];omega
theorem Qk {C:bC} {h:dP} {n:Nat}:Dn C h n=0↔gN C 9 h=0∧n≠0∧n≤32:=by
 constructor
 ·intro h;have z:=kG h;have z2:=z (dh (decide ((n:Int)=0)) 11) (by simp);have z3:=z (dh (decide (32 < (n:Int))) 9) (by simp);rw [tu (by decide),mU] at z2 z3;exact ⟨z _ eX,by omega,by omega⟩
 rintro ⟨h1,h2,h3⟩;refine FI fun x hx=>?_
 simp only [iX,List.not_mem_nil,or_false] at hx
 rcases hx with rfl|rfl|rfl
 ·exact h1
 ·rw [tu (by decide),mU];omega
 rw [tu (by decide),mU];omega
variable {acc rej:Int→Bool}
mutual
theorem arh (C:bC) (body note:Bool) (t:Int):∀ x:ay,kY C body note t x→iC C body note t (oZ acc rej x)∧(iZ (oZ acc rej x)).Sublist (qM x)∧jM (oZ acc rej x)≤uI x
 | .mk k c i tx h f r,hx=>by
  have hf:=Qh C false true t f;have hr:=adr C note (t+1) r;rw [kY] at hx;obtain ⟨h1,h2,h3,h4,h5⟩:=hx;have hd:=N7 acc rej h3;have nil:iC C body note t []∧(iZ []).Sublist (qM (.mk k c i tx h f r))∧jM []≤uI (.mk k c i tx h f r):=⟨by rw [iC];trivial,by rw [iZ];exact List.nil_sublist _,by rw [jM];exact iH _⟩;have one:∀ y:ay,kY C body note t y→(qM y).Sublist (qM (.mk k c i tx h f r))→uI y≤uI (.mk k c i tx h f r)→iC C body note t [y]∧(iZ [y]).Sublist (qM (.mk k c i tx h f r))∧jM [y]≤uI (.mk k c i tx h f r):=fun y a b c=>⟨by rw [iC,iC];exact ⟨a,aL⟩,by rw [iZ,iZ,fZ];exact b,by rw [jM,jM];exact c⟩;rw [oZ]
  split
  ·exact nil
  split
  ·rename_i h6
   obtain ⟨a1,a2,a3⟩:=hf (h4 h6);refine one _ ?_ ?_ ?_
   ·rw [kY];exact ⟨TB h1 (fun h=>absurd h6 h) fun _=>rfl,h2,hd,fun _=>a1,fun h=>absurd h (by omega)⟩
   ·rw [Ju,Ju];rw [ak h6,ak h6];exact (kF _).append a2
   rw [uI,uI,ak h6,ak h6];omega
  split
  ·rename_i h6 h7
   split
   ·exact nil
   rename_i hn
   obtain ⟨h5,h8⟩:=h5 h7;obtain ⟨a1,a2,a3⟩:=hr h8;have hl:=Qm (acc:=acc) (rej:=rej) r;refine one _ ?_ ?_ ?_
   ·rw [kY];exact ⟨TB h1 (fun _=>rfl) fun h=>absurd h7 h,h2,hd,fun h=>absurd h h6,fun _=>⟨⟨hn,by omega⟩,a1⟩⟩
   ·rw [Ju,Ju];rw [ah h6,ah h6,ak h7,ak h7];exact (kF _).append a2
   rw [uI,uI,ah h6,ah h6,ak h7,ak h7];omega
  rename_i h6 h7
  refine one _ ?_ ?_ ?_
  ·rw [kY];exact ⟨TB h1 (fun _=>rfl) fun _=>rfl,h2,hd,fun h=>absurd h h6,fun h=>absurd h h7⟩
  ·rw [Ju,Ju];exact kF _
  rw [uI,uI];exact bR _
theorem ari (C:bC) (note:Bool) (t:Int):∀ x:aU,oU C note t x→jY C note t (pK acc rej x)∧(nu (pK acc rej x)).Sublist (uW x)∧om (pK acc rej x)≤uR x
 | .mk h cs,hx=>by
  have hc:=adq C note t cs;rw [oU] at hx;obtain ⟨h1,h2⟩:=hx;obtain ⟨a1,a2,a3⟩:=hc h2;have hl:=Ql (acc:=acc) (rej:=rej) cs;have nil:jY C note t []∧(nu []).Sublist (uW (.mk h cs))∧om []≤uR (.mk h cs):=⟨by rw [jY];trivial,by rw [nu];exact List.nil_sublist _,by rw [om];exact iH _⟩;rw [pK]
  split
  ·exact nil
  split
  ·exact nil
  rename_i hn
  rw [jY,jY,nu,nu,om,om,oU,uW,uW,uR,uR,fZ];refine ⟨⟨⟨?_,a1⟩,aL⟩,a2,a3⟩;obtain ⟨z1,z2,z3⟩:=Qk.1 h1;exact Qk.2 ⟨N7 acc rej z1,hn,by omega⟩
theorem arf (C:bC) (note:Bool) (t:Int):∀ x:aZ,oQ C note t x→kK C note t (qO acc rej x)∧(nY (qO acc rej x)).Sublist (vZ x)∧pq (qO acc rej x)≤uC x
 | .mk i h f,hx=>by
  have hf:=Qh C false note t f;rw [oQ] at hx;obtain ⟨h1,h2⟩:=hx;obtain ⟨a1,a2,a3⟩:=hf h2;rw [qO]
  split
  ·exact ⟨by rw [kK];trivial,by rw [nY];exact List.nil_sublist _,by rw [pq];exact iH _⟩
  rw [kK,kK,nY,nY,pq,pq,oQ,vZ,vZ,uC,uC,fZ];exact ⟨⟨⟨N7 acc rej h1,a1⟩,aL⟩,(kF [i]).append a2,a3⟩
theorem Qh (C:bC) (body note:Bool) (t:Int):∀ l:List ay,iC C body note t l→iC C body note t (fC acc rej l)∧(iZ (fC acc rej l)).Sublist (iZ l)∧jM (fC acc rej l)≤jM l
 | [],_=>by rw [fC];exact ⟨by rw [iC];trivial,kF _,bR _⟩
 | x :: l,h=>by
  rw [iC] at h;obtain ⟨a1,a2,a3⟩:=arh C body note t x h.1;obtain ⟨b1,b2,b3⟩:=Qh C body note t l h.2;rw [fC,Mh,MQ,iZ,jM];exact ⟨Dl.2 fun y hy=>(mJ.1 hy).elim (Dl.1 a1 y) (Dl.1 b1 y),a2.append b2,by omega⟩
theorem adr (C:bC) (note:Bool) (t:Int):∀ l:List aU,jY C note t l→jY C note t (iL acc rej l)∧(nu (iL acc rej l)).Sublist (nu l)∧om (iL acc rej l)≤om l
 | [],_=>by rw [iL];exact ⟨by rw [jY];trivial,kF _,bR _⟩
 | x :: l,h=>by
  rw [jY] at h;obtain ⟨a1,a2,a3⟩:=ari C note t x h.1;obtain ⟨b1,b2,b3⟩:=adr C note t l h.2;rw [iL,abM,aev,nu,om];exact ⟨P5.2 fun y hy=>(mJ.1 hy).elim (P5.1 a1 y) (P5.1 b1 y),a2.append b2,by omega⟩
theorem adq (C:bC) (note:Bool) (t:Int):∀ l:List aZ,kK C note t l→kK C note t (gJ acc rej l)∧(nY (gJ acc rej l)).Sublist (nY l)∧pq (gJ acc rej l)≤pq l
 | [],_=>by rw [gJ];exact ⟨by rw [kK];trivial,kF _,bR _⟩
 | x :: l,h=>by
  rw [kK] at h;obtain ⟨a1,a2,a3⟩:=arf C note t x h.1;obtain ⟨b1,b2,b3⟩:=adq C note t l h.2;rw [gJ,abL,aeu,nY,pq];exact ⟨PY.2 fun y hy=>(mJ.1 hy).elim (PY.1 a1 y) (PY.1 b1 y),a2.append b2,by omega⟩
end
def iQ (acc rej:Int→Bool) (d:fT):fT:=⟨fC acc rej d.flow,bG acc rej d.fin,d.revs,d.gU⟩
theorem MB {d:fT} (h:iy d=0):iy (iQ acc rej d)=0:=by
 rw [Bl] at h ⊢;obtain ⟨h1,⟨h2,h3⟩,h4,h5,h6⟩:=h;obtain ⟨a1,a2,a3⟩:=Qh (acc:=acc) (rej:=rej) _ true false 0 d.flow h4
 unfold sj at h3
 rw [mU] at h3;have hd:d.fin.marks.bH=[]:=List.eq_nil_of_length_eq_zero (by omega)
 have hg:¬ lM acc rej d.fin:=fun h=>h.elim (fun h=>h3 (.inl (.inl h.1))) fun ⟨x,hx,_⟩=>by rw [hd] at hx;cases hx
 have ha:bG acc rej d.fin=kM acc rej d.fin:=ah hg;refine ⟨h1,⟨?_,?_⟩,a1,h5.sub a2,by show jM (fC acc rej d.flow)≤_;omega⟩
 ·show gN d.ku 3 (bG acc rej d.fin)=0
  rw [ha];exact N7 acc rej h2
 show sj (bG acc rej d.fin).marks=false
 rw [ha]
 unfold sj kM
 rw [mU];dsimp only;rw [hd];rintro ((h|h)|h)
 ·split at h
  ·exact h rfl
  exact h3 (.inl (.inl h))
 ·split at h
  ·exact h rfl
  exact h3 (.inl (.inr h))
 simp at h
structure zC (n:Nat) (d:fT):Prop where
 z:yF d
 fl:cu d.flow≤n
 hd:mh d.fin≤n
theorem acB {n:Nat} {d:fT} (h:zC n d):zC n (nD d):=⟨apB h.z,Nat.le_trans (Xl _) h.fl,h.hd⟩
theorem MC {n:Nat} {d:fT} (h:zC n d) (hn:2*n≤1073741824) (hn0:16≤n):zC (2*n) (iQ acc rej d):=by
 have h1:=Qn (acc:=acc) (rej:=rej) d.flow
 have h2:mh (bG acc rej d.fin)≤2*n:=by
  unfold bG
  split
  ·show mh Ci≤_
   simp [E9,Ci,eG];try omega
  have:=N9 (acc:=acc) (rej:=rej) d.fin;have:=h.hd;omega
 have h3:=h.fl;refine ⟨⟨by show cu (fC acc rej d.flow)≤_;omega,Nat.le_trans h2 (by omega),h.z.rn,h.z.rt,h.z.sn,h.z.st⟩,by show cu (fC acc rej d.flow)≤_;omega,h2⟩
end
theorem Ta:∀ args w,(callFunc 96 args).run prog w=.ok (.enter 96 args) w:=enters func96 rfl (by kernel_rfl)
instance ZT:dR prog 43 0 0:=⟨by kernel_rfl⟩
theorem ZC:∀ args w,(callFunc 76 args).run prog w=.ok (.enter 76 args) w:=enters func76 rfl (by kernel_rfl)
instance ZU:dR prog 43 1 1:=⟨by kernel_rfl⟩
theorem akd:∀ args w,(callFunc 97 args).run prog w=.ok (.enter 97 args) w:=enters func97 rfl (by kernel_rfl)
theorem ajK:∀ args w,(callFunc 46 args).run prog w=.ok (.enter 46 args) w:=enters func46 rfl (by kernel_rfl)
theorem ake:∀ args w,(callFunc 99 args).run prog w=.ok (.enter 99 args) w:=enters func99 rfl (by kernel_rfl)
theorem ajL:∀ args w,(callFunc 48 args).run prog w=.ok (.enter 48 args) w:=enters func48 rfl (by kernel_rfl)
theorem ahU:∀ args w,(callFunc 118 args).run prog w=.ok (.enter 118 args) w:=enters func118 rfl (by kernel_rfl)
theorem oI.VR {acc rej:Int→Bool} {h:dP} {G:GH} {p d l:aj} (hh:iA G (bG acc rej h) p d l):oI acc rej h (.tuple #[.agg #[p,vi (bG acc rej h).marks.ins,vi (bG acc rej h).marks.move,d,l],.bool (!decide (lM acc rej h))]) G:=by
 unfold oI
 by_cases hg:lM acc rej h
 ·have e:bG acc rej h=Ci:=ak hg;rw [ak hg,iO hg];rw [e] at hh ⊢;exact ⟨p,d,l,rfl,hh⟩
 have e:bG acc rej h=kM acc rej h:=ah hg;rw [ah hg,jf hg];rw [e] at hh ⊢;exact ⟨p,d,l,rfl,hh⟩
theorem atY (G:GH):Cq (.func (.func 97) #[] #[]) G (fun _=>false) fun _=>true:=by
 intro G1 w0 hm hG r;refine jo (caps:=[]) akd ?_;refine eN [(0,_)] func97 rfl ntmps97 rfl rfl hG ?_;intro a H;refine kP H (SR fun _ K1=>Ra rfl (aF K1 rfl (SR fun _ K2=>Ra rfl (aF K2 rfl ?_))));clear H K1 K2;intro a H;refine cK ?_;refine (fE H results97 (.cons (bq H rfl) (.cons (bq H rfl) .nil)) ?_).1;exact H.rt rfl
theorem arC (G:GH):DW (.func (.func 46) #[] #[]) G (fun _=>false) fun _=>true:=by
 intro G1 w0 hm hG h p d l hh hz;refine jo (caps:=[]) ajK ?_;obtain ⟨pA,pn,pc,rfl⟩:=hh.props.form;obtain ⟨dA,dn,dc,rfl⟩:=hh.bH.form;obtain ⟨lA,ln,lc,rfl⟩:=hh.layers.form;refine eN [(0,_)] func46 rfl ntmps46 rfl rfl hG ?_;intro a H;refine fK (fun _ K1=>?_);refine dW (cs:=[_,_,_,_,_]) H wn rfl rfl rfl ?_;clear H;intro b1 a w hb1 H;refine dJ dB H wn rfl ?_;clear H;intro b2 a w hb2 H;refine kH H (aF K1 rfl (SR fun _ K2=>?_));clear H K1;intro a H;refine aR dB (cs:=[_,_,_,_,_]) H wn rfl rfl (H.hp.bT 1 rfl rfl) rfl ?_;clear H;intro a H;refine s_call Ta H wn rfl (VP _ _ H.ro _ _ _ (atY _) rfl h _ _ _ hh hz) rfl ?_;clear H;rintro v5 G5 a w hd5 zZ H;obtain ⟨q1,q2,q3,q4,q5,q6,q7,q8,q9,rfl,sV⟩:=hd5.ans;(iterate 2 refine lQ H wn rfl rfl rfl ?_;clear H;intro a H);refine aY dB 0 (vs:=[_,_,_,_,_]) _ H wn rfl rfl rfl rfl rfl rfl rfl rfl ?_;clear H;intro w H;dsimp only [List.set,setRow] at H;refine kH H (aF K2 rfl ?_);clear H K2;intro a H;refine cK ?_;refine (fE H results46 (.cons (nH dB (cs:=[_,_,_,_,_]) H rfl rfl (H.hp.bT 0 rfl rfl)) (.cons (bq H rfl) .nil)) ?_).1;exact H.rt (oI.VR sV)
theorem atX (G:GH):Cq (.func (.func 99) #[] #[]) G (fun _=>true) fun _=>false:=by
 intro G1 w0 hm hG r;refine jo (caps:=[]) ake ?_;refine eN [(0,_)] func99 rfl ntmps99 rfl rfl hG ?_;intro a H;refine kP H (SR fun _ K1=>Ra rfl (aF K1 rfl (SR fun _ K2=>Ra rfl (aF K2 rfl ?_))));clear H K1 K2;intro a H;refine cK ?_;refine (fE H results99 (.cons (bq H rfl) (.cons (bq H rfl) .nil)) ?_).1;exact H.rt rfl
theorem arB (G:GH):DW (.func (.func 48) #[] #[]) G (fun _=>true) fun _=>false:=by
 intro G1 w0 hm hG h p d l hh hz;refine jo (caps:=[]) ajL ?_;obtain ⟨pA,pn,pc,rfl⟩:=hh.props.form;obtain ⟨dA,dn,dc,rfl⟩:=hh.bH.form;obtain ⟨lA,ln,lc,rfl⟩:=hh.layers.form;refine eN [(0,_)] func48 rfl ntmps48 rfl rfl hG ?_;intro a H;refine fK (fun _ K1=>?_);refine dW (cs:=[_,_,_,_,_]) H wn rfl rfl rfl ?_;clear H;intro b1 a w hb1 H;refine dJ dB H wn rfl ?_;clear H;intro b2 a w hb2 H;refine kH H (aF K1 rfl (SR fun _ K2=>?_));clear H K1;intro a H;refine aR dB (cs:=[_,_,_,_,_]) H wn rfl rfl (H.hp.bT 1 rfl rfl) rfl ?_;clear H;intro a H;refine s_call Ta H wn rfl (VP _ _ H.ro _ _ _ (atX _) rfl h _ _ _ hh hz) rfl ?_;clear H;rintro v5 G5 a w hd5 zZ H;obtain ⟨q1,q2,q3,q4,q5,q6,q7,q8,q9,rfl,sV⟩:=hd5.ans;(iterate 2 refine lQ H wn rfl rfl rfl ?_;clear H;intro a H);refine aY dB 0 (vs:=[_,_,_,_,_]) _ H wn rfl rfl rfl rfl rfl rfl rfl rfl ?_;clear H;intro w H;dsimp only [List.set,setRow] at H;refine kH H (aF K2 rfl ?_);clear H K2;intro a H;refine cK ?_;refine (fE H results48 (.cons (nH dB (cs:=[_,_,_,_,_]) H rfl rfl (H.hp.bT 0 rfl rfl)) (.cons (bq H rfl) .nil)) ?_).1;exact H.rt (oI.VR sV)
abbrev lsB (l:List Int):Int→Bool:=fun k=>ni l k
theorem atW {G:GH} {b:Nat} {A R:List Int} {va vr:aj} (ha:aH G b 0=some va) (hr:aH G b 1=some vr) (hva:au G (.sl 1 (A.map fun k=>[li k])) va) (Me:au G (.sl 1 (R.map fun k=>[li k])) vr) (hla:A.length≤4294967296) (hlr:R.length≤4294967296) :
  Cq (.func (.func 118) #[] #[(aM b 0)]) G (lsB A) (lsB R):=by
 intro G1 w0 hm hG r;refine jo (caps:=[(aM b 0)]) ahU ?_;replace ha:=aG hm ha;replace hr:=aG hm hr;replace hva:=hva.mono hm;replace Me:=Me.mono hm;refine eN [(0,_),(1,_)] func118 rfl ntmps118 rfl rfl hG ?_;intro a H;refine kP H (SR fun _ K1=>Ra rfl (aF K1 rfl (SQ fun _ K2=>?_)));clear H K1;intro a H;refine dI hmx [[],[0],[],[0,1,2],[],[4],[],(ra 0 7),(ra 0 8),(ra 0 9)] [8,9] (by kernel_rfl) [_,_,_,.bool (lsB A r),_,_,_,.bool (lsB R r)] H (aD (Z0 rfl (Rf ZT rfl)) (X1 0 5 rfl fun hG=>Rg Hq rfl (aG hG ha)) (Z0 rfl (Rm rfl)) ?_ (aD (Z0 rfl (Rf ZU rfl)) (X1 4 9 rfl fun hG=>Rg Hq rfl (aG hG hr)) (Z0 rfl (Rm rfl)) ?_ (bM (bS rfl) (bM (bS rfl) cO)))) ?_
 ·refine dL 1 6 2 7 rfl rfl fun _ a w G1 hG HT H fin=>?_;refine s_call ZC H wn rfl (acv _ _ H.ro A r _ (hva.mono hG) hla) rfl ?_;clear H;rintro v8 G8 a w rfl oM H;exact fin H oM (rfl)
 ·refine dL 5 10 6 11 rfl rfl fun _ a w G1 hG HT H fin=>?_;refine s_call ZC H wn rfl (acv _ _ H.ro R r _ (Me.mono hG) hlr) rfl ?_;clear H;rintro v12 Cm a w rfl nW H;exact fin H nW (rfl)
 clear H;intro a w G iY H hv;have H:=H.aN (hv 3 8 rfl rfl) rfl;have H:=H.aN (hv 7 12 rfl rfl) rfl;clear hv;refine kH H (Ra rfl (Ra rfl ?_));clear H;intro a H;refine aC ⟨rfl,?_⟩;refine K2 _ _ ?_;clear K2;refine cK ?_;refine (fE H results118 (.cons (bq H rfl) (.cons (bq H rfl) .nil)) ?_).1;exact H.rt rfl
theorem PN (G:GH) (w0:World) (hG:Hold G w0) (A R:List Int) (aA rA:Option Addr) (an ac rn rc:Nat) (hva:au G (.sl 1 (A.map fun k=>[li k])) (.slice aA an ac)) (Me:au G (.sl 1 (R.map fun k=>[li k])) (.slice rA rn rc)) (hla:A.length≤4294967296) (hlr:R.length≤4294967296) (h:dP) (p d l:aj) (hh:iA G h p d l) (hz:mh h≤1073741824) :
  Calls prog 65 #[rz h p d l,.agg #[.slice aA an ac,.slice rA rn rc]] w0 (bB w0 G (oI (lsB A) (lsB R) h)):=by
 obtain ⟨pA,pn,pc,rfl⟩:=hh.props.form;obtain ⟨dA,dn,dc,rfl⟩:=hh.bH.form;obtain ⟨lA,ln,lc,rfl⟩:=hh.layers.form;refine eN [(0,_),(1,_)] func65 rfl ntmps65 rfl rfl hG ?_;intro a H;refine fK (fun _ K1=>?_);refine dW (cs:=[_,_,_,_,_]) H wn rfl rfl rfl ?_;clear H;intro b2 a w hb2 H;refine dW (cs:=[_,_]) H wn rfl rfl rfl ?_;clear H;intro b3 a w hb3 H;refine dJ dB H wn rfl ?_;clear H;intro b4 a w hb4 H;refine kH H (aF K1 rfl (SQ fun _ K2=>?_));clear H K1;intro a H;have H:=H.dX (Pl:=[_,_,_]) (dN:=[_,_,_]) [1,0,2] (by decide) rfl;obtain ⟨Ga,hma,hb',H⟩:=H.eB;have hga:=fun j v hj=>nN hb' 0 [.slice aA an ac,.slice rA rn rc] rfl j v hj;refine tO ?_;refine aR dB (cs:=[_,_,_,_,_]) H wn rfl rfl (H.hp.bT 1 rfl rfl) rfl ?_;clear H;intro a H;refine qy H wn rfl rfl ?_;clear H;intro a H;refine s_call Ta H wn rfl (VP _ _ H.ro _ _ _ (atW (hga 0 _ rfl) (hga 1 _ rfl) (hva.mono hma) (Me.mono hma) hla hlr) rfl h _ _ _ (hh.mono hma) hz) rfl ?_;clear H;rintro v8 G8 a w hd8 qj H;obtain ⟨q1,q2,q3,q4,q5,q6,q7,q8,q9,rfl,I8⟩:=hd8.ans;(iterate 2 refine lQ H wn rfl rfl rfl ?_;clear H;intro a H);refine aY dB 0 (vs:=[_,_,_,_,_]) _ H wn rfl rfl rfl rfl rfl rfl rfl rfl ?_;clear H;intro w H;dsimp only [List.set,setRow] at H;refine kH H (gY K2 rfl ?_);clear H K2;intro a H;refine cK ?_;refine (fE H results65 (.cons (nH dB (cs:=[_,_,_,_,_]) H rfl rfl (H.hp.bT 0 rfl rfl)) (.cons (bq H rfl) .nil)) ?_).1;exact H.rt (oI.VR I8)

theorem Sy:∀ args w,(callFunc 17 args).run prog w=.ok (.enter 17 args) w:=enters func17 rfl (by kernel_rfl)
theorem Zz:∀ args w,(callFunc 47 args).run prog w=.ok (.enter 47 args) w:=enters func47 rfl (by kernel_rfl)
instance EX:Ty prog 43 2 48 [.slice none 0 0,.slice none 0 0] true:=⟨by kernel_rfl,by kernel_rfl⟩
theorem Og:∀ args w,(callFunc 65 args).run prog w=.ok (.enter 65 args) w:=enters func65 rfl (by kernel_rfl)
theorem WK:qE prog 43 [(0,1),(1,1)] [.slice none 0 0,.slice none 0 0]:=⟨by kernel_rfl,by kernel_rfl⟩
theorem aeO {acc rej:Int→Bool} (G:GH) (w0:World) (hG:Hold G w0) (fv:aj) (hf:DW fv G acc rej) (D:iE) (d:fT) (hR:jN G D d) (hs:zC 536870912 d) (hc:iy d=0) :
  Calls prog 47 #[fv,D.val] w0 (bB w0 G fun u G'=>∃ D':iE,u=D'.val∧jN G' D' (nD (iQ acc rej d))):=by
 obtain ⟨df,dp,dd,dy,dr,d1,d2,d3,d4,ins,mv⟩:=D;have hok:=MB (acc:=acc) (rej:=rej) hc;have hfl:=hs.fl;have hhd:=hs.hd;have hz2:yF (iQ acc rej d):=(MC hs (by decide) (by decide)).z;obtain ⟨p1,p2,p3,p4⟩:=acA hz2 hok;obtain ⟨Ut,Uu,KY,KZ,hRr,hRs⟩:=hR;dsimp only at KY KZ;subst KY KZ;refine eN [(0,_),(1,_)] func47 rfl ntmps47 rfl rfl hG ?_;intro a H;refine fK (fun _ K1=>?_);refine dW (cs:=[_,_,_,_,_,_,_,_,_,_,_]) H wn rfl rfl rfl ?_;clear H;intro b3 a w hb3 H;refine dJ gV H wn rfl ?_;clear H;intro b4 a w hb4 H;refine K1 _ _ ?_;clear K1;refine kP H (SR fun _ K2=>Rm rfl (dU vO lS 1 rfl rfl ?_));clear H;intro a H;refine s_call Td H wn rfl (adx 536870913 (bR _) _ _ H.ro hf d.flow _ Ut (by omega)) rfl ?_;clear H;rintro v8 G8 a w Mc qj H;obtain ⟨fA,fn,fc,rfl⟩:=Mc.form;refine kH H (Rf vO rfl ?_);clear H;intro a H;refine aY lS 1 (vs:=[_]) _ H wn rfl rfl rfl rfl rfl rfl rfl rfl ?_;clear H;intro w H;dsimp only [List.set,setRow] at H;refine K2 _ _ ?_;clear K2;refine kP H (SR fun _ K3=>Rm rfl (Rf Bq rfl ?_));clear H;intro a H;refine aR dB (cs:=[_,_,_,_,_]) H wn rfl rfl (H.hp.bT 1 rfl rfl) rfl ?_;clear H;intro a H;refine jF H wn rfl rfl (hf _ _ qj H.ro d.fin _ _ _ (Uu.mono qj) (by omega)) rfl ?_;clear H;rintro v14 AJ a w UH xS H;obtain ⟨q1,q2,q3,q4,q5,q6,q7,q8,q9,rfl,UN⟩:=UH.ans;refine kH H (Rm rfl ?_);clear H;intro a H;(iterate 2 refine lQ H wn rfl rfl rfl ?_;clear H;intro a H);refine kH H (Rf Bq rfl ?_);clear H;intro a H;refine aY dB 1 (vs:=[_,_,_,_,_]) _ H wn rfl rfl rfl rfl rfl rfl rfl rfl ?_;clear H;intro w H;dsimp only [List.set,setRow] at H;refine K3 _ _ ?_;clear K3;refine fK (fun _ K4=>?_);refine aR gV (cs:=(⟨(fA,fn,fc),(q1,q2,q3),(q4,q5,q6),(q7,q8,q9),dr,d1,d2,d3,d4,(bG acc rej d.fin).marks.ins,(bG acc rej d.fin).marks.move⟩:iE).cells) H wn rfl rfl (H.hp.bT 1 rfl rfl) rfl ?_;clear H;intro a H;refine s_call Sy H wn rfl (Sk _ _ H.ro ⟨(fA,fn,fc),(q1,q2,q3),(q4,q5,q6),(q7,q8,q9),dr,d1,d2,d3,d4,(bG acc rej d.fin).marks.ins,(bG acc rej d.fin).marks.move⟩ (iQ acc rej d) ⟨Mc.mono xS,UN,rfl,rfl,hRr.mono (fun b o h=>xS b o (qj b o h)),hRs.mono fun b o h=>xS b o (qj b o h)⟩ hz2 p1 p2 p3 p4) rfl ?_;clear H;rintro v19 HV a w ⟨E,rfl,hE⟩ rW H;refine aY gV 0 (vs:=[_,_,_,_,_,_,_,_,_,_,_]) _ H wn rfl rfl rfl rfl rfl rfl rfl rfl ?_;clear H;intro w H;dsimp only [List.set,setRow] at H;refine K4 _ _ ?_;clear K4;refine cK ?_;refine (leave1 H results47 (.cons (nH gV (cs:=[_,_,_,_,_,_,_,_,_,_,_]) H rfl rfl (H.hp.bT 0 rfl rfl)) .nil) ?_).1;exact H.rt ⟨E,rfl,hE⟩
theorem adl (G:GH) (w0:World) (hG:Hold G w0) (D:iE) (d:fT) (hR:jN G D d) (hs:zC 536870912 d) (hc:iy d=0) :
  Calls prog 14 #[D.val] w0 (bB w0 G fun u G'=>∃ D':iE,u=D'.val∧jN G' D' (nD (iQ (fun _=>false) (fun _=>true) d))):=by
 refine eN [(0,_)] func14 rfl ntmps14 rfl rfl hG ?_;intro a H;refine fK (fun _ K1=>?_);refine dW (cs:=[_,_,_,_,_,_,_,_,_,_,_]) H wn rfl rfl rfl ?_;clear H;intro b1 a w hb1 H;refine dJ gV H wn rfl ?_;clear H;intro b2 a w hb2 H;refine K1 _ _ ?_;clear K1;refine fK (fun _ K2=>?_);refine aR gV (cs:=[_,_,_,_,_,_,_,_,_,_,_]) H wn rfl rfl (H.hp.bT 1 rfl rfl) rfl ?_;clear H;intro a H;refine s_call Zz H wn rfl (aeO _ _ H.ro _ (arC _) D d hR hs hc) rfl ?_;clear H;rintro v4 G4 a w ⟨E,rfl,hE⟩ Je H;refine aY gV 0 (vs:=[_,_,_,_,_,_,_,_,_,_,_]) _ H wn rfl rfl rfl rfl rfl rfl rfl rfl ?_;clear H;intro w H;dsimp only [List.set,setRow] at H;refine K2 _ _ ?_;clear K2;refine cK ?_;refine (leave1 H results14 (.cons (nH gV (cs:=[_,_,_,_,_,_,_,_,_,_,_]) H rfl rfl (H.hp.bT 0 rfl rfl)) .nil) ?_).1;exact H.rt ⟨E,rfl,hE⟩
theorem adk (G:GH) (w0:World) (hG:Hold G w0) (D:iE) (d:fT) (hR:jN G D d) (hs:zC 536870912 d) (hc:iy d=0) :
  Calls prog 15 #[D.val] w0 (bB w0 G fun u G'=>∃ D':iE,u=D'.val∧jN G' D' (nD (iQ (fun _=>true) (fun _=>false) d))):=by
 refine eN [(0,_)] func15 rfl ntmps15 rfl rfl hG ?_;intro a H;refine fK (fun _ K1=>?_);refine dW (cs:=[_,_,_,_,_,_,_,_,_,_,_]) H wn rfl rfl rfl ?_;clear H;intro b1 a w hb1 H;refine dJ gV H wn rfl ?_;clear H;intro b2 a w hb2 H;refine K1 _ _ ?_;clear K1;refine fK (fun _ K2=>?_);refine aR gV (cs:=[_,_,_,_,_,_,_,_,_,_,_]) H wn rfl rfl (H.hp.bT 1 rfl rfl) rfl ?_;clear H;intro a H;refine s_call Zz H wn rfl (aeO _ _ H.ro _ (arB _) D d hR hs hc) rfl ?_;clear H;rintro v4 G4 a w ⟨E,rfl,hE⟩ Je H;refine aY gV 0 (vs:=[_,_,_,_,_,_,_,_,_,_,_]) _ H wn rfl rfl rfl rfl rfl rfl rfl rfl ?_;clear H;intro w H;dsimp only [List.set,setRow] at H;refine K2 _ _ ?_;clear K2;refine cK ?_;refine (leave1 H results15 (.cons (nH gV (cs:=[_,_,_,_,_,_,_,_,_,_,_]) H rfl rfl (H.hp.bT 0 rfl rfl)) .nil) ?_).1;exact H.rt ⟨E,rfl,hE⟩
section
section
variable {N:Nat} {D:List Deferred} {w0:World} {F:Nat→Prop} {G0 G G1 G2:GH} {L L1 L2:OL} {T Xs:List (Nat × aj)}
variable {r:Option Nat} {P:Program} {Q:Exit→Act→World→Prop} {l:List Oper} {a a':Act} {w w':World}
theorem afY {id:Nat} {κ:Type} (k0:κ) (hm:P.follows .mixedOrders=true) (bD:List (List Nat)) (B:List Nat) (hk:wP l bD=true) (hB:vo l bD B=true) (m0 m1 m2:Nat) (Jg:B.contains m2=false) (h02:(bD.getD m2 []).contains m0=true) (h12:(bD.getD m2 []).contains m1=true) (hne:Nat.beq m1 m2=false) (hne0:Nat.beq m0 m2=false) (hne1:Nat.beq m0 m1=false) (Am:Obj) (xZ:κ→Obj) (pr:Nat→κ→Nat→aj→GH→Prop)
  (hp1:∀ b b' k i v G,Nat.beq i m1=false→(bD.getD i []).contains m1=false→pr b k i v G→pr b' k i v G)
  (hp0:∀ b k k' i v G,Nat.beq i m0=false→(bD.getD i []).contains m0=false→pr b k i v G→pr b k' i v G)
  (H:St N D w0 F G0 G L T a w)
  (hstep:allI (fun i o=>∀ b k L' S a w G1,(∀ x,x∈L→x∈L')→B.contains i=false→Nat.beq i m0=false→Nat.beq i m1=false→Nat.beq i m2=false→S i=false→(∀ j∈bD.getD i [],S j=true)→(∀ k o,G k=some o→G1 k=some o)→St N D w0 F G0 G1 L' T a w→(∀ i d,S i=true→dS l i=some d→∃ v,a.tmps[d]?=some v∧pr b k i v G1) →
   WL r P l.toArray (fun e a' w'=>e=.normal∧DX N D w0 F G0 G L' T l (pr b k) (bY S i) a' w') [o] a w) 0 l)
  (anw:∀ o b L' S a w G1,(∀ x,x∈L→x∈L')→l[m0]?=some o→S m0=false→(∀ j∈bD.getD m0 [],S j=true)→(∀ k o,G k=some o→G1 k=some o)→St N D w0 F G0 G1 L' T a w→(∀ k i d,i≠m0→S i=true→dS l i=some d→∃ v,a.tmps[d]?=some v∧pr b k i v G1) →
   WL r P l.toArray (fun e a' w'=>e=.normal∧∃ k,DX N D w0 F G0 G L' T l (pr b k) (bY S m0) a' w') [o] a w)
  (F7:∀ o k S a w G1,l[m1]?=some o→S m1=false→(∀ j∈bD.getD m1 [],S j=true)→(∀ k o,G k=some o→G1 k=some o)→St N D w0 F G0 G1 L T a w→(∀ b i d,i≠m1→S i=true→dS l i=some d→∃ v,a.tmps[d]?=some v∧pr b k i v G1) →
   WL r P l.toArray (fun e a' w'=>e=.normal∧∃ b,DX N D w0 F G0 G ((b,Am) :: L) T l (pr b k) (bY S m1) a' w') [o] a w)
  (F8:∀ o b k S a w G1,l[m2]?=some o→S m2=false→(∀ j∈bD.getD m2 [],S j=true)→(∀ k o,G k=some o→G1 k=some o)→St N D w0 F G0 G1 ((b,Am) :: L) T a w→(∀ i d,S i=true→dS l i=some d→∃ v,a.tmps[d]?=some v∧pr b k i v G1) →
   WL r P l.toArray (fun e a' w'=>e=.normal∧DX N D w0 F G0 G ((b,xZ k) :: L) T l (pr b k) (bY S m2) a' w') [o] a w)
  (hend:∀ b k a w G1,(∀ k o,G k=some o→G1 k=some o)→St N D w0 F G0 G1 ((b,xZ k) :: L) T a w→(∀ i d,B.contains i=false→dS l i=some d→∃ v,a.tmps[d]?=some v∧pr b k i v G1)→WL r P l.toArray (fun e a w=>e=.normal∧Q .normal a w) (oV l B) a w)
  (CZ:Nat.blt m2 l.length=true):WP r P (.region id l.toArray true) Q a w:=by
 have hne':m1≠m2:=fun e=>by subst e;rw [Nat.beq_refl] at hne;cases hne
 have anz:m0≠m2:=fun e=>by subst e;rw [Nat.beq_refl] at hne0;cases hne0
 have LJ:m0≠m1:=fun e=>by subst e;rw [Nat.beq_refl] at hne1;cases hne1
 refine Ea hm bD B hk hB (fun S a w=>(S m2=true→S m1=true∧S m0=true)∧∃ b k L',L'=(bif S m2 then (b,xZ k) :: L else bif S m1 then (b,Am) :: L else L)∧DX N D w0 F G0 G L' T l (pr b k) S a w)
  ⟨fun h=>⟨h,h⟩,0,k0,L,rfl,G,fun _ _ h=>h,H.move H.hp.drew,fun _ _ h=>absurd (show false=true from h) (by decide)⟩ ?_ ?_
 ·rintro i o S a w ho hb aK iK hdesc ⟨EC,b,k,L',hL,G1,hG,HS,hv⟩
  have hsub:∀ x,x∈L→x∈L':=fun x hx=>by
   rw [hL]
   cases S m2 with
   | true=>exact fJ _ hx
   | false=>cases S m1 with
    | true=>exact fJ _ hx
    | false=>exact hx
  have hno:∀ j,j < l.length→S j=true→(bD.getD j []).contains i=false:=fun j hjl hj=>by
   cases hc:(bD.getD j []).contains i with
   | false=>rfl
   | true =>
    have:=hdesc j hjl (by simpa using hc)
    rw [this] at hj;cases hj
  have hnot:i=m1∨i=m0→S m2=false:=fun h=>by
   cases hs:S m2 with
   | false=>rfl
   | true =>
    obtain ⟨g1,g0⟩:=EC hs
    rcases h with rfl|rfl
    ·rw [g1] at aK;cases aK
    ·rw [g0] at aK;cases aK
  by_cases h1:i=m1
  ·have hs2:=hnot (.inl h1);clear hnot
   subst h1
   rw [hs2,aK] at hL
   subst hL
   have h:=F7 o k S a w G1 ho aK iK hG HS fun b' j d hj hSj hd=>by
    obtain ⟨v,hv1,hv2⟩:=hv j d hSj hd
    exact ⟨v,hv1,hp1 b b' k j v _ (nM hj) (hno j (pW hd) hSj) hv2⟩
   refine lu (fun e a' w' ⟨he,b',hD⟩=>⟨he,fun hx=>?_,b',k,_,?_,hD⟩) h
   ·rw [show bY S i m2=S m2 from ah (fun e=>hne' e.symm),hs2] at hx;cases hx
   ·rw [show bY S i i=true from ak rfl,show bY S i m2=S m2 from ah (fun e=>hne' e.symm),hs2]
    rfl
  ·by_cases h2:i=m2
   ·subst h2
    have hs1:S m1=true:=iK m1 (by simpa using h12)
    have hs0:S m0=true:=iK m0 (by simpa using h02)
    rw [aK,hs1] at hL
    subst hL
    have h:=F8 o b k S a w G1 ho aK iK hG HS hv
    refine lu (fun e a' w' ⟨he,hD⟩=>⟨he,fun _=>?_,b,k,_,?_,hD⟩) h
    ·rw [show bY S i m1=S m1 from ah hne',show bY S i m0=S m0 from ah anz];exact ⟨hs1,hs0⟩
    ·rw [show bY S i i=true from ak rfl]
     rfl
   ·have e1:bY S i m1=S m1:=ah (fun e=>h1 e.symm)
    have e2:bY S i m2=S m2:=ah (fun e=>h2 e.symm)
    by_cases h0:i=m0
    ·have hs2:=hnot (.inr h0);clear hnot
     subst h0
     have h:=anw o b L' S a w G1 hsub ho aK iK hG HS fun k' j d hj hSj hd=>by
      obtain ⟨v,hv1,hv2⟩:=hv j d hSj hd
      exact ⟨v,hv1,hp0 b k k' j v _ (nM hj) (hno j (pW hd) hSj) hv2⟩
     refine lu (fun e a' w' ⟨he,k',hD⟩=>⟨he,fun hx=>?_,b,k',L',?_,hD⟩) h
     ·rw [e2,hs2] at hx;cases hx
     ·rw [e1,e2,hL,hs2];rfl
    ·have h:=yP hstep i o ho
     rw [gD] at h
     have e0:bY S i m0=S m0:=ah (fun e=>h0 e.symm)
     refine lu (fun e a' w' ⟨he,hD⟩=>⟨he,by rw [e1,e2,e0];exact EC,b,k,L',?_,hD⟩) (h b k L' S a w G1 hsub hb (nM h0) (nM h1) (nM h2) aK iK hG HS hv)
     rw [e1,e2];exact hL
 ·rintro S a w hall Gg ⟨EC,b,k,L',hL,G1,hG,HS,hv⟩
  have hs2:S m2=true:=hall m2 (Eq.mp Nat.blt_eq CZ) Jg
  rw [hs2] at hL
  subst hL
  exact hend b k a w G1 hG HS fun j d hb hd=>hv j d (hall j (pW hd) hb) hd
end
end
section
theorem SV:∀ args w,(callFunc 64 args).run prog w=.ok (.enter 64 args) w:=enters func64 rfl (by kernel_rfl)
theorem ahT:∀ args w,(callFunc 117 args).run prog w=.ok (.enter 117 args) w:=enters func117 rfl (by kernel_rfl)
theorem oI.mono {acc rej:Int→Bool} {h:dP} {u:aj} {G G':GH} (hm:∀ b o,G b=some o→G' b=some o) (hd:oI acc rej h u G):oI acc rej h u G':=by
 unfold oI at hd ⊢
 split
 ·rename_i hg
  rw [ak hg] at hd;obtain ⟨p,d,l,e,hh⟩:=hd;exact ⟨p,d,l,e,hh.mono hm⟩
 rename_i hg
 rw [ah hg] at hd;obtain ⟨p,d,l,e,hh⟩:=hd;exact ⟨p,d,l,e,hh.mono hm⟩
structure Fb (G:GH) (A R:List Int) (va vr:aj):Prop where
 ha:au G (.sl 1 (A.map fun k=>[li k])) va
 hr:au G (.sl 1 (R.map fun k=>[li k])) vr
 la:A.length≤4294967296
 lr:R.length≤4294967296
theorem Fb.mono {G G':GH} {A R:List Int} {va vr:aj} (hm:∀ b o,G b=some o→G' b=some o) (h:Fb G A R va vr):Fb G' A R va vr:=⟨h.ha.mono hm,h.hr.mono hm,h.la,h.lr⟩
variable {A R:List Int} {aA rA:Option Addr} {an ac rn rc:Nat}
def Nu (A R:List Int) (va vr:aj) (n:Nat):Prop:=∀ (G:GH) (w0:World),Hold G w0→Fb G A R va vr→∀ (l:List ay) (v:aj),au G (.sl 11 (l.map ay.dat)) v→cu l < n →
 Calls prog 64 #[v,.agg #[va,vr]] w0 (bB w0 G fun u G'=>au G' (.sl 11 ((fC (lsB A) (lsB R) l).map ay.dat)) u)
theorem apz {n:Nat} (ih:Nu A R (.slice aA an ac) (.slice rA rn rc) n) (hn:n≤536870913) (G:GH) (w0:World) (hG:Hold G w0) (hd:Fb G A R (.slice aA an ac) (.slice rA rn rc)) (l:List aU) (v:aj) (hv:au G (.sl 6 (l.map aU.dat)) v) (hz:gX l < n) :
  Calls prog 117 #[v,.agg #[.slice aA an ac,.slice rA rn rc]] w0 (bB w0 G fun u G'=>au G' (.sl 6 ((iL (lsB A) (lsB R) l).map aU.dat)) u):=by
 obtain ⟨LA,Rt,rfl,hc1,hc2,hg⟩:=hv.slice
 have hml:4294967297≤maxLen:=by decide
 have hll:=JY l;rw [bO] at *;refine eN [(0,_),(1,_)] func117 rfl ntmps117 rfl rfl hG ?_;refine av 1 ?_;intro a H;refine dW (cs:=[_,_]) H wn rfl rfl rfl ?_;clear H;intro b3 a w hb3 H;refine bJ 2 H ?_;clear H;intro a H;obtain ⟨Ga,hma,hb',H⟩:=H.eB;have hga:=fun j v hj=>nN hb' 0 [.slice aA an ac,.slice rA rn rc] rfl j v hj;refine mE 8 H ?_;clear H;intro a H;refine eH (ι:=Nat × aj × List aj × OL × GH) (Tc:=[(0,_),(3,_)]) (Lc:=[]) (fun gh=>[(5,gh.2.1),(6,vi gh.1)]) (fun gh=>[]++gh.2.2.2.1) (fun gh=>gh.2.2.2.2) (fun gh=>gh.1≤l.length∧bX 74 6 gh.2.1 (iL (lsB A) (lsB R) (l.take gh.1)).length gh.2.2.1 gh.2.2.2.1∧bV gh.2.2.2.2 6 ((iL (lsB A) (lsB R) (l.take gh.1)).map aU.dat) gh.2.2.1∧(∀ b o,Ga b=some o→gh.2.2.2.2 b=some o)) (fun gh=>l.length - gh.1) ((0,.slice none 0 0,[],[],Ga)) sB ?_ ?_
 ·exact ⟨by omega,bX.nil,bV.nil,fun _ _ h=>h⟩
 clear H;rintro ⟨k,v,xs,Lo,g⟩ a w hI H;dsimp only at hI H;obtain ⟨hk,hrw,dQ,hgm⟩:=hI;have hrl:=Qm (acc:=lsB A) (rej:=lsB R) (l.take k);rw [List.length_take] at hrl;have uh:∀ b o,G b=some o→g b=some o:=fun b o h=>hgm b o (hma b o h);dsimp only [lca,bK] at H;refine iI 7 H ?_ ?_ <;> clear H
 ·intro jZ
  have hk2:k < l.length:=by omega
  obtain ⟨b_,o_,pA,pn,pc,dA,dn,dc,yA,yn,yc,cA,cn,cc,rfl,hrow,hhd,hcl⟩:=Mx hk2 hg;replace hrow:=fun j u hj=>aG uh (hrow j u hj);replace hhd:=hhd.mono uh;replace hcl:=hcl.mono uh
  have Df:∀ j u,[.slice pA pn pc,vi l[k].head.marks.ins,vi l[k].head.marks.move,.slice dA dn dc,.slice yA yn yc][j]?=some u→aH g b_ (o_+k*6+0+j)=some u:=fun j u hj=>by
   have hj5:j < 5:=by by_cases h:j < 5;exact h;rw [List.getElem?_eq_none (by simpa using h)] at hj;cases hj
   refine hrow j u ?_
   match j,hj5 with
   | 0,_=>exact hj
   | 1,_=>exact hj
   | 2,_=>exact hj
   | 3,_=>exact hj
   | 4,_=>exact hj
  have hzr:=Na hk2;have hce:=Wt (acc:=lsB A) (rej:=lsB R) l[k];obtain ⟨cA',cc',hcs,UF,amL,hgc⟩:=hcl.slice
  intro a H;injection hcs with e1 e2 e3
  rw [bO] at e2 UF;subst e1 e2 e3;have amO:=JW l[k].cells;refine mE 4 H ?_;clear H
  have ql:XT (fun (aJ:Nat) (dz:(Option Addr × Nat × Nat) × (Option Addr × Nat × Nat) × (Option Addr × Nat × Nat)) (bQ:Nat) (v:aj) (G:GH)=>match bQ with|0=>v=.slice (some ⟨b_,o_,none⟩) l.length Rt|1=>v=vi k|2=>v=(aM b_ (o_+k*6))|3=>v=(aM b_ (o_+k*6+0))|4=>v=.agg #[.slice pA pn pc,vi l[k].head.marks.ins,vi l[k].head.marks.move,.slice dA dn dc,.slice yA yn yc]|5=>v=.agg #[.slice aA an ac,.slice rA rn rc]|6=>v=.tuple #[.agg #[aQ dz.1,vi (bG (lsB A) (lsB R) l[k].head).marks.ins,vi (bG (lsB A) (lsB R) l[k].head).marks.move,aQ dz.2.1,aQ dz.2.2],.bool (!decide (lM (lsB A) (lsB R) l[k].head))]∧iA G (bG (lsB A) (lsB R) l[k].head) (aQ dz.1) (aQ dz.2.1) (aQ dz.2.2)|7=>v=.tuple #[.agg #[aQ dz.1,vi (bG (lsB A) (lsB R) l[k].head).marks.ins,vi (bG (lsB A) (lsB R) l[k].head).marks.move,aQ dz.2.1,aQ dz.2.2],.bool (!decide (lM (lsB A) (lsB R) l[k].head))]∧iA G (bG (lsB A) (lsB R) l[k].head) (aQ dz.1) (aQ dz.2.1) (aQ dz.2.2)|8=>v=.agg #[aQ dz.1,vi (bG (lsB A) (lsB R) l[k].head).marks.ins,vi (bG (lsB A) (lsB R) l[k].head).marks.move,aQ dz.2.1,aQ dz.2.2]∧iA G (bG (lsB A) (lsB R) l[k].head) (aQ dz.1) (aQ dz.2.1) (aQ dz.2.2)|9=>v=.bool (!decide (lM (lsB A) (lsB R) l[k].head))|10=>v=(aM aJ 0)|_=>True):=by intro aJ dz bQ v G G' hm h;(iterate 13 (rcases bQ with _|bQ;(first|exact h|exact ⟨h.1,h.2.mono hm⟩)));exact trivial
  intro a H;refine afY (κ:=(Option Addr × Nat × Nat) × (Option Addr × Nat × Nat) × (Option Addr × Nat × Nat)) (((none,0,0),(none,0,0),(none,0,0))) (hmx) [[],[],[0,1],[0,1,2],(ra 0 4),[],(ra 0 6),(ra 0 7),(ra 0 8),(ra 0 8),[],(ra 0 9++[10]),(ra 0 12)] [12] (by kernel_rfl) (by kernel_rfl) 6 10 11 (by decide) (by decide) (by decide) (by decide) (by decide) (by decide) (.cells #[.slice none 0 0,vi 0,vi 0,.slice none 0 0,.slice none 0 0] 29 (0,0)) (fun k_=>.cells #[aQ k_.1,vi (bG (lsB A) (lsB R) l[k].head).marks.ins,vi (bG (lsB A) (lsB R) l[k].head).marks.move,aQ k_.2.1,aQ k_.2.2] 29 (0,0)) (fun (aJ:Nat) (dz:(Option Addr × Nat × Nat) × (Option Addr × Nat × Nat) × (Option Addr × Nat × Nat)) (bQ:Nat) (v:aj) (G:GH)=>match bQ with|0=>v=.slice (some ⟨b_,o_,none⟩) l.length Rt|1=>v=vi k|2=>v=(aM b_ (o_+k*6))|3=>v=(aM b_ (o_+k*6+0))|4=>v=.agg #[.slice pA pn pc,vi l[k].head.marks.ins,vi l[k].head.marks.move,.slice dA dn dc,.slice yA yn yc]|5=>v=.agg #[.slice aA an ac,.slice rA rn rc]|6=>v=.tuple #[.agg #[aQ dz.1,vi (bG (lsB A) (lsB R) l[k].head).marks.ins,vi (bG (lsB A) (lsB R) l[k].head).marks.move,aQ dz.2.1,aQ dz.2.2],.bool (!decide (lM (lsB A) (lsB R) l[k].head))]∧iA G (bG (lsB A) (lsB R) l[k].head) (aQ dz.1) (aQ dz.2.1) (aQ dz.2.2)|7=>v=.tuple #[.agg #[aQ dz.1,vi (bG (lsB A) (lsB R) l[k].head).marks.ins,vi (bG (lsB A) (lsB R) l[k].head).marks.move,aQ dz.2.1,aQ dz.2.2],.bool (!decide (lM (lsB A) (lsB R) l[k].head))]∧iA G (bG (lsB A) (lsB R) l[k].head) (aQ dz.1) (aQ dz.2.1) (aQ dz.2.2)|8=>v=.agg #[aQ dz.1,vi (bG (lsB A) (lsB R) l[k].head).marks.ins,vi (bG (lsB A) (lsB R) l[k].head).marks.move,aQ dz.2.1,aQ dz.2.2]∧iA G (bG (lsB A) (lsB R) l[k].head) (aQ dz.1) (aQ dz.2.1) (aQ dz.2.2)|9=>v=.bool (!decide (lM (lsB A) (lsB R) l[k].head))|10=>v=(aM aJ 0)|_=>True) (fun b b' k i v G hi hc h=>by (iterate 13 (rcases i with _|i;(first|exact h|exact absurd hi (by decide)|exact absurd hc (by decide))));exact trivial) (fun b k k' i v G hi hc h=>by (iterate 13 (rcases i with _|i;(first|exact h|exact absurd hi (by decide)|exact absurd hc (by decide))));exact trivial) H ?_ ?_ ?_ ?_ ?_ (by kernel_rfl)
  ·clear H;refine aD ?_ ?_ ?_ ?_ (aD ?_ ?_ ?_ ?_ (aD ?_ ?_ ?_ ?_ (bM ?_ cO)))
   ·intro aJ dz dD aP a w G1 dH _ _ _ _ aK hc hG HT hv;have H:=HT;clear aK;have Hb:=H.full;have H:=Hb;clear hc;refine bJ 1 H ?_;clear H;intro a H;refine aC ⟨rfl,?_⟩;exact dw (by kernel_rfl) (ql aJ dz) rfl rfl HT Hb hG hv (fun _ _ h=>h) (rfl) H
   ·intro aJ dz dD aP a w G1 dH _ _ _ _ aK hc hG HT hv;have H:=HT;clear aK;have Hb:=H.full;have H:=Hb;clear hc;refine bJ 1 H ?_;clear H;intro a H;refine aC ⟨rfl,?_⟩;exact dw (by kernel_rfl) (ql aJ dz) rfl rfl HT Hb hG hv (fun _ _ h=>h) (rfl) H
   ·intro aJ dz dD aP a w G1 dH _ _ _ _ aK hc hG HT hv;have H:=HT;clear aK;have H:=H.aN (hv 0 21 (hc 0 (by decide)) rfl) rfl;have H:=H.aN (hv 1 22 (hc 1 (by decide)) rfl) rfl;have Hb:=H.full;have H:=Hb;clear hc;refine bJ 1 H ?_;clear H;intro a H;refine aC ⟨rfl,?_⟩;exact dw (by kernel_rfl) (ql aJ dz) rfl rfl HT Hb hG hv (fun _ _ h=>h) (rfl) H
   ·intro aJ dz dD aP a w G1 dH _ _ _ _ aK hc hG HT hv;have H:=HT;clear aK;have H:=H.aN (hv 2 23 (hc 2 (by decide)) rfl) rfl;have Hb:=H.full;have H:=Hb;clear hc;refine bJ 1 H ?_;clear H;intro a H;refine aC ⟨rfl,?_⟩;exact dw (by kernel_rfl) (ql aJ dz) rfl rfl HT Hb hG hv (fun _ _ h=>h) (rfl) H
   ·intro aJ dz dD aP a w G1 dH _ _ _ _ aK hc hG HT hv;have H:=HT;clear aK;have H:=H.aN (hv 3 24 (hc 3 (by decide)) rfl) rfl;have Hb:=H.full;have H:=Hb;clear hc;refine aR dB (cs:=[.slice pA pn pc,vi l[k].head.marks.ins,vi l[k].head.marks.move,.slice dA dn dc,.slice yA yn yc]) H wn rfl rfl (fun j v hj=>H.hp.aH (aG hG (Df j v hj))) rfl ?_;clear H;intro a H;refine aC ⟨rfl,?_⟩;exact dw (by kernel_rfl) (ql aJ dz) rfl rfl HT Hb hG hv (fun _ _ h=>h) (rfl) H
   ·intro aJ dz dD aP a w G1 dH _ _ _ _ aK hc hG HT hv;have H:=HT;clear aK;have Hb:=H.full;have H:=Hb;clear hc;refine aR EX (cs:=[.slice aA an ac,.slice rA rn rc]) H wn rfl rfl (fun j v hj=>H.hp.aH (aG hG (aG hgm (hga j v hj)))) rfl ?_;clear H;intro a H;refine aC ⟨rfl,?_⟩;exact dw (by kernel_rfl) (ql aJ dz) rfl rfl HT Hb hG hv (fun _ _ h=>h) (rfl) H
   ·intro _ _ _ _ _ _ _ _ _ hB;exact absurd hB (by decide)
   ·intro aJ dz dD aP a w G1 dH _ _ _ _ aK hc hG HT hv;have H:=HT;clear aK;obtain ⟨u27,aon,abh⟩:=hv 6 27 (hc 6 (by decide)) rfl;(try dsimp only at abh);obtain ⟨rfl,I7⟩:=abh;have H:=H.gI aon;have Hb:=H.full;have H:=Hb;clear hc;refine bJ 1 H ?_;clear H;intro a H;refine aC ⟨rfl,?_⟩;exact dw (by kernel_rfl) (ql aJ dz) rfl rfl HT Hb hG hv (fun _ _ h=>h) (⟨rfl,I7⟩) H
   ·intro aJ dz dD aP a w G1 dH _ _ _ _ aK hc hG HT hv;have H:=HT;clear aK;obtain ⟨u20,Ve,LQ⟩:=hv 7 20 (hc 7 (by decide)) rfl;(try dsimp only at LQ);obtain ⟨rfl,I7⟩:=LQ;have H:=H.gI Ve;have Hb:=H.full;have H:=Hb;clear hc;refine lQ H wn rfl rfl rfl ?_;clear H;intro a H;refine aC ⟨rfl,?_⟩;exact dw (by kernel_rfl) (ql aJ dz) rfl rfl HT Hb hG hv (fun _ _ h=>h) (⟨rfl,I7⟩) H
   ·intro aJ dz dD aP a w G1 dH _ _ _ _ aK hc hG HT hv;have H:=HT;clear aK;obtain ⟨u20,Ve,LQ⟩:=hv 7 20 (hc 7 (by decide)) rfl;(try dsimp only at LQ);obtain ⟨rfl,I7⟩:=LQ;have H:=H.gI Ve;have Hb:=H.full;have H:=Hb;clear hc;refine lQ H wn rfl rfl rfl ?_;clear H;intro a H;refine aC ⟨rfl,?_⟩;exact dw (by kernel_rfl) (ql aJ dz) rfl rfl HT Hb hG hv (fun _ _ h=>h) (rfl) H
   ·intro _ _ _ _ _ _ _ _ _ _ hB;exact absurd hB (by decide)
   ·intro _ _ _ _ _ _ _ _ _ _ _ hB;exact absurd hB (by decide)
   intro _ _ _ _ _ _ _ _ hB;exact absurd hB (by decide)
  ·clear H;intro o_ aJ dD aP a w G1 dH jv _ hc hG HT hv;obtain rfl:_=o_:=Option.some.inj jv;clear jv;have H:=HT;have H:=H.aN (hv (((none,0,0),(none,0,0),(none,0,0))) 4 25 (by decide) (hc 4 (by decide)) rfl) rfl;have H:=H.aN (hv (((none,0,0),(none,0,0),(none,0,0))) 5 26 (by decide) (hc 5 (by decide)) rfl) rfl;have Hb:=H.full;have H:=Hb;clear hc;refine s_call Og H wn rfl (PN _ _ H.ro A R aA rA an ac rn rc (hd.ha.mono fun b o h=>hG b o (uh b o h)) (hd.hr.mono fun b o h=>hG b o (uh b o h)) hd.la hd.lr l[k].head _ _ _ (hhd.mono hG) (by omega)) rfl ?_;clear H;rintro v27 Q5 a w hd27 FN H;obtain ⟨q1,q2,q3,q4,q5,q6,q7,q8,q9,rfl,I7⟩:=hd27.ans;refine aC ⟨rfl,((q1,q2,q3),(q4,q5,q6),(q7,q8,q9)),?_⟩;exact Cx (by kernel_rfl) (ql aJ (((q1,q2,q3),(q4,q5,q6),(q7,q8,q9)))) rfl HT Hb hG (fun j e h1 h2 h3=>hv _ j e h1 h2 h3) FN (⟨rfl,I7⟩) H
  ·clear H;intro o_ dz aP a w G1 jv _ hc hG HT hv;obtain rfl:_=o_:=Option.some.inj jv;clear jv;have H:=HT;have Hb:=H.full;have H:=Hb;clear hc;refine dJ dB H wn rfl ?_;clear H;intro b7 a w wT H;refine aC ⟨rfl,b7,?_⟩;exact Cw (by kernel_rfl) rfl HT Hb hG (fun j e h1 h2 h3=>hv _ j e h1 h2 h3) (rfl) H
  ·clear H;intro o_ aJ dz aP a w G1 jv _ hc hG HT hv;obtain rfl:_=o_:=Option.some.inj jv;clear jv;have H:=HT;have H:=H.aN (hv 10 7 (hc 10 (by decide)) rfl) rfl;obtain ⟨u28,Vf,LU⟩:=hv 8 28 (hc 8 (by decide)) rfl;(try dsimp only at LU);obtain ⟨rfl,UR⟩:=LU;have H:=H.gI Vf;have Hb:=H.full;have H:=Hb;clear hc;refine aY dB 0 (vs:=[_,_,_,_,_]) _ H wn rfl rfl rfl rfl rfl rfl rfl rfl ?_;clear H;intro w H;dsimp only [List.set,setRow] at H;refine aC ⟨rfl,?_⟩;exact Sl rfl HT hG hv H
  clear H;intro b7 dz a w G lZ H hv;have H:=H.aN (hv 10 7 rfl rfl) rfl;obtain ⟨u28,Vf,LU⟩:=hv 8 28 (by decide) rfl;(try dsimp only at LU);obtain ⟨rfl,UR⟩:=LU;have H:=H.gI Vf;have H:=H.aN (hv 9 29 rfl rfl) rfl;clear hv;refine kH H (Ra rfl ?_);clear H;intro a H;obtain ⟨⟨q1,q2,q3⟩,⟨q4,q5,q6⟩,q7,q8,q9⟩:=dz;dsimp only [aQ] at UR H;refine aC ⟨rfl,?_⟩;refine oH ?_;refine gcC 5 H ?_ ?_ <;> clear H
  ·intro h31
   try have p31:=dT h31
   have hone:pK (lsB A) (lsB R) l[k]=[]:=by rw [hce,ak (by simpa using h31)]
   have mG:=lZ;refine av 5 ?_;intro a H;refine aC ?_;refine dx ((k+1,v,xs,Lo,_)) (by exact (H.dX (Pl:=[_]) (dN:=[]) [] (by decide) rfl).sub ⟨rfl,rfl,rfl,rfl,aL⟩) ?_
   (try dsimp only);exact ⟨by omega,by rw [zi hk2,hone,fZ];exact hrw,by rw [zi hk2,hone,fZ];exact dQ.mono mG,fun b o h=>mG b o (hgm b o h)⟩
  intro h31
  try have p31:=dF h31
  have uV:¬ lM (lsB A) (lsB R) l[k].head:=by simpa using h31
  rw [ah uV] at hce;obtain ⟨i1,hi1⟩:∃ x,x=(bG (lsB A) (lsB R) l[k].head).marks.ins:=⟨_,rfl⟩;obtain ⟨i2,aaK⟩:∃ x,x=(bG (lsB A) (lsB R) l[k].head).marks.move:=⟨_,rfl⟩;intro a H;rw [← hi1,← aaK] at H;refine mE 2 H ?_;clear H;intro a H;refine aR dB (cs:=[_,_,_,_,_]) H wn rfl rfl (H.hp.bT 0 rfl rfl) rfl ?_;clear H;intro a H;refine jl Qz [_,_,_,_,_,_] H wn rfl rfl rfl rfl ?_;clear H;intro a H;refine dJ jA H wn rfl ?_;clear H;intro b9 a w uT H;refine aY jA 0 (vs:=[_,_,_,_,_,_]) _ H wn rfl rfl rfl rfl rfl rfl rfl rfl ?_;clear H;intro w H;dsimp only [List.set,setRow] at H;refine bJ 6 H ?_;clear H;intro a H;refine eH (ι:=Nat × aj × List aj × OL × GH) (Tc:=[(0,_),(3,_),(5,_),(6,_),(9,_)]) (Lc:=[(_,_)]) (fun gh=>[(10,vi gh.1)]) (fun gh=>[(b9,.cells #[.slice q1 q2 q3,vi i1,vi i2,.slice q4 q5 q6,.slice q7 q8 q9,gh.2.1] 74 (0,0))]++(Lo++gh.2.2.2.1)) (fun gh=>gh.2.2.2.2) (fun gh=>gh.1≤l[k].cells.length∧bX 76 7 gh.2.1 (gJ (lsB A) (lsB R) (l[k].cells.take gh.1)).length gh.2.2.1 gh.2.2.2.1∧bV gh.2.2.2.2 7 ((gJ (lsB A) (lsB R) (l[k].cells.take gh.1)).map aZ.dat) gh.2.2.1∧(∀ b o,G b=some o→gh.2.2.2.2 b=some o)) (fun gh=>l[k].cells.length - gh.1) ((0,.slice none 0 0,[],[],G)) (by exact ((H.Jy (A:=[_,_])).dX (Pl:=[_,_]) (dN:=[_,_]) [1,0] (by decide) rfl).sub ⟨rfl,rfl,rfl,rfl,rfl,rfl,aL⟩) ?_ ?_
  ·exact ⟨by omega,bX.nil,bV.nil,fun _ _ h=>h⟩
  clear H;rintro ⟨i,v2,xs2,Lc,g2⟩ a w hI H;dsimp only at hI H;obtain ⟨hi,hrw2,ug,jg⟩:=hI;have hrl2:=Ql (acc:=lsB A) (rej:=lsB R) (l[k].cells.take i);rw [List.length_take] at hrl2;obtain ⟨Az,AA,rfl,-,-⟩:=hrw2.shape;have hgx:∀ b o,g b=some o→g2 b=some o:=fun b o h=>jg b o (lZ b o h);have r5:=aG hgx (hrow 5 _ rfl);dsimp only [lca,bK] at H;refine iI 11 H ?_ ?_ <;> clear H
  ·intro p41
   have hi2:i < l[k].cells.length:=by omega
   obtain ⟨b2_,o2_,uA,un,uc,gA,gn,gc,zA,zn,zc,wA,M5,wc,rfl,hrow2,F3,FY⟩:=Kt hi2 hgc;replace hrow2:=fun j u hj=>aG hgx (hrow2 j u hj);replace F3:=F3.mono hgx;replace FY:=FY.mono hgx;have hzc:=M9 hi2;have Lj:=Wp (acc:=lsB A) (rej:=lsB R) l[k].cells[i];refine av 11 ?_;intro a H;refine aR jL (cs:=[_,_,_,_,_,_,_]) H wn rfl rfl (fun j v hj=>H.hp.aH (hrow2 j v hj)) rfl ?_;clear H;intro a H;refine dJ jL H wn rfl ?_;clear H;intro b11 a w IZ H;refine aY jL 0 (vs:=[_,_,_,_,_,_,_]) _ H wn rfl rfl rfl rfl rfl rfl rfl rfl ?_;clear H;intro w H;dsimp only [List.set,setRow] at H;refine bJ 3 H ?_;clear H;intro a H;refine aR dB (cs:=[_,_,_,_,_]) H wn rfl rfl (H.hp.bT 0 rfl rfl) rfl ?_;clear H;intro a H;refine aR EX (cs:=[.slice aA an ac,.slice rA rn rc]) H wn rfl rfl (fun j v hj=>H.hp.aH (aG hgx (aG hgm (hga j v hj)))) rfl ?_;clear H;intro a H;refine s_call Og H wn rfl (PN _ _ H.ro A R aA rA an ac rn rc (hd.ha.mono fun b o h=>hgx b o (uh b o h)) (hd.hr.mono fun b o h=>hgx b o (uh b o h)) hd.la hd.lr l[k].cells[i].head _ _ _ F3 (by omega)) rfl ?_;clear H;rintro v56 G56 a w amS F5 H;obtain ⟨r1,r2,r3,r4,yu,r6,r7,r8,r9,rfl,anj⟩:=amS.ans;refine bJ 1 H ?_;clear H;intro a H;(iterate 2 refine lQ H wn rfl rfl rfl ?_;clear H;intro a H);refine dJ dB H wn rfl ?_;clear H;intro b12 a w FR H;refine aY dB 0 (vs:=[_,_,_,_,_]) _ H wn rfl rfl rfl rfl rfl rfl rfl rfl ?_;clear H;intro w H;dsimp only [List.set,setRow] at H;refine lW 5 H ?_ ?_ <;> clear H
   ·intro KR
    try have p59:=dT KR
    have LK:¬ lM (lsB A) (lsB R) l[k].cells[i].head:=by simpa using KR
    have Ad:qO (lsB A) (lsB R) l[k].cells[i]=[.mk l[k].cells[i].id (bG (lsB A) (lsB R) l[k].cells[i].head) (fC (lsB A) (lsB R) l[k].cells[i].flow)]:=by rw [Lj,ah LK,bG,ah LK]
    have Ag:Nt (fun (aJ:Nat→aj × OL) (bQ:Nat) (v:aj) (G:GH)=>match bQ with|0=>v=(aM b9 (0+5))|1=>v=.slice Az (gJ (lsB A) (lsB R) (l[k].cells.take i)).length AA|2=>v=(aM b11 0)|3=>v=vi l[k].cells[i].id|4=>v=.agg #[.slice r1 r2 r3,vi (bG (lsB A) (lsB R) l[k].cells[i].head).marks.ins,vi (bG (lsB A) (lsB R) l[k].cells[i].head).marks.move,.slice r4 yu r6,.slice r7 r8 r9]|5=>v=(aM b11 6)|6=>v=.slice wA M5 wc|7=>v=.agg #[.slice aA an ac,.slice rA rn rc]|8=>au G (.sl 11 ((fC (lsB A) (lsB R) l[k].cells[i].flow).map ay.dat)) v|9=>∃ A' n c,v=.agg #[vi l[k].cells[i].id,.slice r1 r2 r3,vi (bG (lsB A) (lsB R) l[k].cells[i].head).marks.ins,vi (bG (lsB A) (lsB R) l[k].cells[i].head).marks.move,.slice r4 yu r6,.slice r7 r8 r9,.slice A' n c]∧au G (.sl 11 ((fC (lsB A) (lsB R) l[k].cells[i].flow).map ay.dat)) (.slice A' n c)|10=>∃ b A' n c,v=.slice (some ⟨b,0,none⟩) 1 1∧aJ 10=(.slice (some ⟨b,0,none⟩) 1 1,[(b,.cells #[vi l[k].cells[i].id,.slice r1 r2 r3,vi (bG (lsB A) (lsB R) l[k].cells[i].head).marks.ins,vi (bG (lsB A) (lsB R) l[k].cells[i].head).marks.move,.slice r4 yu r6,.slice r7 r8 r9,.slice A' n c] 76 (0,0))])∧au G (.sl 11 ((fC (lsB A) (lsB R) l[k].cells[i].flow).map ay.dat)) (.slice A' n c)|_=>True):=by intro aJ bQ v G G' hm h;(iterate 14 (rcases bQ with _|bQ;(first|exact h|exact au.mono hm h|exact let ⟨A,n,c,h1,h2⟩:=h;⟨A,n,c,h1,h2.mono hm⟩|exact let ⟨b,A,n,c,h0,h1,h2⟩:=h;⟨b,A,n,c,h0,h1,h2.mono hm⟩)));exact trivial
    intro a H;refine NP [10] (hmx) [[],[0],[],[2],[],[],[5],[],[5,6,7],(ra 2 7),(ra 2 8),(ra 0 11),(ra 0 12),(ra 0 13)] [11,12,13] (by kernel_rfl) (by kernel_rfl) (by decide) (by kernel_rfl) (fun (aJ:Nat→aj × OL) (bQ:Nat) (v:aj) (G:GH)=>match bQ with|0=>v=(aM b9 (0+5))|1=>v=.slice Az (gJ (lsB A) (lsB R) (l[k].cells.take i)).length AA|2=>v=(aM b11 0)|3=>v=vi l[k].cells[i].id|4=>v=.agg #[.slice r1 r2 r3,vi (bG (lsB A) (lsB R) l[k].cells[i].head).marks.ins,vi (bG (lsB A) (lsB R) l[k].cells[i].head).marks.move,.slice r4 yu r6,.slice r7 r8 r9]|5=>v=(aM b11 6)|6=>v=.slice wA M5 wc|7=>v=.agg #[.slice aA an ac,.slice rA rn rc]|8=>au G (.sl 11 ((fC (lsB A) (lsB R) l[k].cells[i].flow).map ay.dat)) v|9=>∃ A' n c,v=.agg #[vi l[k].cells[i].id,.slice r1 r2 r3,vi (bG (lsB A) (lsB R) l[k].cells[i].head).marks.ins,vi (bG (lsB A) (lsB R) l[k].cells[i].head).marks.move,.slice r4 yu r6,.slice r7 r8 r9,.slice A' n c]∧au G (.sl 11 ((fC (lsB A) (lsB R) l[k].cells[i].flow).map ay.dat)) (.slice A' n c)|10=>∃ b A' n c,v=.slice (some ⟨b,0,none⟩) 1 1∧aJ 10=(.slice (some ⟨b,0,none⟩) 1 1,[(b,.cells #[vi l[k].cells[i].id,.slice r1 r2 r3,vi (bG (lsB A) (lsB R) l[k].cells[i].head).marks.ins,vi (bG (lsB A) (lsB R) l[k].cells[i].head).marks.move,.slice r4 yu r6,.slice r7 r8 r9,.slice A' n c] 76 (0,0))])∧au G (.sl 11 ((fC (lsB A) (lsB R) l[k].cells[i].flow).map ay.dat)) (.slice A' n c)|_=>True) (fun m hm x y i v G hi hc h=>by
     have hm:m=10:=by simpa using hm
     rcases hm with rfl
     ·(iterate 14 (rcases i with _|i;(first|exact h|exact absurd hi (by decide)|exact absurd hc (by decide))));exact trivial
     ) H ?_ ?_ ?_
    ·clear H;refine aD ?_ ?_ ?_ ?_ (aD ?_ ?_ ?_ ?_ (aD ?_ ?_ ?_ ?_ (bM ?_ (bM ?_ cO))))
     ·intro aJ dD aP a w G1 dH _ _ aK hc hG HT hv;have H:=HT;clear aK;have Hb:=H.full;have H:=Hb;clear hc;refine bJ 1 H ?_;clear H;intro a H;refine aC ⟨rfl,?_⟩;exact dw (by kernel_rfl) (Ag aJ) rfl rfl HT Hb hG hv (fun _ _ h=>h) (rfl) H
     ·intro aJ dD aP a w G1 dH _ _ aK hc hG HT hv;have H:=HT;clear aK;have H:=H.aN (hv 0 60 (hc 0 (by decide)) rfl) rfl;have Hb:=H.full;have H:=Hb;clear hc;refine kL DF H wn rfl (H.hp.xY (dH _ (fJ _ (fJ _ (fJ _ eX)))) rfl) rfl ?_;clear H;intro a H;refine aC ⟨rfl,?_⟩;exact dw (by kernel_rfl) (Ag aJ) rfl rfl HT Hb hG hv (fun _ _ h=>h) (rfl) H
     ·intro aJ dD aP a w G1 dH _ _ aK hc hG HT hv;have H:=HT;clear aK;have Hb:=H.full;have H:=Hb;clear hc;refine bJ 1 H ?_;clear H;intro a H;refine aC ⟨rfl,?_⟩;exact dw (by kernel_rfl) (Ag aJ) rfl rfl HT Hb hG hv (fun _ _ h=>h) (rfl) H
     ·intro aJ dD aP a w G1 dH _ _ aK hc hG HT hv;have H:=HT;clear aK;have H:=H.aN (hv 2 62 (hc 2 (by decide)) rfl) rfl;have Hb:=H.full;have H:=Hb;clear hc;refine kL aT H wn rfl (H.hp.xY (dH _ (fJ _ eX)) rfl) rfl ?_;clear H;intro a H;refine aC ⟨rfl,?_⟩;exact dw (by kernel_rfl) (Ag aJ) rfl rfl HT Hb hG hv (fun _ _ h=>h) (rfl) H
     ·intro aJ dD aP a w G1 dH _ _ aK hc hG HT hv;have H:=HT;clear aK;have Hb:=H.full;have H:=Hb;clear hc;refine aR dB (cs:=[.slice r1 r2 r3,vi (bG (lsB A) (lsB R) l[k].cells[i].head).marks.ins,vi (bG (lsB A) (lsB R) l[k].cells[i].head).marks.move,.slice r4 yu r6,.slice r7 r8 r9]) H wn rfl rfl (fun j v hj=>H.hp.xY (dH _ eX) (by simpa using hj)) rfl ?_;clear H;intro a H;refine aC ⟨rfl,?_⟩;exact dw (by kernel_rfl) (Ag aJ) rfl rfl HT Hb hG hv (fun _ _ h=>h) (rfl) H
     ·intro aJ dD aP a w G1 dH _ _ aK hc hG HT hv;have H:=HT;clear aK;have Hb:=H.full;have H:=Hb;clear hc;refine bJ 1 H ?_;clear H;intro a H;refine aC ⟨rfl,?_⟩;exact dw (by kernel_rfl) (Ag aJ) rfl rfl HT Hb hG hv (fun _ _ h=>h) (rfl) H
     ·intro aJ dD aP a w G1 dH _ _ aK hc hG HT hv;have H:=HT;clear aK;have H:=H.aN (hv 5 65 (hc 5 (by decide)) rfl) rfl;have Hb:=H.full;have H:=Hb;clear hc;refine kL lS H wn rfl (H.hp.xY (dH _ (fJ _ eX)) rfl) rfl ?_;clear H;intro a H;refine aC ⟨rfl,?_⟩;exact dw (by kernel_rfl) (Ag aJ) rfl rfl HT Hb hG hv (fun _ _ h=>h) (rfl) H
     ·intro aJ dD aP a w G1 dH _ _ aK hc hG HT hv;have H:=HT;clear aK;have Hb:=H.full;have H:=Hb;clear hc;refine aR EX (cs:=[.slice aA an ac,.slice rA rn rc]) H wn rfl rfl (fun j v hj=>H.hp.aH (aG hG (aG F5 (aG hgx (aG hgm (hga j v hj)))))) rfl ?_;clear H;intro a H;refine aC ⟨rfl,?_⟩;exact dw (by kernel_rfl) (Ag aJ) rfl rfl HT Hb hG hv (fun _ _ h=>h) (rfl) H
     ·intro aJ dD aP a w G1 dH _ _ aK hc hG HT hv;have H:=HT;clear aK;have H:=H.aN (hv 6 66 (hc 6 (by decide)) rfl) rfl;have H:=H.aN (hv 7 67 (hc 7 (by decide)) rfl) rfl;have Hb:=H.full;have H:=Hb;clear hc;refine s_call SV H wn rfl (ih _ _ H.ro (hd.mono fun b o h=>hG b o (F5 b o (hgx b o (uh b o h)))) l[k].cells[i].flow _ (FY.mono fun b o h=>hG b o (F5 b o h)) (by omega)) rfl ?_;clear H;rintro v68 G68 a w LW alO H;refine aC ⟨rfl,?_⟩;exact dw (by kernel_rfl) (Ag aJ) rfl rfl HT Hb hG hv alO (LW) H
     ·intro aJ dD aP a w G1 dH _ _ aK hc hG HT hv;have H:=HT;clear aK;have H:=H.aN (hv 3 63 (hc 3 (by decide)) rfl) rfl;have H:=H.aN (hv 4 64 (hc 4 (by decide)) rfl) rfl;obtain ⟨u68,aox,LW⟩:=hv 8 68 (hc 8 (by decide)) rfl;(try dsimp only at LW);obtain ⟨zB,n52,zI,rfl⟩:=LW.form;have H:=H.gI aox;have Hb:=H.full;have H:=Hb;clear hc;refine jl QA [_,_,_,_,_,_,_] H wn rfl rfl rfl rfl ?_;clear H;intro a H;refine aC ⟨rfl,?_⟩;exact dw (by kernel_rfl) (Ag aJ) rfl rfl HT Hb hG hv (fun _ _ h=>h) (⟨_,_,_,rfl,LW⟩) H
     ·intro _ _ _ _ _ _ _ _ hB;exact absurd hB (by decide)
     ·intro _ _ _ _ _ _ _ hB;exact absurd hB (by decide)
     ·intro _ _ _ _ _ _ _ hB;exact absurd hB (by decide)
     intro _ _ _ _ _ _ _ hB;exact absurd hB (by decide)
    ·clear H;refine aD ?_ ?_ ?_ ?_ (aD ?_ ?_ ?_ ?_ (aD ?_ ?_ ?_ ?_ (bM ?_ (bM ?_ cO))))
     ·intro hB;exact absurd hB (by decide)
     ·intro hB;exact absurd hB (by decide)
     ·intro hB;exact absurd hB (by decide)
     ·intro hB;exact absurd hB (by decide)
     ·intro hB;exact absurd hB (by decide)
     ·intro hB;exact absurd hB (by decide)
     ·intro hB;exact absurd hB (by decide)
     ·intro hB;exact absurd hB (by decide)
     ·intro hB;exact absurd hB (by decide)
     ·intro hB;exact absurd hB (by decide)
     ·intro _ aJ dD aP a w G1 dH _ hc hG HT hv;have H:=HT;obtain ⟨u69,aoy,Pj⟩:=hv (.bool false,[]) 9 69 (by decide) (hc 9 (by decide)) rfl;(try dsimp only at Pj);obtain ⟨uG,n53,c53,rfl,Pj⟩:=Pj;have H:=H.gI aoy;have Hb:=H.full;have H:=Hb;clear hc;refine gQ vB jL [_,_,_,_,_,_,_] [_,_,_,_,_,_,_] H wn rfl rfl rfl rfl rfl (by intro i q h;match i,h with|0,h=>exact h|n+1,h=>simp at h) rfl rfl ?_;clear H;intro D8 a w auZ H;refine aC ⟨rfl,(.slice (some ⟨D8,0,none⟩) 1 1,[(D8,.cells #[vi l[k].cells[i].id,.slice r1 r2 r3,vi (bG (lsB A) (lsB R) l[k].cells[i].head).marks.ins,vi (bG (lsB A) (lsB R) l[k].cells[i].head).marks.move,.slice r4 yu r6,.slice r7 r8 r9,.slice uG n53 c53] 76 (0,0))]),?_⟩;exact Cx (by kernel_rfl) (Ag (wH aJ 10 (.slice (some ⟨D8,0,none⟩) 1 1,[(D8,.cells #[vi l[k].cells[i].id,.slice r1 r2 r3,vi (bG (lsB A) (lsB R) l[k].cells[i].head).marks.ins,vi (bG (lsB A) (lsB R) l[k].cells[i].head).marks.move,.slice r4 yu r6,.slice r7 r8 r9,.slice uG n53 c53] 76 (0,0))]))) rfl HT Hb hG (fun j e h1 h2 h3=>hv (.slice (some ⟨D8,0,none⟩) 1 1,[(D8,.cells #[vi l[k].cells[i].id,.slice r1 r2 r3,vi (bG (lsB A) (lsB R) l[k].cells[i].head).marks.ins,vi (bG (lsB A) (lsB R) l[k].cells[i].head).marks.move,.slice r4 yu r6,.slice r7 r8 r9,.slice uG n53 c53] 76 (0,0))]) j e h1 h2 h3) (fun _ _ h=>h) (⟨D8,uG,n53,c53,rfl,rfl,Pj⟩) H
     ·intro hB;exact absurd hB (by decide)
     ·intro hB;exact absurd hB (by decide)
     intro hB;exact absurd hB (by decide)
    clear H;intro aJ a w G xP H hv
    simp only [pX,List.flatMap_cons,List.flatMap_nil,cond_true,fZ,jm] at H
    have H:=H.aN (hv 1 61 rfl rfl) rfl;obtain ⟨u70,aoz,abp⟩:=hv 10 70 (by decide) rfl;(try dsimp only at abp);obtain ⟨D8,zB,n52,zI,rfl,e70,C9⟩:=abp;have H:=H.gI aoz;clear hv;rw [e70] at H;dsimp only [lca,bK] at H;have abx:aV G (aZ.dat (.mk l[k].cells[i].id (bG (lsB A) (lsB R) l[k].cells[i].head) (fC (lsB A) (lsB R) l[k].cells[i].flow))) [vi l[k].cells[i].id,.slice r1 r2 r3,vi (bG (lsB A) (lsB R) l[k].cells[i].head).marks.ins,vi (bG (lsB A) (lsB R) l[k].cells[i].head).marks.move,.slice r4 yu r6,.slice r7 r8 r9,.slice zB n52 zI]:=aV.Ml (x:=.mk l[k].cells[i].id (bG (lsB A) (lsB R) l[k].cells[i].head) (fC (lsB A) (lsB R) l[k].cells[i].flow)) (anj.mono xP) C9;refine mI (Li:=[_,_,_,_,_]++Lo) (Lo:=Lc) (news:=[vi l[k].cells[i].id,.slice r1 r2 r3,vi (bG (lsB A) (lsB R) l[k].cells[i].head).marks.ins,vi (bG (lsB A) (lsB R) l[k].cells[i].head).marks.move,.slice r4 yu r6,.slice r7 r8 r9,.slice zB n52 zI]) vB jL rfl rfl (St.un (A:=[_,_,_,_,_]) H) wn rfl rfl hrw2 rfl (H.hp.bT 0 rfl rfl) abx.one (by omega) (by omega) rfl ?_;clear H;intro v71 afk a w abE H;obtain ⟨avR,avS,rfl,-,-⟩:=abE.shape;have H:=H.assoc;dsimp only [lca,bK] at H;refine kH H (Rf Ej rfl ?_);clear H;intro a H;refine aY DF 4 (vs:=[_]) _ H wn rfl rfl rfl rfl rfl rfl rfl rfl ?_;clear H;intro w H;dsimp only [List.set,setRow] at H;refine aC ⟨rfl,?_⟩;refine oH ?_;refine mE 4 H ?_;clear H;intro a H;refine aC ?_;refine dx ((i+1,_,xs2++[vi l[k].cells[i].id,.slice r1 r2 r3,vi (bG (lsB A) (lsB R) l[k].cells[i].head).marks.ins,vi (bG (lsB A) (lsB R) l[k].cells[i].head).marks.move,.slice r4 yu r6,.slice r7 r8 r9,.slice zB n52 zI],afk,_)) (by exact (H.dX (Pl:=[_,_,_,_,_]) (dN:=[_,_]) [3,4] (by decide) rfl).sub ⟨rfl,rfl,rfl,rfl,rfl,rfl,aL⟩) ?_
    (try dsimp only);exact ⟨by omega,by rw [EO hi2,Ad,iM];exact abE,by rw [EO hi2,Ad,kV];exact (ug.mono fun b o h=>xP b o (F5 b o h)).snoc abx rfl,fun b o h=>xP b o (F5 b o (jg b o h))⟩
   intro KR
   try have p59:=dF KR
   have Ad:qO (lsB A) (lsB R) l[k].cells[i]=[]:=by rw [Lj,ak (by simpa using KR)]
   refine av 5 ?_;intro a H;refine aC ?_;refine dx ((i+1,_,xs2,Lc,_)) (by exact (H.dX (Pl:=[_,_,_,_]) (dN:=[_,_]) [2,3] (by decide) rfl).sub ⟨rfl,rfl,rfl,rfl,rfl,rfl,aL⟩) ?_
   (try dsimp only);exact ⟨by omega,by rw [EO hi2,Ad,fZ];exact hrw2,by rw [EO hi2,Ad,fZ];exact ug.mono F5,fun b o h=>F5 b o (jg b o h)⟩
  intro p41
  obtain rfl:i=l[k].cells.length:=by omega
  subst hi1 aaK;intro a H;rw [vJ] at hrw2 ug hrl2 H;have H:=H.un (A:=[_,_]);obtain ⟨Gr,hmr,hrep,H⟩:=St.nO (Li:=[_,_]++Lo) H hrw2 (rows:=(gJ (lsB A) (lsB R) l[k].cells).map aZ.dat) (by simp) ug;have mG:∀ b o,g b=some o→Gr b=some o:=fun b o h=>hmr b o (hgx b o h);dsimp only [lca,bK] at H;refine iI 7 H ?_ ?_ <;> clear H
  ·intro Mt
   have hone:pK (lsB A) (lsB R) l[k]=[.mk (bG (lsB A) (lsB R) l[k].head) (gJ (lsB A) (lsB R) l[k].cells)]:=by rw [hce,ah (by omega),bG,ah uV]
   have aby:aV Gr (aU.dat (.mk (bG (lsB A) (lsB R) l[k].head) (gJ (lsB A) (lsB R) l[k].cells))) [.slice q1 q2 q3,vi (bG (lsB A) (lsB R) l[k].head).marks.ins,vi (bG (lsB A) (lsB R) l[k].head).marks.move,.slice q4 q5 q6,.slice q7 q8 q9,.slice Az (gJ (lsB A) (lsB R) l[k].cells).length AA]:=aV.Mq (x:=.mk (bG (lsB A) (lsB R) l[k].head) (gJ (lsB A) (lsB R) l[k].cells)) (UR.mono fun b o h=>hmr b o (jg b o h)) hrep;refine av 2 ?_;intro a H;refine aR jA (cs:=[_,_,_,_,_,_]) H wn rfl rfl (H.hp.bT 1 rfl rfl) rfl ?_;clear H;intro a H;refine gQ tq jA [_,_,_,_,_,_] [_,_,_,_,_,_] H wn rfl rfl rfl rfl rfl (by intro i q h;match i,h with|0,h=>exact h|n+1,h=>simp at h) rfl rfl ?_;clear H;intro b79 a w ava H;refine mI (Li:=[_,_,_]) (Lo:=Lo) (news:=[.slice q1 q2 q3,vi (bG (lsB A) (lsB R) l[k].head).marks.ins,vi (bG (lsB A) (lsB R) l[k].head).marks.move,.slice q4 q5 q6,.slice q7 q8 q9,.slice Az (gJ (lsB A) (lsB R) l[k].cells).length AA]) tq jA rfl rfl H wn rfl rfl hrw rfl (H.hp.bT 0 rfl rfl) aby.one (by omega) (by omega) rfl ?_;clear H;intro v80 afs a w anZ H;refine bJ 6 H ?_;clear H;intro a H;refine aC ?_;refine dx ((k+1,v80,xs++[.slice q1 q2 q3,vi (bG (lsB A) (lsB R) l[k].head).marks.ins,vi (bG (lsB A) (lsB R) l[k].head).marks.move,.slice q4 q5 q6,.slice q7 q8 q9,.slice Az (gJ (lsB A) (lsB R) l[k].cells).length AA],afs,_)) (by exact (H.dX (Pl:=[_,_,_]) (dN:=[]) [] (by decide) rfl).sub ⟨rfl,rfl,rfl,rfl,aL⟩) ?_
   (try dsimp only);exact ⟨by omega,by rw [zi hk2,hone,iM];exact anZ,by rw [zi hk2,hone,kV];exact (dQ.mono mG).snoc aby rfl,fun b o h=>mG b o (hgm b o h)⟩
  intro Mt
  have hone:pK (lsB A) (lsB R) l[k]=[]:=by rw [hce,ak (by omega)]
  refine av 5 ?_;intro a H;refine aC ?_;refine dx ((k+1,v,xs,Lo,_)) (by exact (H.dX (Pl:=[_,_]) (dN:=[]) [] (by decide) rfl).sub ⟨rfl,rfl,rfl,rfl,aL⟩) ?_
  (try dsimp only);exact ⟨by omega,by rw [zi hk2,hone,fZ];exact hrw,by rw [zi hk2,hone,fZ];exact dQ.mono mG,fun b o h=>mG b o (hgm b o h)⟩
 intro jZ
 obtain rfl:k=l.length:=by omega
 rw [vJ] at hrw dQ;refine av 5 ?_;intro a H;refine cK ?_;obtain ⟨G',hm,rZ,H⟩:=H.nO (Li:=[]) hrw (rows:=(iL (lsB A) (lsB R) l).map aU.dat) (by simp) dQ;refine lv H results117 rfl ?_;exact H.rt rZ
theorem apy {n:Nat} (ih:Nu A R (.slice aA an ac) (.slice rA rn rc) n) (hn:n≤536870912):Nu A R (.slice aA an ac) (.slice rA rn rc) (n+1):=by
 intro G w0 hG hd l v hv hz;obtain ⟨LA,Rt,rfl,hc1,hc2,hg⟩:=hv.slice
 have hml:4294967297≤maxLen:=by decide
 have hll:=Hu l;rw [bO] at *;refine eN [(0,_),(1,_)] func64 rfl ntmps64 rfl rfl hG ?_;refine av 1 ?_;intro a H;refine dW (cs:=[_,_]) H wn rfl rfl rfl ?_;clear H;intro b3 a w hb3 H;refine bJ 2 H ?_;clear H;intro a H;obtain ⟨Ga,hma,hb',H⟩:=H.eB;have hga:=fun j v hj=>nN hb' 0 [.slice aA an ac,.slice rA rn rc] rfl j v hj;refine mE 8 H ?_;clear H;intro a H;refine eH (ι:=Nat × aj × List aj × OL × GH) (Tc:=[(0,_),(3,_)]) (Lc:=[]) (fun gh=>[(5,gh.2.1),(6,vi gh.1)]) (fun gh=>[]++gh.2.2.2.1) (fun gh=>gh.2.2.2.2) (fun gh=>gh.1≤l.length∧bX 68 11 gh.2.1 (fC (lsB A) (lsB R) (l.take gh.1)).length gh.2.2.1 gh.2.2.2.1∧bV gh.2.2.2.2 11 ((fC (lsB A) (lsB R) (l.take gh.1)).map ay.dat) gh.2.2.1∧(∀ b o,Ga b=some o→gh.2.2.2.2 b=some o)) (fun gh=>l.length - gh.1) ((0,.slice none 0 0,[],[],Ga)) sB ?_ ?_
 ·exact ⟨by omega,bX.nil,bV.nil,fun _ _ h=>h⟩
 clear H;rintro ⟨k,v,xs,Lo,g⟩ a w hI H;dsimp only at hI H;obtain ⟨hk,hrw,dQ,hgm⟩:=hI;have hrl:=Ws (acc:=lsB A) (rej:=lsB R) (l.take k);rw [List.length_take] at hrl;have uh:∀ b o,G b=some o→g b=some o:=fun b o h=>hgm b o (hma b o h);dsimp only [lca,bK] at H;refine iI 7 H ?_ ?_ <;> clear H
 ·intro qp
  have hk2:k < l.length:=by omega
  obtain ⟨b_,o_,pA,pn,pc,dA,dn,dc,yA,yn,yc,fA,fn,fc,sA,sn,sc,rfl,hrow,hhd,hfl,hrs⟩:=FJ hk2 hg;replace hrow:=fun j u hj=>aG uh (hrow j u hj);replace hhd:=hhd.mono uh;replace hfl:=hfl.mono uh;replace hrs:=hrs.mono uh;have hzi:=JX hk2;have hce:=Wq (acc:=lsB A) (rej:=lsB R) l[k];refine av 7 ?_;intro a H;refine aR gB (cs:=[_,_,_,_,_,_,_,_,_,_,_]) H wn rfl rfl (fun j v hj=>H.hp.aH (hrow j v hj)) rfl ?_;clear H;intro a H;refine dJ gB H wn rfl ?_;clear H;intro b7 a w wT H;refine aY gB 0 (vs:=[_,_,_,_,_,_,_,_,_,_,_]) _ H wn rfl rfl rfl rfl rfl rfl rfl rfl ?_;clear H;intro w H;dsimp only [List.set,setRow] at H;refine bJ 3 H ?_;clear H;intro a H;refine aR dB (cs:=[_,_,_,_,_]) H wn rfl rfl (H.hp.bT 0 rfl rfl) rfl ?_;clear H;intro a H;refine aR EX (cs:=[.slice aA an ac,.slice rA rn rc]) H wn rfl rfl (fun j v hj=>H.hp.aH (aG hgm (hga j v hj))) rfl ?_;clear H;intro a H;refine s_call Og H wn rfl (PN _ _ H.ro A R aA rA an ac rn rc (hd.ha.mono uh) (hd.hr.mono uh) hd.la hd.lr l[k].head _ _ _ hhd (by omega)) rfl ?_;clear H;rintro v24 yH a w hd24 nX H;obtain ⟨q1,q2,q3,q4,q5,q6,q7,q8,q9,rfl,UQ⟩:=hd24.ans;refine bJ 1 H ?_;clear H;intro a H;(iterate 2 refine lQ H wn rfl rfl rfl ?_;clear H;intro a H);refine dJ dB H wn rfl ?_;clear H;intro b8 a w BA H;refine aY dB 0 (vs:=[_,_,_,_,_]) _ H wn rfl rfl rfl rfl rfl rfl rfl rfl ?_;clear H;intro w H;dsimp only [List.set,setRow] at H;refine lW 7 H ?_ ?_ <;> clear H
  ·intro nV
   try have p28:=dT nV
   have hone:oZ (lsB A) (lsB R) l[k]=[]:=by rw [hce,ak (by simpa using nV)]
   refine av 5 ?_;intro a H;refine aC ?_;refine dx ((k+1,v,xs,Lo,_)) (by exact (H.dX (Pl:=[_,_]) (dN:=[]) [] (by decide) rfl).sub ⟨rfl,rfl,rfl,rfl,aL⟩) ?_
   (try dsimp only);exact ⟨by omega,by rw [xw hk2,hone,fZ];exact hrw,by rw [xw hk2,hone,fZ];exact dQ.mono nX,fun b o h=>nX b o (hgm b o h)⟩
  intro nV
  try have p28:=dF nV
  have uV:¬ lM (lsB A) (lsB R) l[k].head:=by simpa using nV
  rw [ah uV] at hce;have han:bG (lsB A) (lsB R) l[k].head=kM (lsB A) (lsB R) l[k].head:=ah uV;refine av 2 ?_;intro a H;refine aR dB (cs:=[_,_,_,_,_]) H wn rfl rfl (H.hp.bT 0 rfl rfl) rfl ?_;clear H;refine av 1 ?_;intro a H;refine aY dB 1 (vs:=[_,_,_,_,_]) _ H wn rfl rfl rfl rfl rfl rfl rfl rfl ?_;clear H;intro w H;dsimp only [List.set,setRow] at H;refine qb 7 H ?_ ?_ <;> clear H
  ·intro p33
   refine av 3 ?_;intro a H;refine aR EX (cs:=[.slice aA an ac,.slice rA rn rc]) H wn rfl rfl (fun j v hj=>H.hp.aH (aG nX (aG hgm (hga j v hj)))) rfl ?_;clear H;intro a H;refine s_call SV H wn rfl (ih _ _ H.ro (hd.mono fun b o h=>nX b o (uh b o h)) l[k].flow _ (hfl.mono nX) (by omega)) rfl ?_;clear H;rintro v37 J5 a w abm CX H;obtain ⟨A37,n37,c37,rfl⟩:=abm.form;refine bJ 1 H ?_;clear H;intro a H;refine aY lS 1 (vs:=[_]) _ H wn rfl rfl rfl rfl rfl rfl rfl rfl ?_;clear H;intro w H;dsimp only [List.set,setRow] at H;refine aC ?_;refine oH ?_;refine rR (ι:=ay × List aj × GH) (Tc:=[(0,_),(3,_),(5,_),(6,_),(7,_)]) (Lc:=[(_,_)]) (fun gh=>[]) (fun gh=>[(b7,.cells gh.2.1.toArray 68 (0,0))]++Lo) (fun gh=>gh.2.2) (fun gh=>oZ (lsB A) (lsB R) l[k]=[gh.1]∧aV gh.2.2 gh.1.dat gh.2.1∧(∀ b o,yH b=some o→gh.2.2 b=some o)) sB ?_ ?_
   ·refine iI 5 H ?_ ?_ <;> clear H
    ·intro p41
     intro a H;omega
    intro p41
    intro a H;refine iw ?_;refine ⟨(.mk l[k].kind l[k].code l[k].id l[k].text (bG (lsB A) (lsB R) l[k].head) (fC (lsB A) (lsB R) l[k].flow) l[k].rows,[vi l[k].kind,vi l[k].code,vi l[k].id,.string l[k].text,.slice q1 q2 q3,vi (bG (lsB A) (lsB R) l[k].head).marks.ins,vi (bG (lsB A) (lsB R) l[k].head).marks.move,.slice q4 q5 q6,.slice q7 q8 q9,.slice A37 n37 c37,.slice sA sn sc],J5),sB,?_⟩;(try dsimp only);exact ⟨by rw [hce,ak (by omega),han],aV.mkItem (x:=.mk l[k].kind l[k].code l[k].id l[k].text (bG (lsB A) (lsB R) l[k].head) (fC (lsB A) (lsB R) l[k].flow) l[k].rows) (UQ.mono CX) abm (hrs.mono fun b o h=>CX b o (nX b o h)),CX⟩
   clear H;rintro ⟨y,Ec,g9⟩ a w hI H;dsimp only at hI H;obtain ⟨hone,xV,uU⟩:=hI;obtain ⟨e1,e2,e3,e4,e5,e6,e7,e8,e9,f1,f2,f3,f4,f5,f6,wV,-,-,-⟩:=xV.item;rw [wV] at H;dsimp only [lca,bK] at H;refine mE 2 H ?_;clear H;intro a H;refine aR gB (cs:=[_,_,_,_,_,_,_,_,_,_,_]) H wn rfl rfl (H.hp.bT 1 rfl rfl) rfl ?_;clear H;intro a H;refine gQ lT gB [_,_,_,_,_,_,_,_,_,_,_] [_,_,_,_,_,_,_,_,_,_,_] H wn rfl rfl rfl rfl rfl (by intro i q h;match i,h with|0,h=>exact h|n+1,h=>simp at h) rfl rfl ?_;clear H;intro b53 a w amx H;refine mI (Li:=[_,_,_]) (Lo:=Lo) (news:=Ec) lT gB rfl rfl H wn rfl rfl hrw (by rw [wV];rfl) (by rw [wV];exact H.hp.bT 0 rfl rfl) xV.one (by omega) (by omega) rfl ?_;clear H;intro v54 Rw a w U8 H;refine bJ 6 H ?_;clear H;intro a H;refine aC ?_;refine dx ((k+1,v54,xs++Ec,Rw,_)) (by exact (H.dX (Pl:=[_,_,_]) (dN:=[]) [] (by decide) rfl).sub ⟨rfl,rfl,rfl,rfl,aL⟩) ?_
   (try dsimp only);exact ⟨by omega,by rw [xw hk2,hone,iM];exact U8,by rw [xw hk2,hone,kV];exact (dQ.mono fun b o h=>uU b o (nX b o h)).snoc xV (by rw [wV];rfl),fun b o h=>uU b o (nX b o (hgm b o h))⟩
  intro p33
  refine av 1 ?_;intro a H;refine rR (ι:=ay × List aj × GH) (Tc:=[(0,_),(3,_),(5,_),(6,_),(7,_)]) (Lc:=[(_,_)]) (fun gh=>[]) (fun gh=>[(b7,.cells gh.2.1.toArray 68 (0,0))]++Lo) (fun gh=>gh.2.2) (fun gh=>oZ (lsB A) (lsB R) l[k]=[gh.1]∧aV gh.2.2 gh.1.dat gh.2.1∧(∀ b o,yH b=some o→gh.2.2 b=some o)) sB ?_ ?_
  ·refine iI 5 H ?_ ?_ <;> clear H
   ·intro p41
    refine av 3 ?_;intro a H;refine aR EX (cs:=[.slice aA an ac,.slice rA rn rc]) H wn rfl rfl (fun j v hj=>H.hp.aH (aG nX (aG hgm (hga j v hj)))) rfl ?_;clear H;intro a H;refine s_call ahT H wn rfl (apz ih (by omega) _ _ H.ro (hd.mono fun b o h=>nX b o (uh b o h)) l[k].rows _ (hrs.mono nX) (by omega)) rfl ?_;clear H;rintro v45 G45 a w U3 LC H;obtain ⟨A45,n45,c45,rfl⟩:=U3.form;have hn45:=U3.len;rw [bO] at hn45;subst hn45;refine bJ 1 H ?_;clear H;intro a H;refine aY DC 1 (vs:=[_]) _ H wn rfl rfl rfl rfl rfl rfl rfl rfl ?_;clear H;intro w H;dsimp only [List.set,setRow] at H;refine qb 7 H ?_ ?_ <;> clear H
    ·intro p50
     have hone:oZ (lsB A) (lsB R) l[k]=[]:=by rw [hce,ah (by omega),ak (by omega),ak (by omega)]
     refine av 5 ?_;intro a H;refine aC ?_;refine dx ((k+1,v,xs,Lo,_)) (by exact (H.dX (Pl:=[_,_]) (dN:=[]) [] (by decide) rfl).sub ⟨rfl,rfl,rfl,rfl,aL⟩) ?_
     (try dsimp only);exact ⟨by omega,by rw [xw hk2,hone,fZ];exact hrw,by rw [xw hk2,hone,fZ];exact dQ.mono fun b o h=>LC b o (nX b o h),fun b o h=>LC b o (nX b o (hgm b o h))⟩
    intro p50
    intro a H;refine iw ?_;refine ⟨(.mk l[k].kind l[k].code l[k].id l[k].text (bG (lsB A) (lsB R) l[k].head) l[k].flow (iL (lsB A) (lsB R) l[k].rows),[vi l[k].kind,vi l[k].code,vi l[k].id,.string l[k].text,.slice q1 q2 q3,vi (bG (lsB A) (lsB R) l[k].head).marks.ins,vi (bG (lsB A) (lsB R) l[k].head).marks.move,.slice q4 q5 q6,.slice q7 q8 q9,.slice fA fn fc,.slice A45 (iL (lsB A) (lsB R) l[k].rows).length c45],G45),sB,?_⟩;(try dsimp only);exact ⟨by rw [hce,ah (by omega),ak (by omega),ah (by omega),han],aV.mkItem (x:=.mk l[k].kind l[k].code l[k].id l[k].text (bG (lsB A) (lsB R) l[k].head) l[k].flow (iL (lsB A) (lsB R) l[k].rows)) (UQ.mono LC) (hfl.mono fun b o h=>LC b o (nX b o h)) U3,LC⟩
   intro p41
   intro a H;refine iw ?_;refine ⟨(.mk l[k].kind l[k].code l[k].id l[k].text (bG (lsB A) (lsB R) l[k].head) l[k].flow l[k].rows,[vi l[k].kind,vi l[k].code,vi l[k].id,.string l[k].text,.slice q1 q2 q3,vi (bG (lsB A) (lsB R) l[k].head).marks.ins,vi (bG (lsB A) (lsB R) l[k].head).marks.move,.slice q4 q5 q6,.slice q7 q8 q9,.slice fA fn fc,.slice sA sn sc],_),sB,?_⟩;(try dsimp only);exact ⟨by rw [hce,ah (by omega),ah (by omega),han],aV.mkItem (x:=.mk l[k].kind l[k].code l[k].id l[k].text (bG (lsB A) (lsB R) l[k].head) l[k].flow l[k].rows) UQ (hfl.mono nX) (hrs.mono nX),fun _ _ h=>h⟩
  clear H;rintro ⟨y,Ec,g9⟩ a w hI H;dsimp only at hI H;obtain ⟨hone,xV,uU⟩:=hI;obtain ⟨e1,e2,e3,e4,e5,e6,e7,e8,e9,f1,f2,f3,f4,f5,f6,wV,-,-,-⟩:=xV.item;rw [wV] at H;dsimp only [lca,bK] at H;refine mE 2 H ?_;clear H;intro a H;refine aR gB (cs:=[_,_,_,_,_,_,_,_,_,_,_]) H wn rfl rfl (H.hp.bT 1 rfl rfl) rfl ?_;clear H;intro a H;refine gQ lT gB [_,_,_,_,_,_,_,_,_,_,_] [_,_,_,_,_,_,_,_,_,_,_] H wn rfl rfl rfl rfl rfl (by intro i q h;match i,h with|0,h=>exact h|n+1,h=>simp at h) rfl rfl ?_;clear H;intro b53 a w amx H;refine mI (Li:=[_,_,_]) (Lo:=Lo) (news:=Ec) lT gB rfl rfl H wn rfl rfl hrw (by rw [wV];rfl) (by rw [wV];exact H.hp.bT 0 rfl rfl) xV.one (by omega) (by omega) rfl ?_;clear H;intro v54 Rw a w U8 H;refine bJ 6 H ?_;clear H;intro a H;refine aC ?_;refine dx ((k+1,v54,xs++Ec,Rw,_)) (by exact (H.dX (Pl:=[_,_,_]) (dN:=[]) [] (by decide) rfl).sub ⟨rfl,rfl,rfl,rfl,aL⟩) ?_
  (try dsimp only);exact ⟨by omega,by rw [xw hk2,hone,iM];exact U8,by rw [xw hk2,hone,kV];exact (dQ.mono fun b o h=>uU b o (nX b o h)).snoc xV (by rw [wV];rfl),fun b o h=>uU b o (nX b o (hgm b o h))⟩
 intro qp
 obtain rfl:k=l.length:=by omega
 rw [vJ] at hrw dQ;refine av 5 ?_;intro a H;refine cK ?_;obtain ⟨G',hm,rZ,H⟩:=H.nO (Li:=[]) hrw (rows:=(fC (lsB A) (lsB R) l).map ay.dat) (by simp) dQ;refine lv H results64 rfl ?_;exact H.rt rZ
theorem acy:∀ n:Nat,n≤536870913→Nu A R (.slice aA an ac) (.slice rA rn rc) n
 | 0,_=>fun _ _ _ _ _ _ _ h=>absurd h (by omega)
 | n+1,hn=>apy (acy n (by omega)) (by omega)
theorem acw (G:GH) (w0:World) (hG:Hold G w0) (D:iE) (d:fT) (hR:jN G D d) (hs:zC 536870912 d) (va vr:aj) (hd:Fb G A R va vr) :
  Calls prog 18 #[D.val,.agg #[va,vr]] w0 (bB w0 G fun u G'=>∃ D':iE,u=D'.val∧jN G' D' (iQ (lsB A) (lsB R) d)):=by
 obtain ⟨aA,an,ac,rfl⟩:=hd.ha.form;obtain ⟨rA,rn,rc,rfl⟩:=hd.hr.form;obtain ⟨df,dp,dd,dy,dr,d1,d2,d3,d4,ins,mv⟩:=D;have hfl:=hs.fl;have hhd:=hs.hd;obtain ⟨Ut,Uu,KY,KZ,hRr,hRs⟩:=hR;dsimp only at KY KZ;subst KY KZ;refine eN [(0,_),(1,_)] func18 rfl ntmps18 rfl rfl hG ?_;refine av 1 ?_;intro a H;refine dW (cs:=[_,_,_,_,_,_,_,_,_,_,_]) H wn rfl rfl rfl ?_;clear H;intro b2 a w hb2 H;refine dW (cs:=[_,_]) H wn rfl rfl rfl ?_;clear H;intro b3 a w hb3 H;refine dJ gV H wn rfl ?_;clear H;intro b4 a w hb4 H;refine bJ 4 H ?_;clear H;intro a H;refine aR EX (cs:=[_,_]) H wn rfl rfl (H.hp.bT 1 rfl rfl) rfl ?_;clear H;intro a H;refine s_call SV H wn rfl (acy 536870913 (bR _) _ _ H.ro hd d.flow _ Ut (by omega)) rfl ?_;clear H;rintro v8 G8 a w Mc qj H;obtain ⟨fA,fn,fc,rfl⟩:=Mc.form;refine bJ 1 H ?_;clear H;intro a H;refine aY lS 2 (vs:=[_]) _ H wn rfl rfl rfl rfl rfl rfl rfl rfl ?_;clear H;intro w H;dsimp only [List.set,setRow] at H;refine bJ 3 H ?_;clear H;intro a H;refine aR dB (cs:=[_,_,_,_,_]) H wn rfl rfl (H.hp.bT 2 rfl rfl) rfl ?_;clear H;intro a H;refine aR EX (cs:=[_,_]) H wn rfl rfl (H.hp.bT 1 rfl rfl) rfl ?_;clear H;intro a H;refine s_call Og H wn rfl (PN _ _ H.ro A R aA rA an ac rn rc (hd.ha.mono qj) (hd.hr.mono qj) hd.la hd.lr d.fin _ _ _ (Uu.mono qj) (by omega)) rfl ?_;clear H;rintro v14 AJ a w UH xS H;obtain ⟨q1,q2,q3,q4,q5,q6,q7,q8,q9,rfl,UN⟩:=UH.ans;refine bJ 1 H ?_;clear H;intro a H;(iterate 2 refine lQ H wn rfl rfl rfl ?_;clear H;intro a H);refine bJ 1 H ?_;clear H;intro a H;refine aY dB 2 (vs:=[_,_,_,_,_]) _ H wn rfl rfl rfl rfl rfl rfl rfl rfl ?_;clear H;intro w H;dsimp only [List.set,setRow] at H;refine bJ 2 H ?_;clear H;intro a H;refine aR gV (cs:=[_,_,_,_,_,_,_,_,_,_,_]) H wn rfl rfl (H.hp.bT 2 rfl rfl) rfl ?_;clear H;intro a H;refine aY gV 0 (vs:=[_,_,_,_,_,_,_,_,_,_,_]) _ H wn rfl rfl rfl rfl rfl rfl rfl rfl ?_;clear H;intro w H;dsimp only [List.set,setRow] at H;refine aC ?_;refine oH ?_;refine cK ?_;refine (leave1 H results18 (.cons (nH gV (cs:=[_,_,_,_,_,_,_,_,_,_,_]) H rfl rfl (H.hp.bT 0 rfl rfl)) .nil) ?_).1;exact H.rt ⟨⟨(fA,fn,fc),(q1,q2,q3),(q4,q5,q6),(q7,q8,q9),dr,d1,d2,d3,d4,(bG (lsB A) (lsB R) d.fin).marks.ins,(bG (lsB A) (lsB R) d.fin).marks.move⟩,rfl,⟨Mc.mono xS,UN,rfl,rfl,hRr.mono (fun b o h=>xS b o (qj b o h)),hRs.mono fun b o h=>xS b o (qj b o h)⟩⟩
end





def abT (k:Int):List Dat:=[li k]
theorem aoO (G:GH) (k:Int):aV G (abT k) [vi k]:=by
 simp only [abT,aV]
 exact ⟨_,_,rfl,by simp [au,Value.oneCell'],rfl⟩
theorem auj (l m:List ay):cu (l++m)=cu l+cu m:=by simp [cu,JK]

def alm (t:Int) (a:Nat × ay):Bool:=decide ((a.1:Int)+jC a.2≤t)
def lA (t:Int) (A:List (Nat × ay)):List ay:=(A.filter (alm t)).map (·.2)
def XU (l:List ay):Prop:=∀ (k:Nat) (h:k+1 < l.length),¬ (l[k].kind=1∧l[k+1].kind=1∧l[k].head=l[k+1].head)
theorem XU.one {l:List ay} (h:l.length≤1):XU l:=fun k hk=>by omega


theorem Xk:∀ {m l:List ay},m.Sublist l→cu m≤cu l
 | _,_,.slnil=>bR _
 | _,_,.cons a h=>by have:=Xk h;simp only [cu,fG,eG] at *;omega
 | _,_,.cons_cons a h=>by have:=Xk h;simp only [cu,fG,eG] at *;omega
theorem S9:∀ args w,(callFunc 95 args).run prog w=.ok (.enter 95 args) w:=enters func95 rfl (by kernel_rfl)
theorem SH:∀ args w,(callFunc 21 args).run prog w=.ok (.enter 21 args) w:=enters func21 rfl (by kernel_rfl)
abbrev Cr (b:Nat) (n:Int):Nat × Obj:=(b,.cells #[vi n] 3 (0,0))
def SmQ (bl:Nat) (left:Int) (z:Nat) (u:aj) (_:GH) (L':OL):Prop:=∃ b lf,u=.bool b∧L'=[Cr bl lf]∧left - (z:Int)≤lf∧lf≤left
def RA (n:Nat):Prop:=∀ (G:GH) (w0:World) (l:List ay) (v:aj) (Jv left:Int) (bl:Nat),gG G [Cr bl left] w0→au G (.sl 11 (l.map ay.dat)) v→cu l < n→0≤Jv→Jv≤1000→left≤1000→-1000000000000≤left - (cu l:Int) →
 Calls prog 95 #[v,vi Jv,(aM bl 0)] w0 (fP w0 G [Cr bl left] (SmQ bl left (cu l)))
theorem aeZ (l m:List aU):gX (l++m)=gX l+gX m:=by simp [gX,JK]
theorem aeV (l m:List aZ):iR (l++m)=iR l+iR m:=by simp [iR,JK]
theorem auk {l:List ay} {k:Nat} (h:k < l.length):cu (l.take (k+1))=cu (l.take k)+(1+bZ l[k].dat):=by rw [fV h,auj];simp [cu,eG]
theorem aul {l:List aU} {k:Nat} (h:k < l.length):gX (l.take (k+1))=gX (l.take k)+(1+bZ l[k].dat):=by rw [fV h,aeZ];simp [gX,eG]
theorem aui {l:List aZ} {k:Nat} (h:k < l.length):iR (l.take (k+1))=iR (l.take k)+(1+bZ l[k].dat):=by rw [fV h,aeV];simp [iR,eG]
theorem aeY (l:List ay) (k:Nat):cu (l.take k)≤cu l:=Xk (List.take_sublist k l)
theorem afb (l:List aU) (k:Nat):gX (l.take k)≤gX l:=by
 have:=aeZ (l.take k) (l.drop k);rw [List.take_append_drop] at this;omega
theorem aeX (l:List aZ) (k:Nat):iR (l.take k)≤iR l:=by
 have:=aeV (l.take k) (l.drop k);rw [List.take_append_drop] at this;omega
theorem atb {n:Nat} (ih:RA n) (hn:n≤4294967296):RA (n+1):=by
 intro G w0 l v Jv left bl hO hv hz hl0 hl1 hf1 hf0;obtain ⟨A,c,rfl,hc1,hc2,hg⟩:=hv.slice;rw [bO] at *;have hll:=Hu l;refine jr (N:=133) (T:=[(0,_),(1,_),(2,_)]) func95 rfl ntmps95 rfl rfl hO ?_;refine av 8 ?_;intro a H;refine eH (ι:=Nat × Int × GH) (Tc:=[(0,_),(1,_),(2,_)]) (Lc:=[]) (fun gh=>[(7,vi gh.1)]) (fun gh=>[Cr bl gh.2.1]) (fun gh=>gh.2.2) (fun gh=>gh.1≤l.length∧left - (cu (l.take gh.1):Int)≤gh.2.1∧gh.2.1≤left∧(∀ b o,G b=some o→gh.2.2 b=some o)) (fun gh=>l.length - gh.1) ((0,left,G)) sB ?_ ?_
 ·exact ⟨by omega,by show left - ((0:Nat):Int)≤left;omega,Int.le_refl _,fun _ _ h=>h⟩
 clear H;rintro ⟨k,lf,g⟩ a w hI H;dsimp only at hI H;obtain ⟨hk,hlo,hhi,hgm⟩:=hI;have hzk:=aeY l k;dsimp only [lca,bK] at H;refine iI 7 H ?_ ?_ <;> clear H
 ·intro qp
  have hk2:k < l.length:=by omega
  obtain ⟨b,o,pA,pn,pc,dA,dn,dc,yA,yn,yc,fA,fn,fc,rA,rn,rc,rfl,hrow,hhd,hfl,hrw⟩:=FJ hk2 hg;have hrn:=hrw.len;rw [bO] at hrn;subst hrn;have r3:aH g b (o+k*11+3)=some (.string l[k].text):=aG hgm (hrow 3 _ rfl);have r4:aH g b (o+k*11+4+0)=some (.slice pA pn pc):=aG hgm (hrow 4 _ rfl);have r9:aH g b (o+k*11+9)=some (.slice fA fn fc):=aG hgm (hrow 9 _ rfl);have Wm:aH g b (o+k*11+10)=some (.slice rA l[k].rows.length rc):=aG hgm (hrow 10 _ rfl);have hzi:=zy l[k];have hzs:=auk hk2;have hzt:=aeY l (k+1);refine av 9 ?_;intro a H;refine aY aT 0 (vs:=[_]) _ H wn rfl rfl rfl rfl rfl rfl rfl rfl ?_;clear H;intro w H;dsimp only [List.set,setRow] at H;refine sS 8 25 H ?_ ?_ <;> clear H
  ·intro p25
   refine av 48 ?_;intro a H;refine lr H results95 rfl ?_;exact H.hp.dM ⟨_,_,rfl,rfl,by omega,by omega⟩
  intro p25
  refine mX 4 29 ?_ ?_
  ·intro qg
   try have p29:=dT qg
   refine av 44 ?_;intro a H;refine lr H results95 rfl ?_;exact H.hp.dM ⟨_,_,rfl,rfl,by omega,by omega⟩
  intro qg
  try have p29:=dF qg
  refine av 5 ?_;intro a H;refine ES jB H (wg H rfl rfl qg) rfl rfl ?_;clear H;refine qJ 3 38 ?_ ?_
  ·intro p38
   refine av 35 ?_;intro a H;refine lr H results95 rfl ?_;exact H.hp.dM ⟨_,_,rfl,rfl,by omega,by omega⟩
  intro p38
  refine qJ 10 48 ?_ ?_
  ·intro p48
   refine av 25 ?_;intro a H;refine lr H results95 rfl ?_;exact H.hp.dM ⟨_,_,rfl,rfl,by omega,by omega⟩
  intro p48
  refine mX 9 57 ?_ ?_
  ·intro h57
   try have p57:=dT h57
   refine av 16 ?_;intro a H;refine lr H results95 rfl ?_;exact H.hp.dM ⟨_,_,rfl,rfl,by omega,by omega⟩
  intro h57
  try have p57:=dF h57
  refine av 6 ?_;intro a H;refine og _ H (wg H rfl rfl h57) rfl rfl rfl (by omega) (by omega) rfl ?_;clear H;refine av 1 ?_;intro a H;refine gK S9 (Li:=[]) (L:=[Cr bl _]) H (wg H rfl rfl h57) rfl (ih _ _ l[k].flow _ (Jv - 1) _ bl (Hp.owns (Li:=[]) H.hp) (hfl.mono hgm) (by omega) (by omega) (by omega) (by omega) (by omega)) rfl ?_;clear H;rintro v66 G66 L66 a w ⟨b66,lf66,rfl,rfl,avm,avk⟩ aaU H;dsimp only [List.nil_append] at H;replace Wm:=aG aaU Wm;have ang:=fun b o h=>aaU b o (hgm b o h);refine qb 3 H ?_ ?_ <;> clear H
  ·intro p68
   refine av 3 ?_;intro a H;refine lr H results95 rfl ?_;exact H.hp.dM ⟨_,_,rfl,rfl,by omega,by omega⟩
  intro p68
  refine av 5 ?_;intro a H;refine eH (ι:=Nat × Int × GH) (Tc:=[(0,_),(1,_),(2,_),(7,_)]) (Lc:=[]) (fun gh=>[(8,vi gh.1)]) (fun gh=>[Cr bl gh.2.1]) (fun gh=>gh.2.2) (fun gh=>gh.1≤l[k].rows.length∧lf66 - (gX (l[k].rows.take gh.1):Int)≤gh.2.1∧gh.2.1≤lf66∧(∀ b o,G b=some o→gh.2.2 b=some o)∧aH gh.2.2 b (o+k*11+10)=some (.slice rA l[k].rows.length rc)) (fun gh=>l[k].rows.length - gh.1) ((0,lf66,G66)) sB ?_ ?_
  ·exact ⟨by omega,by show lf66 - ((0:Nat):Int)≤lf66;omega,Int.le_refl _,ang,Wm⟩
  clear H;rintro ⟨j,lf2,g2⟩ a w hI H;dsimp only at hI H;obtain ⟨hj,hlo2,hhi2,jg,q10⟩:=hI;have avA:=afb l[k].rows j;dsimp only [lca,bK] at H;refine iI 11 H ?_ ?_ <;> clear H
  ·intro Mt
   have hj2:j < l[k].rows.length:=by omega
   obtain ⟨b2,o2,uA,un,uc,eA,en,ec,zA,zn,zc,cA,cn,cc,rfl,hrow2,Df,hcl⟩:=Mx hj2 (hrw.mono jg).at_;have hcn:=hcl.len;rw [bO] at hcn;subst hcn;have t5:aH g2 b2 (o2+j*6+5)=some (.slice cA l[k].rows[j].cells.length cc):=hrow2 5 _ rfl;have avy:=DK l[k].rows[j];have avC:=aul hj2;have avE:=afb l[k].rows (j+1);refine goB 17 ?_ ?_
   ·intro p89
    refine av 3 ?_;intro a H;refine lr H results95 rfl ?_;exact H.hp.dM ⟨_,_,rfl,rfl,by omega,by omega⟩
   intro p89
   refine av 5 ?_;intro a H;refine eH (ι:=Nat × Int × GH) (Tc:=[(0,_),(1,_),(2,_),(7,_),(8,_)]) (Lc:=[]) (fun gh=>[(9,vi gh.1)]) (fun gh=>[Cr bl gh.2.1]) (fun gh=>gh.2.2) (fun gh=>gh.1≤l[k].rows[j].cells.length∧lf2 - (iR (l[k].rows[j].cells.take gh.1):Int)≤gh.2.1∧gh.2.1≤lf2∧(∀ b o,G b=some o→gh.2.2 b=some o)∧aH gh.2.2 b (o+k*11+10)=some (.slice (some ⟨b2,o2,none⟩) l[k].rows.length rc)∧aH gh.2.2 b2 (o2+j*6+5)=some (.slice cA l[k].rows[j].cells.length cc)∧(∀ b o,g2 b=some o→gh.2.2 b=some o)) (fun gh=>l[k].rows[j].cells.length - gh.1) ((0,lf2,g2)) sB ?_ ?_
   ·exact ⟨by omega,by show lf2 - ((0:Nat):Int)≤lf2;omega,Int.le_refl _,jg,q10,t5,fun _ _ h=>h⟩
   clear H;rintro ⟨m,lf3,g3⟩ a w hI H;dsimp only at hI H;obtain ⟨hm,hlo3,hhi3,wW,s10,s5,aaJ⟩:=hI;have avB:=aeX l[k].rows[j].cells m;dsimp only [lca,bK] at H;refine iI 15 H ?_ ?_ <;> clear H
   ·intro aqg
    have hm2:m < l[k].rows[j].cells.length:=by omega
    obtain ⟨b3,o3,x1,x2,x3,x4,x5,x6,x7,x8,x9,gA,gn,gc,rfl,hrow3,hch,hcf⟩:=Kt hm2 (hcl.mono aaJ).at_;have u6:aH g3 b3 (o3+m*7+6)=some (.slice gA gn gc):=hrow3 6 _ rfl;have avz:=DJ l[k].rows[j].cells[m];have avD:=aui hm2;have avF:=aeX l[k].rows[j].cells (m+1);refine av 9 ?_;intro a H;refine aY aT 0 (vs:=[_]) _ H wn rfl rfl rfl rfl rfl rfl rfl rfl ?_;clear H;intro w H;dsimp only [List.set,setRow] at H;refine qd 7 113 H ?_ ?_ <;> clear H
    ·intro KQ
     try have aqj:=dT KQ
     refine av 24 ?_;intro a H;refine lr H results95 rfl ?_;exact H.hp.dM ⟨_,_,rfl,rfl,by omega,by omega⟩
    intro KQ
    try have aqj:=dF KQ
    refine av 14 ?_;intro a H;refine og _ H (wg H rfl rfl KQ) rfl rfl rfl (by omega) (by omega) rfl ?_;clear H;refine av 1 ?_;intro a H;refine gK S9 (Li:=[]) (L:=[Cr bl _]) H (wg H rfl rfl KQ) rfl (ih _ _ l[k].rows[j].cells[m].flow _ (Jv - 1) _ bl (Hp.owns (Li:=[]) H.hp) hcf (by omega) (by omega) (by omega) (by omega) (by omega)) rfl ?_;clear H;rintro v130 afh auA a w ⟨auF,apf,rfl,rfl,avl,avj⟩ O1 H;dsimp only [List.nil_append] at H;refine qb 3 H ?_ ?_ <;> clear H
    ·intro acY
     refine av 3 ?_;intro a H;refine lr H results95 rfl ?_;exact H.hp.dM ⟨_,_,rfl,rfl,by omega,by omega⟩
    intro acY
    refine av 5 ?_;intro a H;refine aC ?_;refine dx ((m+1,apf,afh)) sB ?_
    (try dsimp only);exact ⟨by omega,by omega,by omega,fun b o h=>O1 b o (wW b o h),aG O1 s10,aG O1 s5,fun b o h=>O1 b o (aaJ b o h)⟩
   intro aqg
   refine av 5 ?_;intro a H;refine aC ?_;refine dx ((j+1,lf3,g3)) sB ?_
   (try dsimp only);exact ⟨by omega,by omega,by omega,wW,s10⟩
  intro Mt
  refine av 5 ?_;intro a H;refine aC ?_;refine dx ((k+1,lf2,g2)) sB ?_
  (try dsimp only);exact ⟨by omega,by omega,by omega,jg⟩
 intro qp
 refine av 4 ?_;intro a H;refine lr H results95 rfl ?_;exact H.hp.dM ⟨_,_,rfl,rfl,by omega,by omega⟩
theorem adW:∀ n:Nat,n≤4294967296→RA n
 | 0,_=>fun _ _ _ _ _ _ _ _ _ hz=>absurd hz (Nat.not_lt_zero _)
 | n+1,h=>atb (adW n (by omega)) (by omega)
theorem asZ (G:GH) (w0:World) (hG:Hold G w0) (D:iE) (d:fT) (hR:jN G D d) (hz:yF d) :
  Calls prog 45 #[D.val] w0 (bB w0 G fun u G'=>∃ b,u=.bool b∧(b=true→iy d=0)):=by
 have Mg:=hz.fl;refine eN [(0,_)] func45 rfl ntmps45 rfl rfl hG ?_;refine av 1 ?_;intro a H;refine dW (cs:=[_,_,_,_,_,_,_,_,_,_,_]) H wn rfl rfl rfl ?_;clear H;intro b1 a w hb1 H;refine bJ 2 H ?_;clear H;intro a H;obtain ⟨Ga,hma,hb1',H⟩:=H.eB;have hga:=fun j v hj=>nN hb1' 0 D.cells rfl j v hj;have hgs:=fun j v hj=>nN hb1' 7 [aQ D.s1,aQ D.s2,aQ D.s3,aQ D.s4] rfl j v hj
 have hgr:aH Ga b1 6=some (aQ D.r):=by unfold aH;rw [hb1'];rfl
 have hgf:aH Ga b1 0=some (aQ D.f):=by unfold aH;rw [hb1'];rfl
 replace hR:=hR.mono hma;refine TH ?_;refine dJ aT H wn rfl ?_;clear H;intro b3 a w hb3 H;refine aY aT 0 (vs:=[_]) _ H wn rfl rfl rfl rfl rfl rfl rfl rfl ?_;clear H;intro w H;dsimp only [List.set,setRow] at H;refine bJ 3 H ?_;clear H;intro a H;refine aR uz (cs:=[aQ D.s1,aQ D.s2,aQ D.s3,aQ D.s4]) H wn rfl rfl (fun j v hj=>H.hp.aH (hgs j v hj)) rfl ?_;clear H;intro a H;refine dJ uz H wn rfl ?_;clear H;intro b4 a w hb4 H;refine aY uz 0 (vs:=[_,_,_,_]) _ H wn rfl rfl rfl rfl rfl rfl rfl rfl ?_;clear H;intro w H;dsimp only [List.set,setRow] at H;refine sS 7 11 H ?_ ?_ <;> clear H
 ·intro rH
  refine qJ 6 17 ?_ ?_
  ·intro jZ
   refine qJ 6 23 ?_ ?_
   ·intro BP
    refine qJ 6 29 ?_ ?_
    ·intro p29
     refine mX 6 35 ?_ ?_
     ·intro lY
      try have p35:=dT lY
      refine av 2 ?_;intro a H;refine gK S9 (Li:=[_]) (L:=[Cr b3 150]) H (wg H rfl rfl lY) rfl (adW 4294967296 (bR _) _ _ d.flow _ 12 150 b3 (Hp.owns (Li:=[_]) H.hp) hR.fl (by omega) (by decide) (by decide) (by decide) (by omega)) rfl ?_;clear H;rintro v38 Nk L38 a w ⟨b38,lf38,rfl,rfl,-,-⟩ Jd H;refine qd 2 40 H ?_ ?_ <;> clear H
      ·intro uQ
       try have p40:=dT uQ
       intro a H;refine aR gV (cs:=D.cells) H (wg H rfl rfl uQ) rfl rfl (fun j v hj=>H.hp.aH (aG Jd (hga j v hj))) rfl ?_;clear H;intro a H;refine s_call SH H (wg H rfl rfl uQ) rfl (RX _ _ H.ro D d (hR.mono Jd) hz) rfl ?_;clear H;rintro v42 Nl a w rfl avo H;refine kJ 4 H ?_;exact ⟨_,rfl,fun h=>by first|assumption|(simp_all;done)⟩
      intro uQ
      try have p40:=dF uQ
      refine bP 6 ?_;exact ⟨_,rfl,fun h=>by first|assumption|(simp_all;done)⟩
     intro lY
     try have p35:=dF lY
     refine bP 11 ?_;exact ⟨_,rfl,fun h=>by first|assumption|(simp_all;done)⟩
    intro p29
    refine bP 17 ?_;exact ⟨_,rfl,fun h=>by first|assumption|(simp_all;done)⟩
   intro BP
   refine bP 23 ?_;exact ⟨_,rfl,fun h=>by first|assumption|(simp_all;done)⟩
  intro jZ
  refine bP 29 ?_;exact ⟨_,rfl,fun h=>by first|assumption|(simp_all;done)⟩
 intro rH
 refine bP 35 ?_;exact ⟨_,rfl,fun h=>by first|assumption|(simp_all;done)⟩
theorem WM:qE prog 68 [(0,1),(1,1),(2,1),(3,1),(4,5),(9,1),(10,1)] [.int .i64 0,.int .i64 0,.int .i64 0,.string ⟨#[]⟩,.slice none 0 0,.int .i64 0,.int .i64 0,.slice none 0 0,.slice none 0 0,.slice none 0 0,.slice none 0 0]:=⟨by kernel_rfl,by kernel_rfl⟩
theorem atj:qE prog 159 [(0,1),(1,1)] [.int .i64 0,.int .i64 0]:=⟨by kernel_rfl,by kernel_rfl⟩
theorem ath:qE prog 102 [(0,1),(1,1),(2,1)] [.int .i64 0,.string ⟨#[]⟩,.int .i64 0]:=⟨by kernel_rfl,by kernel_rfl⟩
theorem Zy:∀ args w,(callFunc 44 args).run prog w=.ok (.enter 44 args) w:=enters func44 rfl (by kernel_rfl)
theorem Zf:∀ args w,(callFunc 14 args).run prog w=.ok (.enter 14 args) w:=enters func14 rfl (by kernel_rfl)
theorem Zh:∀ args w,(callFunc 15 args).run prog w=.ok (.enter 15 args) w:=enters func15 rfl (by kernel_rfl)
theorem ajJ:∀ args w,(callFunc 45 args).run prog w=.ok (.enter 45 args) w:=enters func45 rfl (by kernel_rfl)
def zx (k:Int) (t:ByteArray) (i:Int) (ds:List fO):ay:=.mk k 0 0 t ⟨[],⟨i,0,ds,[]⟩⟩ [] []
def vN:fT:=⟨[zx 1 ⟨#[97,98]⟩ 0 [],zx 1 ⟨#[99,100]⟩ 3 [],zx 1 ⟨#[101]⟩ 0 [⟨5,0⟩],zx 2 ⟨#[]⟩ 0 []],Ci,[⟨3,⟨#[65,110]⟩,0⟩,⟨5,⟨#[66,111]⟩,0⟩],⟨[],[],[],[]⟩⟩
theorem o24:(nD (iQ (fun _=>false) (fun _=>true) vN)).flow.length=2:=by kernel_rfl
theorem apW:((nD (iQ (fun _=>false) (fun _=>true) vN)).flow.map ay.text).head?=some ⟨#[97,98,101]⟩:=by kernel_rfl
theorem apV:(nD (iQ (fun _=>false) (fun _=>true) vN)).revs.length=0:=by kernel_rfl
theorem f24:(nD (iQ (fun _=>true) (fun _=>false) vN)).flow.length=2:=by kernel_rfl
theorem akO:((nD (iQ (fun _=>true) (fun _=>false) vN)).flow.map ay.text).head?=some ⟨#[97,98,99,100]⟩:=by kernel_rfl
theorem akN:(nD (iQ (fun _=>true) (fun _=>false) vN)).revs.length=0:=by kernel_rfl
theorem z24:cu vN.flow≤1000:=by decide
theorem c24:iy vN=0:=by kernel_rfl
theorem s24:zC 536870912 vN:=by
 have h:=z24
 have h0:mh Ci≤1000:=by decide
 refine ⟨⟨by omega,by show mh Ci≤_;omega,by decide,fun x hx=>?_,by decide,⟨fun _ h=>(by cases h),by decide,fun _ h=>(by cases h),by decide,fun _ h=>(by cases h),by decide,fun _ h=>(by cases h),fun _ h=>(by cases h),fun _ h=>(by cases h)⟩⟩,by omega,by show mh Ci≤_;omega⟩
 simp only [vN,iX,List.not_mem_nil,or_false] at hx
 rcases hx with rfl|rfl <;> decide
theorem anc {F:List ay} {t:ByteArray} (h:(F.map ay.text).head?=some t) (h0:0 < F.length):F[0].text=t:=by
 cases F with
 | nil=>exact absurd h0 (by decide)
 | cons x F=>simpa using h
theorem ZI (G:GH) (w0:World) (hG:Hold G w0) :
  Calls prog 44 #[] w0 (bB w0 G fun u G'=>∃ D:iE,u=D.val∧jN G' D vN):=by
 refine eN [] func44 rfl ntmps44 rfl rfl hG ?_;intro a H;refine fK (fun _ K1=>?_);refine dJ gV H wn rfl ?_;clear H;intro b0 a w hb0 H;refine K1 _ _ ?_;clear K1;refine fK (fun _ K2=>?_);refine jl WM [_,_,_,_,_,_,_,_,_,_,_] H wn rfl rfl rfl rfl ?_;clear H;intro a H;refine jl WJ [_,_,_,_] H wn rfl rfl rfl rfl ?_;clear H;intro a H;refine jl JJ [_,_,_,_,_] H wn rfl rfl rfl rfl ?_;clear H;intro a H;refine jl WM [_,_,_,_,_,_,_,_,_,_,_] H wn rfl rfl rfl rfl ?_;clear H;intro a H;refine jl atj [_,_] H wn rfl rfl rfl rfl ?_;clear H;intro a H;refine gQ uD oG [_,_] [_,_] H wn rfl rfl rfl rfl rfl (by intro i q h;match i,h with|0,h=>exact h|n+1,h=>simp at h) rfl rfl ?_;clear H;intro b6 a w hb6 H;refine jl WJ [_,_,_,_] H wn rfl rfl rfl rfl ?_;clear H;intro a H;refine jl JJ [_,_,_,_,_] H wn rfl rfl rfl rfl ?_;clear H;intro a H;(iterate 2 refine jl WM [_,_,_,_,_,_,_,_,_,_,_] H wn rfl rfl rfl rfl ?_;clear H;intro a H);refine gQ lT gB [_,_,_,_,_,_,_,_,_,_,_,_,_,_,_,_,_,_,_,_,_,_,_,_,_,_,_,_,_,_,_,_,_,_,_,_,_,_,_,_,_,_,_,_] [_,_,_,_,_,_,_,_,_,_,_,_,_,_,_,_,_,_,_,_,_,_,_,_,_,_,_,_,_,_,_,_,_,_,_,_,_,_,_,_,_,_,_,_] H wn rfl rfl rfl rfl rfl (by intro i q h;match i,h with|0,h=>exact h|1,h=>exact h|2,h=>exact h|3,h=>exact h|n+4,h=>simp at h) rfl rfl ?_;clear H;intro b11 a w IZ H;(iterate 2 refine jl ath [_,_,_] H wn rfl rfl rfl rfl ?_;clear H;intro a H);refine gQ nQ mP [_,_,_,_,_,_] [_,_,_,_,_,_] H wn rfl rfl rfl rfl rfl (by intro i q h;match i,h with|0,h=>exact h|1,h=>exact h|n+2,h=>simp at h) rfl rfl ?_;clear H;intro b14 a w aax H;refine jl aed [_,_,_,_,_,_,_,_,_,_,_] H wn rfl rfl rfl rfl ?_;clear H;intro a H;refine aY gV 3 (vs:=[_,_,_,_,_,_,_,_,_,_,_]) _ H wn rfl rfl rfl rfl rfl rfl rfl rfl ?_;clear H;intro w H;dsimp only [List.set,setRow] at H;refine K2 _ _ ?_;clear K2;refine cK ?_;refine (leave1 H results44 (.cons (nH gV (cs:=[_,_,_,_,_,_,_,_,_,_,_]) H rfl rfl (H.hp.bT 3 rfl rfl)) .nil) ?_).1;have H:=H.dX (Pl:=[_,_,_,_]) (dN:=[_,_,_]) [2,1,0] (by decide) rfl;obtain ⟨G1,hm1,Uz,H⟩:=H.eB;obtain ⟨G2,hm2,Es,H⟩:=H.eB;obtain ⟨G3,hm3,Ux,H⟩:=H.eB;have nl:∀ {sz:Nat},au G2 (.sl sz []) (.slice none 0 0):=fun {sz}=>au.mg rfl (by decide);have GR:∀ {sz:Nat},au G3 (.sl sz []) (.slice none 0 0):=fun {sz}=>au.mg rfl (by decide);have d1:au G2 (.sl 2 ([(⟨5,0⟩:fO)].map fO.dat)) (.slice (some ⟨b6,0,none⟩) 1 1):=au.fu (n:=1) (cap:=1) (hm2 _ _ Uz) rfl (bR _) (show 1≤maxLen by decide) rfl (bV.nil.snoc (YW G2 ⟨5,0⟩) rfl);have r1:aV G2 (zx 1 ⟨#[97,98]⟩ 0 []).dat _:=aV.mkItem (x:=zx 1 ⟨#[97,98]⟩ 0 []) ⟨nl,nl,nl⟩ nl nl;have r2:aV G2 (zx 1 ⟨#[99,100]⟩ 3 []).dat _:=aV.mkItem (x:=zx 1 ⟨#[99,100]⟩ 3 []) ⟨nl,nl,nl⟩ nl nl;have r3:aV G2 (zx 1 ⟨#[101]⟩ 0 [⟨5,0⟩]).dat _:=aV.mkItem (x:=zx 1 ⟨#[101]⟩ 0 [⟨5,0⟩]) ⟨nl,d1,nl⟩ nl nl;have r4:aV G2 (zx 2 ⟨#[]⟩ 0 []).dat _:=aV.mkItem (x:=zx 2 ⟨#[]⟩ 0 []) ⟨nl,nl,nl⟩ nl nl;have dQ:bV G2 11 (vN.flow.map ay.dat) _:=(((bV.nil.snoc r1 rfl).snoc r2 rfl).snoc r3 rfl).snoc r4 rfl;have hcr:bV G3 3 (vN.revs.map bL.dat) _:=(bV.nil.snoc (ME G3 ⟨3,⟨#[65,110]⟩,0⟩) rfl).snoc (ME G3 ⟨5,⟨#[66,111]⟩,0⟩) rfl;exact H.rt ⟨⟨(some ⟨b11,0,none⟩,4,4),(none,0,0),(none,0,0),(none,0,0),(some ⟨b14,0,none⟩,2,2),(none,0,0),(none,0,0),(none,0,0),(none,0,0),0,0⟩,rfl,⟨(au.fu (n:=4) (cap:=4) Es rfl (bR _) (show 4≤maxLen by decide) rfl dQ).mono hm3,⟨GR,GR,GR⟩,rfl,rfl,au.fu (n:=2) (cap:=2) Ux rfl (bR _) (show 2≤maxLen by decide) rfl hcr,⟨GR,GR,GR,GR⟩⟩⟩
theorem Y5 {G:GH} {E:iE} {e:fT} {t:ByteArray} (hE:jN G E e) (h2:e.flow.length=2) (ht:(e.flow.map ay.text).head?=some t) (hr:e.revs.length=0) :
  ∃ b o fc rA rc,E.f=(some ⟨b,o,none⟩,2,fc)∧E.r=(rA,0,rc)∧aH G b (o+0*11+3)=some (.string t):=by
 obtain ⟨⟨fA,fn,fc⟩,_,_,_,⟨rA,rn,rc⟩,_,_,_,_,_,_⟩:=E;have hf:=hE.fl;have hv:=hE.rv;dsimp only [aQ] at hf hv;have n1:=hf.len;have n2:=hv.len;rw [bO] at n1 n2;obtain ⟨A,c,e4,-,-,hg⟩:=hf.slice;rw [bO] at e4
 injection e4 with e4 e5 e6
 subst e4;obtain ⟨b,o,_,_,_,_,_,_,_,_,_,_,_,_,_,_,_,rfl,hrow,-⟩:=FJ (show 0 < e.flow.length by omega) hg;have h3:=hrow 3 _ rfl;rw [anc ht] at h3;exact ⟨b,o,fc,rA,rc,by rw [n1,h2],by rw [n2,hr],h3⟩
theorem Vy (G:GH) (w0:World) (hG:Hold G w0):Calls prog 12 #[] w0 (bB w0 G fun u G'=>u=.bool true):=by
 refine eN [] func12 rfl ntmps12 rfl rfl hG ?_;intro a H;refine kP H (SR fun _ K1=>aF K1 rfl (SR fun _ K2=>?_));clear H K1;intro a H;refine s_call Zy H wn rfl (ZI _ _ H.ro) rfl ?_;clear H;rintro v3 G3 a w ⟨D3,rfl,hD3⟩ hm3 H;refine s_call Zf H wn rfl (adl _ _ H.ro D3 vN hD3 s24 c24) rfl ?_;clear H;rintro v4 G4 a w ⟨E,rfl,hE⟩ Je H;obtain ⟨b4,o4,fc,rA,rc,e1,e2,Ah⟩:=Y5 hE o24 apW apV;obtain ⟨_,_,_,_,_,_,_,_,_,_,_⟩:=E;dsimp only at e1 e2;subst e1 e2
 simp only [iE.val,iE.cells,aQ] at H
 refine dJ gV H wn rfl ?_;clear H;intro b1 a w hb1 H;refine aY gV 0 (vs:=[_,_,_,_,_,_,_,_,_,_,_]) _ H wn rfl rfl rfl rfl rfl rfl rfl rfl ?_;clear H;intro w H;dsimp only [List.set,setRow] at H;refine K2 _ _ ?_;clear K2;refine fK (fun _ K3=>?_);refine s_call Zy H wn rfl (ZI _ _ H.ro) rfl ?_;clear H;rintro v5 G5 a w ⟨D5,rfl,hD5⟩ zZ H;refine s_call Zh H wn rfl (adk _ _ H.ro D5 vN hD5 s24 c24) rfl ?_;clear H;rintro v6 G6 a w ⟨E6,rfl,hE6⟩ F6 H;obtain ⟨b6,o6,gc,sA,sc,e3,e4,ht6⟩:=Y5 hE6 f24 akO akN;obtain ⟨_,_,_,_,_,_,_,_,_,_,_⟩:=E6;dsimp only at e3 e4;subst e3 e4
 simp only [iE.val,iE.cells,aQ] at H
 replace Ah:=aG (fun b o h=>F6 b o (zZ b o h)) Ah;refine dJ gV H wn rfl ?_;clear H;intro b2 a w hb2 H;refine aY gV 0 (vs:=[_,_,_,_,_,_,_,_,_,_,_]) _ H wn rfl rfl rfl rfl rfl rfl rfl rfl ?_;clear H;intro w H;dsimp only [List.set,setRow] at H;refine K3 _ _ ?_;clear K3;refine kP H (SR fun _ K4=>dU vO lS 1 rfl rfl (Rl lT rfl (Rc rfl (Rm rfl (Sp 11 rfl ?_ ?_))))) <;> clear H
 ·intro h11 a H
  try have rH:=dT h11
  refine kH H (YF vO h11 rfl (YO lS 1 h11 rfl ?_));clear H;intro a H;refine yx lT gB 0 H (wg H rfl rfl h11) rfl rfl rfl (by decide) rfl ?_;clear H;intro a H;refine kH H (YF Ei h11 rfl (YR kR h11 rfl Ah ?_));clear H;intro a H;refine BZ H (wg H rfl rfl h11) rfl rfl rfl ?_;clear H;intro a H;refine kH H (Pt h11 rfl (Rm rfl (Sp 19 rfl ?_ ?_))) <;> clear H
  ·intro h19 a H
   try have uq:=dT h19
   refine kH H (YF vO h19 rfl (YO lS 0 h19 rfl (YL lT h19 rfl (YC h19 rfl (Pt h19 rfl (Rm rfl (Sp 25 rfl ?_ ?_))))))) <;> clear H
   ·intro pF a H
    try have p25:=dT pF
    refine kH H (YF vO pF rfl (YO lS 0 pF rfl ?_));clear H;intro a H;refine yx lT gB 0 H (wg H rfl rfl pF) rfl rfl rfl (by decide) rfl ?_;clear H;intro a H;refine kH H (YF Ei pF rfl (YR kR pF rfl ht6 ?_));clear H;intro a H;refine BZ H (wg H rfl rfl pF) rfl rfl rfl ?_;clear H;intro a H;refine kH H (Pt pF rfl (Rm rfl (Sp 33 rfl ?_ ?_))) <;> clear H
    ·intro uP a H
     try have p33:=dT uP
     refine kH H (YF zN uP rfl (YO vw 1 uP rfl (YL nQ uP rfl (YF zN uP rfl (YO vw 0 uP rfl (YL nQ uP rfl ?_))))));clear H;intro a H;refine MG _ H (wg H rfl rfl uP) rfl rfl rfl (by omega) (by omega) rfl ?_;clear H;intro a H;refine kH H (YC uP rfl (Pt uP rfl (aF K4 rfl ?_)));clear H K4;intro a H;refine lr H results12 rfl ?_
     first
      | exact H.rt rfl
      | (exfalso;simp_all;done)
      | (exfalso;simp_all;omega)
    intro uP a H
    try have p33:=dF uP
    refine kH H (fB uP rfl (fB uP rfl (fU uP rfl (Pf uP rfl (aF K4 rfl ?_)))));clear H K4;intro a H;refine lr H results12 rfl ?_
    first
     | exact H.rt rfl
     | (exfalso;simp_all;done)
     | (exfalso;simp_all;omega)
   intro pF a H
   try have p25:=dF pF
   refine kH H (fB pF rfl (fB pF rfl (Pf pF rfl (Rm rfl (fB rfl rfl (fB rfl rfl (fU rfl rfl (Pf rfl rfl (aF K4 rfl ?_)))))))));clear H K4;intro a H;refine lr H results12 rfl ?_
   first
    | exact H.rt rfl
    | (exfalso;simp_all;done)
    | (exfalso;simp_all;omega)
  intro h19 a H
  try have uq:=dF h19
  refine kH H (fU h19 rfl (fU h19 rfl (Pf h19 rfl (Rm rfl (fB rfl rfl (fB rfl rfl (Pf rfl rfl (Rm rfl (fB rfl rfl (fB rfl rfl (fU rfl rfl (Pf rfl rfl (aF K4 rfl ?_)))))))))))));clear H K4;intro a H;refine lr H results12 rfl ?_
  first
   | exact H.rt rfl
   | (exfalso;simp_all;done)
   | (exfalso;simp_all;omega)
 intro h11 a H
 try have rH:=dF h11
 refine kH H (fB h11 rfl (fB h11 rfl (Pf h11 rfl (Rm rfl (fU rfl rfl (fU rfl rfl (Pf rfl rfl (Rm rfl (fB rfl rfl (fB rfl rfl (Pf rfl rfl (Rm rfl (fB rfl rfl (fB rfl rfl (fU rfl rfl (Pf rfl rfl (aF K4 rfl ?_)))))))))))))))));clear H K4;intro a H;refine lr H results12 rfl ?_
 first
  | exact H.rt rfl
  | (exfalso;simp_all;done)
  | (exfalso;simp_all;omega)
theorem ata (G:GH) (w0:World) (hG:Hold G w0) (D:iE) (d:fT) (hR:jN G D d) (hz:yF d) (A R:List Int) (va vr:aj) (hd:Fb G A R va vr) :
  Calls prog 13 #[D.val,.agg #[va,vr]] w0 (bB w0 G fun u G'=>∃ b,u=.bool b∧(b=true→iy d=0∧A.length≤300∧R.length≤300)):=by
 obtain ⟨aA,ac,rfl,-,-,-⟩:=hd.ha.slice;obtain ⟨rA,rc,rfl,-,-,-⟩:=hd.hr.slice
 simp only [bO] at *
 refine eN [(0,_),(1,_)] func13 rfl ntmps13 rfl rfl hG ?_;intro a H;refine fK (fun _ K1=>?_);refine dW (cs:=[_,_,_,_,_,_,_,_,_,_,_]) H wn rfl rfl rfl ?_;clear H;intro b2 a w hb2 H;refine dW (cs:=[_,_]) H wn rfl rfl rfl ?_;clear H;intro b3 a w hb3 H;refine kH H (aF K1 rfl (SR fun _ K2=>dU ZT Hq 0 rfl rfl (Rl sJ rfl (Rc rfl (Rm rfl (Sp 9 rfl ?_ ?_)))))) <;> clear H K1
 ·intro h9 a H
  try have p9:=dT h9
  refine kH H (YF ZU h9 rfl (YO Hq 0 h9 rfl (YL sJ h9 rfl (YC h9 rfl (Pt h9 rfl (Rm rfl (Sp 15 rfl ?_ ?_))))))) <;> clear H
  ·intro lX a H
   try have sD:=dT lX
   refine aR gV (cs:=[_,_,_,_,_,_,_,_,_,_,_]) H (wg H rfl rfl lX) rfl rfl (H.hp.bT 1 rfl rfl) rfl ?_;clear H;intro a H;refine s_call ajJ H (wg H rfl rfl lX) rfl (asZ _ _ H.ro D d hR hz) rfl ?_;clear H;rintro v17 yG a w ⟨b17,rfl,OP⟩ sW H;refine kH H (Pt lX rfl (aF K2 rfl ?_));clear H K2;intro a H;refine lr H results13 rfl ?_
   first
    | exact H.rt ⟨_,rfl,fun h=>⟨OP h,by omega,by omega⟩⟩
    | exact H.rt ⟨_,rfl,fun h=>by cases h⟩
  intro lX a H
  try have sD:=dF lX
  refine kH H (fU lX rfl (Pf lX rfl (aF K2 rfl ?_)));clear H K2;intro a H;refine lr H results13 rfl ?_
  first
   | exact H.rt ⟨_,rfl,fun h=>⟨OP h,by omega,by omega⟩⟩
   | exact H.rt ⟨_,rfl,fun h=>by cases h⟩
 intro h9 a H
 try have p9:=dF h9
 refine kH H (fU h9 rfl (fU h9 rfl (Pf h9 rfl (Rm rfl (fU rfl rfl (Pf rfl rfl (aF K2 rfl ?_)))))));clear H K2;intro a H;refine lr H results13 rfl ?_
 first
  | exact H.rt ⟨_,rfl,fun h=>⟨OP h,by omega,by omega⟩⟩
  | exact H.rt ⟨_,rfl,fun h=>by cases h⟩
theorem SN:∀ args w,(callFunc 51 args).run prog w=.ok (.enter 51 args) w:=enters func51 rfl (by kernel_rfl)
theorem ajb:∀ args w,(callFunc 216 args).run prog w=.ok (.enter 216 args) w:=enters func216 rfl (by kernel_rfl)
theorem aiy:∀ args w,(callFunc 166 args).run prog w=.ok (.enter 166 args) w:=enters func166 rfl (by kernel_rfl)
theorem ahF:∀ args w,(callFunc 100 args).run prog w=.ok (.enter 100 args) w:=enters func100 rfl (by kernel_rfl)
theorem ajc:∀ args w,(callFunc 217 args).run prog w=.ok (.enter 217 args) w:=enters func217 rfl (by kernel_rfl)
theorem aiz:∀ args w,(callFunc 167 args).run prog w=.ok (.enter 167 args) w:=enters func167 rfl (by kernel_rfl)
theorem ahG:∀ args w,(callFunc 101 args).run prog w=.ok (.enter 101 args) w:=enters func101 rfl (by kernel_rfl)
theorem bytes_beq (p q:ByteArray):((p.toList == q.toList)=true)↔p=q:=by
 rw [ByteArray.toList_eq,ByteArray.toList_eq,beq_iff_eq];exact ⟨fun e=>Go.WideShapes.bytes_inj e,fun e=>by rw [e]⟩
theorem ay.eq_iff (a b:ay):((((((a.kind=b.kind∧a.code=b.code)∧a.id=b.id)∧a.text=b.text)∧a.head=b.head)∧a.flow=b.flow)∧a.rows=b.rows)↔a=b:=by
 cases a;cases b
 simp [ay.kind,ay.code,ay.id,ay.text,ay.head,ay.flow,ay.rows,and_assoc]
theorem aU.eq_iff (a b:aU):(a.head=b.head∧a.cells=b.cells)↔a=b:=by
 cases a;cases b
 simp [aU.head,aU.cells]
theorem aZ.eq_iff (a b:aZ):((a.id=b.id∧a.head=b.head)∧a.flow=b.flow)↔a=b:=by
 cases a;cases b
 simp [aZ.id,aZ.head,aZ.flow,and_assoc]
def AB (fv:aj) (G:GH) (d d':List Dat) (p:Prop):Prop:=∀ (G1:GH) (w1:World) (cs cs':List aj),(∀ b o,G b=some o→G1 b=some o)→Hold G1 w1→aV G1 d cs→aV G1 d' cs' →
 rO prog fv [.agg cs.toArray,.agg cs'.toArray] w1 (bB w1 G1 fun u G'=>∃ b,u=.bool b∧(b=true↔p))
theorem aki (G:GH) (w0:World) (hG:Hold G w0) (A B:List ay) (v u fv:aj) (hv:au G (.sl 11 (A.map ay.dat)) v) (hu:au G (.sl 11 (B.map ay.dat)) u) (hf:∀ (i:Nat) (h1:i < A.length) (h2:i < B.length),AB fv G A[i].dat B[i].dat (A[i]=B[i])) :
  Calls prog 100 #[v,u,fv] w0 (bB w0 G fun r G'=>∃ b,r=.bool b∧(b=true↔A=B)):=by
 obtain ⟨vA,vc,rfl,hc1,hc2,hg⟩:=hv.slice;obtain ⟨uA,uc,rfl,hd1,hd2,hh⟩:=hu.slice;have hml:maxLen=9223372036854775807:=rfl;(iterate 2 rw [bO] at *);refine eN [(0,_),(1,_),(2,_)] func100 rfl ntmps100 rfl rfl hG ?_;refine goB 11 ?_ ?_
 ·intro lN
  refine bP 3 ?_;exact ⟨false,rfl,by simp only [tJ,false_iff];exact fun e=>absurd (aB List.length e) (by omega)⟩
 intro lN
 refine av 8 ?_;intro a H;refine eH (ι:=Nat × GH) (Tc:=[(1,_),(2,_),(15,_),(16,_)]) (Lc:=[]) (fun gh=>[(17,vi gh.1)]) (fun gh=>[]) (fun gh=>gh.2) (fun gh=>gh.1≤A.length∧A.take gh.1=B.take gh.1∧(∀ b o,G b=some o→gh.2 b=some o)) (fun gh=>A.length - gh.1) ((0,G)) sB ?_ ?_
 ·exact ⟨by omega,rfl,fun _ _ h=>h⟩
 clear H;rintro ⟨k,g⟩ a w hI H;dsimp only at hI H;obtain ⟨hk,hsame,hgm⟩:=hI;dsimp only [lca,bK] at H;refine iI 4 H ?_ ?_ <;> clear H
 ·intro sF
  have hk2:k < A.length:=by omega
  have hk3:k < B.length:=by omega
  obtain ⟨b1,o1,cs1,rfl,zW,pI,hr1⟩:=hg k A[k].dat (by simp [hk2]);obtain ⟨pA,pn,pc,dA,dn,dc,yA,yn,yc,fA,fn,fc,rA,rn,rc,rfl,-⟩:=hr1.item;obtain ⟨b2,o2,cs2,rfl,zX,hrow2,hr2⟩:=hh k B[k].dat (by simp [hk3]);obtain ⟨JC,Mw,pc2,Ip,KH,Ir,M6,M8,M7,IB,IU,IC,rA2,rn2,rc2,rfl,-⟩:=hr2.item;refine av 6 ?_;intro a H;refine aR gB (cs:=_) H wn rfl rfl (fun j v hj=>H.hp.aH (aG hgm (pI j v hj))) rfl ?_;clear H;intro a H;refine dJ gB H wn rfl ?_;clear H;intro b8 a w BA H;refine bJ 1 H ?_;clear H;intro a H;refine aY gB 0 (vs:=[_,_,_,_,_,_,_,_,_,_,_]) _ H wn rfl rfl rfl rfl rfl rfl rfl rfl ?_;clear H;intro w H;dsimp only [List.set,setRow] at H;refine bJ 5 H ?_;clear H;intro a H;refine aR gB (cs:=_) H wn rfl rfl (fun j v hj=>H.hp.aH (aG hgm (hrow2 j v hj))) rfl ?_;clear H;intro a H;refine dJ gB H wn rfl ?_;clear H;intro b9 a w uT H;refine aY gB 0 (vs:=[_,_,_,_,_,_,_,_,_,_,_]) _ H wn rfl rfl rfl rfl rfl rfl rfl rfl ?_;clear H;intro w H;dsimp only [List.set,setRow] at H;refine bJ 3 H ?_;clear H;intro a H;refine aR gB (cs:=[_,_,_,_,_,_,_,_,_,_,_]) H wn rfl rfl (H.hp.bT 1 rfl rfl) rfl ?_;clear H;intro a H;refine aR gB (cs:=[_,_,_,_,_,_,_,_,_,_,_]) H wn rfl rfl (H.hp.bT 0 rfl rfl) rfl ?_;clear H;intro a H;refine jF H wn rfl rfl (hf k hk2 hk3 _ _ _ _ hgm H.ro (hr1.mono hgm) (hr2.mono hgm)) rfl ?_;clear H;rintro v29 yI a w ⟨NI,rfl,wS⟩ yU H;refine lW 2 H ?_ ?_ <;> clear H
  ·intro mY
   refine bP 3 ?_;exact ⟨false,rfl,by simp only [tJ,false_iff];rintro rfl;exact absurd (wS.2 rfl) (by simpa using mY)⟩
  intro mY
  try have p30:=dF mY
  refine av 4 ?_;intro a H;refine aC ?_;refine dx ((k+1,yI)) (by exact (H.dX (Pl:=[_,_]) (dN:=[]) [] (by decide) rfl).sub ⟨rfl,rfl,rfl,rfl,rfl,aL⟩) ?_
  (try dsimp only);exact ⟨by omega,by rw [fV hk2,fV hk3,hsame,wS.1 (by simpa using mY)],fun b o h=>yU b o (hgm b o h)⟩
 intro sF
 refine bP 4 ?_;exact ⟨true,rfl,by rw [gu (by omega),gu (by omega)] at hsame;simpa using hsame⟩
theorem akj (G:GH) (w0:World) (hG:Hold G w0) (A B:List aU) (v u fv:aj) (hv:au G (.sl 6 (A.map aU.dat)) v) (hu:au G (.sl 6 (B.map aU.dat)) u) (hf:∀ (i:Nat) (h1:i < A.length) (h2:i < B.length),AB fv G A[i].dat B[i].dat (A[i]=B[i])) :
  Calls prog 166 #[v,u,fv] w0 (bB w0 G fun r G'=>∃ b,r=.bool b∧(b=true↔A=B)):=by
 obtain ⟨vA,vc,rfl,hc1,hc2,hg⟩:=hv.slice;obtain ⟨uA,uc,rfl,hd1,hd2,hh⟩:=hu.slice;have hml:maxLen=9223372036854775807:=rfl;(iterate 2 rw [bO] at *);refine eN [(0,_),(1,_),(2,_)] func166 rfl ntmps166 rfl rfl hG ?_;refine goB 11 ?_ ?_
 ·intro lN
  refine bP 3 ?_;exact ⟨false,rfl,by simp only [tJ,false_iff];exact fun e=>absurd (aB List.length e) (by omega)⟩
 intro lN
 refine av 8 ?_;intro a H;refine eH (ι:=Nat × GH) (Tc:=[(1,_),(2,_),(15,_),(16,_)]) (Lc:=[]) (fun gh=>[(17,vi gh.1)]) (fun gh=>[]) (fun gh=>gh.2) (fun gh=>gh.1≤A.length∧A.take gh.1=B.take gh.1∧(∀ b o,G b=some o→gh.2 b=some o)) (fun gh=>A.length - gh.1) ((0,G)) sB ?_ ?_
 ·exact ⟨by omega,rfl,fun _ _ h=>h⟩
 clear H;rintro ⟨k,g⟩ a w hI H;dsimp only at hI H;obtain ⟨hk,hsame,hgm⟩:=hI;dsimp only [lca,bK] at H;refine iI 4 H ?_ ?_ <;> clear H
 ·intro sF
  have hk2:k < A.length:=by omega
  have hk3:k < B.length:=by omega
  obtain ⟨b1,o1,cs1,rfl,zW,pI,hr1⟩:=hg k A[k].dat (by simp [hk2]);obtain ⟨pA,pn,pc,dA,dn,dc,yA,yn,yc,fA,fn,fc,rfl,-⟩:=hr1.row;obtain ⟨b2,o2,cs2,rfl,zX,hrow2,hr2⟩:=hh k B[k].dat (by simp [hk3]);obtain ⟨JC,Mw,pc2,Ip,KH,Ir,M6,M8,M7,IB,IU,IC,rfl,-⟩:=hr2.row;refine av 6 ?_;intro a H;refine aR jA (cs:=_) H wn rfl rfl (fun j v hj=>H.hp.aH (aG hgm (pI j v hj))) rfl ?_;clear H;intro a H;refine dJ jA H wn rfl ?_;clear H;intro b8 a w BA H;refine bJ 1 H ?_;clear H;intro a H;refine aY jA 0 (vs:=[_,_,_,_,_,_]) _ H wn rfl rfl rfl rfl rfl rfl rfl rfl ?_;clear H;intro w H;dsimp only [List.set,setRow] at H;refine bJ 5 H ?_;clear H;intro a H;refine aR jA (cs:=_) H wn rfl rfl (fun j v hj=>H.hp.aH (aG hgm (hrow2 j v hj))) rfl ?_;clear H;intro a H;refine dJ jA H wn rfl ?_;clear H;intro b9 a w uT H;refine aY jA 0 (vs:=[_,_,_,_,_,_]) _ H wn rfl rfl rfl rfl rfl rfl rfl rfl ?_;clear H;intro w H;dsimp only [List.set,setRow] at H;refine bJ 3 H ?_;clear H;intro a H;refine aR jA (cs:=[_,_,_,_,_,_]) H wn rfl rfl (H.hp.bT 1 rfl rfl) rfl ?_;clear H;intro a H;refine aR jA (cs:=[_,_,_,_,_,_]) H wn rfl rfl (H.hp.bT 0 rfl rfl) rfl ?_;clear H;intro a H;refine jF H wn rfl rfl (hf k hk2 hk3 _ _ _ _ hgm H.ro (hr1.mono hgm) (hr2.mono hgm)) rfl ?_;clear H;rintro v29 yI a w ⟨NI,rfl,wS⟩ yU H;refine lW 2 H ?_ ?_ <;> clear H
  ·intro mY
   refine bP 3 ?_;exact ⟨false,rfl,by simp only [tJ,false_iff];rintro rfl;exact absurd (wS.2 rfl) (by simpa using mY)⟩
  intro mY
  try have p30:=dF mY
  refine av 4 ?_;intro a H;refine aC ?_;refine dx ((k+1,yI)) (by exact (H.dX (Pl:=[_,_]) (dN:=[]) [] (by decide) rfl).sub ⟨rfl,rfl,rfl,rfl,rfl,aL⟩) ?_
  (try dsimp only);exact ⟨by omega,by rw [fV hk2,fV hk3,hsame,wS.1 (by simpa using mY)],fun b o h=>yU b o (hgm b o h)⟩
 intro sF
 refine bP 4 ?_;exact ⟨true,rfl,by rw [gu (by omega),gu (by omega)] at hsame;simpa using hsame⟩
theorem akh (G:GH) (w0:World) (hG:Hold G w0) (A B:List aZ) (v u fv:aj) (hv:au G (.sl 7 (A.map aZ.dat)) v) (hu:au G (.sl 7 (B.map aZ.dat)) u) (hf:∀ (i:Nat) (h1:i < A.length) (h2:i < B.length),AB fv G A[i].dat B[i].dat (A[i]=B[i])) :
  Calls prog 216 #[v,u,fv] w0 (bB w0 G fun r G'=>∃ b,r=.bool b∧(b=true↔A=B)):=by
 obtain ⟨vA,vc,rfl,hc1,hc2,hg⟩:=hv.slice;obtain ⟨uA,uc,rfl,hd1,hd2,hh⟩:=hu.slice;have hml:maxLen=9223372036854775807:=rfl;(iterate 2 rw [bO] at *);refine eN [(0,_),(1,_),(2,_)] func216 rfl ntmps216 rfl rfl hG ?_;refine goB 11 ?_ ?_
 ·intro lN
  refine bP 3 ?_;exact ⟨false,rfl,by simp only [tJ,false_iff];exact fun e=>absurd (aB List.length e) (by omega)⟩
 intro lN
 refine av 8 ?_;intro a H;refine eH (ι:=Nat × GH) (Tc:=[(1,_),(2,_),(15,_),(16,_)]) (Lc:=[]) (fun gh=>[(17,vi gh.1)]) (fun gh=>[]) (fun gh=>gh.2) (fun gh=>gh.1≤A.length∧A.take gh.1=B.take gh.1∧(∀ b o,G b=some o→gh.2 b=some o)) (fun gh=>A.length - gh.1) ((0,G)) sB ?_ ?_
 ·exact ⟨by omega,rfl,fun _ _ h=>h⟩
 clear H;rintro ⟨k,g⟩ a w hI H;dsimp only at hI H;obtain ⟨hk,hsame,hgm⟩:=hI;dsimp only [lca,bK] at H;refine iI 4 H ?_ ?_ <;> clear H
 ·intro sF
  have hk2:k < A.length:=by omega
  have hk3:k < B.length:=by omega
  obtain ⟨b1,o1,cs1,rfl,zW,pI,hr1⟩:=hg k A[k].dat (by simp [hk2]);obtain ⟨pA,pn,pc,dA,dn,dc,yA,yn,yc,fA,fn,fc,rfl,-⟩:=hr1.cell;obtain ⟨b2,o2,cs2,rfl,zX,hrow2,hr2⟩:=hh k B[k].dat (by simp [hk3]);obtain ⟨JC,Mw,pc2,Ip,KH,Ir,M6,M8,M7,IB,IU,IC,rfl,-⟩:=hr2.cell;refine av 6 ?_;intro a H;refine aR jL (cs:=_) H wn rfl rfl (fun j v hj=>H.hp.aH (aG hgm (pI j v hj))) rfl ?_;clear H;intro a H;refine dJ jL H wn rfl ?_;clear H;intro b8 a w BA H;refine bJ 1 H ?_;clear H;intro a H;refine aY jL 0 (vs:=[_,_,_,_,_,_,_]) _ H wn rfl rfl rfl rfl rfl rfl rfl rfl ?_;clear H;intro w H;dsimp only [List.set,setRow] at H;refine bJ 5 H ?_;clear H;intro a H;refine aR jL (cs:=_) H wn rfl rfl (fun j v hj=>H.hp.aH (aG hgm (hrow2 j v hj))) rfl ?_;clear H;intro a H;refine dJ jL H wn rfl ?_;clear H;intro b9 a w uT H;refine aY jL 0 (vs:=[_,_,_,_,_,_,_]) _ H wn rfl rfl rfl rfl rfl rfl rfl rfl ?_;clear H;intro w H;dsimp only [List.set,setRow] at H;refine bJ 3 H ?_;clear H;intro a H;refine aR jL (cs:=[_,_,_,_,_,_,_]) H wn rfl rfl (H.hp.bT 1 rfl rfl) rfl ?_;clear H;intro a H;refine aR jL (cs:=[_,_,_,_,_,_,_]) H wn rfl rfl (H.hp.bT 0 rfl rfl) rfl ?_;clear H;intro a H;refine jF H wn rfl rfl (hf k hk2 hk3 _ _ _ _ hgm H.ro (hr1.mono hgm) (hr2.mono hgm)) rfl ?_;clear H;rintro v29 yI a w ⟨NI,rfl,wS⟩ yU H;refine lW 2 H ?_ ?_ <;> clear H
  ·intro mY
   refine bP 3 ?_;exact ⟨false,rfl,by simp only [tJ,false_iff];rintro rfl;exact absurd (wS.2 rfl) (by simpa using mY)⟩
  intro mY
  try have p30:=dF mY
  refine av 4 ?_;intro a H;refine aC ?_;refine dx ((k+1,yI)) (by exact (H.dX (Pl:=[_,_]) (dN:=[]) [] (by decide) rfl).sub ⟨rfl,rfl,rfl,rfl,rfl,aL⟩) ?_
  (try dsimp only);exact ⟨by omega,by rw [fV hk2,fV hk3,hsame,wS.1 (by simpa using mY)],fun b o h=>yU b o (hgm b o h)⟩
 intro sF
 refine bP 4 ?_;exact ⟨true,rfl,by rw [gu (by omega),gu (by omega)] at hsame;simpa using hsame⟩
def Fe (n:Nat):Prop:=∀ (G:GH) (w0:World),Hold G w0→∀ (A B:List ay) (v u:aj),au G (.sl 11 (A.map ay.dat)) v→au G (.sl 11 (B.map ay.dat)) u→cu A < n →
 Calls prog 51 #[v,u] w0 (bB w0 G fun r G'=>∃ b,r=.bool b∧(b=true↔A=B))
theorem akf {n:Nat} (ih:Fe n) (G:GH) (x y:aZ) (hz:cu x.flow < n):AB (.func (.func 217) #[] #[]) G x.dat y.dat (x=y):=by
 intro G1 w0 cs cs' hm hG h1 h2;refine jo (caps:=[]) ajc ?_;obtain ⟨pA,pn,pc,dA,dn,dc,yA,yn,yc,fA,fn,fc,rfl,Lm,hf1⟩:=h1.cell;obtain ⟨JC,Mw,pc2,Ip,KH,Ir,M6,M8,M7,IB,IU,IC,rfl,FZ,hf2⟩:=h2.cell;have he:=aZ.eq_iff x y;refine eN [(0,_),(1,_)] func217 rfl ntmps217 rfl rfl hG ?_;refine av 1 ?_;intro a H;refine dW (cs:=[_,_,_,_,_,_,_]) H wn rfl rfl rfl ?_;clear H;intro b2 a w hb2 H;refine dW (cs:=[_,_,_,_,_,_,_]) H wn rfl rfl rfl ?_;clear H;intro b3 a w hb3 H;refine qd 9 10 H ?_ ?_ <;> clear H
 ·intro h10
  try have iU:=dT h10
  refine av 1 ?_;intro a H;refine aR dB (cs:=[_,_,_,_,_]) H (wg H rfl rfl h10) rfl rfl (H.hp.bT 1 rfl rfl) rfl ?_;clear H;refine av 1 ?_;intro a H;refine aR dB (cs:=[_,_,_,_,_]) H (wg H rfl rfl h10) rfl rfl (H.hp.bT 0 rfl rfl) rfl ?_;clear H;intro a H;refine s_call Iw H (wg H rfl rfl h10) rfl (Iz _ _ H.ro x.head y.head _ _ _ _ _ _ Lm FZ) rfl ?_;clear H;rintro vH GH a w rfl BI H;refine qd 2 17 H ?_ ?_ <;> clear H
  ·intro eT
   try have jZ:=dT eT
   refine av 4 ?_;intro a H;refine s_call SN H (wg H rfl rfl eT) rfl (ih _ _ H.ro x.flow y.flow _ _ (hf1.mono BI) (hf2.mono BI) hz) rfl ?_;clear H;rintro vF GF a w ⟨bF,rfl,hbF⟩ O7 H;refine kJ 3 H ?_;exact ⟨_,rfl,by rw [← he];simp_all⟩
  intro eT
  try have jZ:=dF eT
  refine bP 8 ?_;exact ⟨_,rfl,by rw [← he];simp_all⟩
 intro h10
 try have iU:=dF h10
 refine bP 15 ?_;exact ⟨_,rfl,by rw [← he];simp_all⟩
theorem akp {n:Nat} (ih:Fe n) (hn:n≤4294967297) (G:GH) (x y:aU) (hz:iR x.cells < n):AB (.func (.func 167) #[] #[]) G x.dat y.dat (x=y):=by
 intro G1 w0 cs cs' hm hG h1 h2;refine jo (caps:=[]) aiz ?_;obtain ⟨pA,pn,pc,dA,dn,dc,yA,yn,yc,fA,fn,fc,rfl,Lm,hf1⟩:=h1.row;obtain ⟨JC,Mw,pc2,Ip,KH,Ir,M6,M8,M7,IB,IU,IC,rfl,FZ,hf2⟩:=h2.row;have he:=aU.eq_iff x y;refine eN [(0,_),(1,_)] func167 rfl ntmps167 rfl rfl hG ?_;refine av 1 ?_;intro a H;refine dW (cs:=[_,_,_,_,_,_]) H wn rfl rfl rfl ?_;clear H;intro b2 a w hb2 H;refine dW (cs:=[_,_,_,_,_,_]) H wn rfl rfl rfl ?_;clear H;intro b3 a w hb3 H;refine bJ 4 H ?_;clear H;intro a H;refine aR dB (cs:=[_,_,_,_,_]) H wn rfl rfl (H.hp.bT 1 rfl rfl) rfl ?_;clear H;refine av 1 ?_;intro a H;refine aR dB (cs:=[_,_,_,_,_]) H wn rfl rfl (H.hp.bT 0 rfl rfl) rfl ?_;clear H;intro a H;refine s_call Iw H wn rfl (Iz _ _ H.ro x.head y.head _ _ _ _ _ _ Lm FZ) rfl ?_;clear H;rintro vH GH a w rfl BI H;refine qd 1 10 H ?_ ?_ <;> clear H
 ·intro h10
  try have iU:=dT h10
  refine av 4 ?_;intro a H;refine s_call ajb H (wg H rfl rfl h10) rfl (akh _ _ H.ro x.cells y.cells _ _ _ (hf1.mono BI) (hf2.mono BI) (fun i h1 h2=>akf ih _ _ _ (by have:=M9 h1;omega))) rfl ?_;clear H;rintro vF GF a w ⟨bF,rfl,hbF⟩ O7 H;refine kJ 3 H ?_;exact ⟨_,rfl,by rw [← he];simp_all⟩
 intro h10
 try have iU:=dF h10
 refine bP 8 ?_;exact ⟨_,rfl,by rw [← he];simp_all⟩
theorem akk {n:Nat} (ih:Fe n) (hn:n≤4294967297) (G:GH) (w0:World) (hG:Hold G w0) (x y:ay) (cs cs':List aj) (h1:aV G x.dat cs) (h2:aV G y.dat cs') (hz:cu x.flow < n) (hr:gX x.rows < n) :
  Calls prog 101 #[.agg cs.toArray,.agg cs'.toArray] w0 (bB w0 G fun u G'=>∃ b,u=.bool b∧(b=true↔x=y)):=by
 obtain ⟨pA,pn,pc,dA,dn,dc,yA,yn,yc,fA,fn,fc,rA,rn,rc,rfl,Lm,hf1,hw1⟩:=h1.item;obtain ⟨JC,Mw,pc2,Ip,KH,Ir,M6,M8,M7,IB,IU,IC,rA2,rn2,rc2,rfl,FZ,hf2,hw2⟩:=h2.item;have he:=ay.eq_iff x y;have hb:=bytes_beq x.text y.text;refine eN [(0,_),(1,_)] func101 rfl ntmps101 rfl rfl hG ?_;refine av 1 ?_;intro a H;refine dW (cs:=[_,_,_,_,_,_,_,_,_,_,_]) H wn rfl rfl rfl ?_;clear H;intro b2 a w hb2 H;refine dW (cs:=[_,_,_,_,_,_,_,_,_,_,_]) H wn rfl rfl rfl ?_;clear H;intro b3 a w hb3 H;refine sS 9 10 H ?_ ?_ <;> clear H
 ·intro iU
  refine qJ 7 17 ?_ ?_
  ·intro jZ
   refine mX 7 24 ?_ ?_
   ·intro fq
    try have jT:=dT fq
    refine av 4 ?_;intro a H;refine BZ H (wg H rfl rfl fq) rfl rfl rfl ?_;clear H;refine mX 2 31 ?_ ?_
    ·intro h31
     try have p31:=dT h31
     refine av 1 ?_;intro a H;refine aR dB (cs:=[_,_,_,_,_]) H (wg H rfl rfl h31) rfl rfl (H.hp.bT 1 rfl rfl) rfl ?_;clear H;refine av 1 ?_;intro a H;refine aR dB (cs:=[_,_,_,_,_]) H (wg H rfl rfl h31) rfl rfl (H.hp.bT 0 rfl rfl) rfl ?_;clear H;intro a H;refine s_call Iw H (wg H rfl rfl h31) rfl (Iz _ _ H.ro x.head y.head _ _ _ _ _ _ Lm FZ) rfl ?_;clear H;rintro vH GH a w rfl BI H;refine qd 2 38 H ?_ ?_ <;> clear H
     ·intro kC
      try have p38:=dT kC
      refine av 4 ?_;intro a H;refine s_call SN H (wg H rfl rfl kC) rfl (ih _ _ H.ro x.flow y.flow _ _ (hf1.mono BI) (hf2.mono BI) hz) rfl ?_;clear H;rintro vF GF a w ⟨bF,rfl,hbF⟩ O7 H;refine qd 2 45 H ?_ ?_ <;> clear H
      ·intro h45
       try have p45:=dT h45
       refine av 4 ?_;intro a H;refine s_call aiy H (wg H rfl rfl h45) rfl (akj _ _ H.ro x.rows y.rows _ _ _ ((hw1.mono BI).mono O7) ((hw2.mono BI).mono O7) (fun i h1 h2=>akp ih hn _ _ _ (by have:=Na h1;omega))) rfl ?_;clear H;rintro vW GW a w ⟨bW,rfl,hbW⟩ hmW H;refine kJ 3 H ?_;exact ⟨_,rfl,by rw [← he];simp_all⟩
      intro h45
      try have p45:=dF h45
      refine bP 8 ?_;exact ⟨_,rfl,by rw [← he];simp_all⟩
     intro kC
     try have p38:=dF kC
     refine bP 15 ?_;exact ⟨_,rfl,by rw [← he];simp_all⟩
    intro h31
    try have p31:=dF h31
    refine bP 22 ?_;exact ⟨_,rfl,by rw [← he];simp_all⟩
   intro fq
   try have jT:=dF fq
   refine bP 29 ?_;exact ⟨_,rfl,by rw [← he];simp_all⟩
  intro jZ
  refine bP 36 ?_;exact ⟨_,rfl,by rw [← he];simp_all⟩
 intro iU
 refine bP 43 ?_;exact ⟨_,rfl,by rw [← he];simp_all⟩
theorem akl {n:Nat} (ih:Fe n) (hn:n≤4294967297) (G:GH) (x y:ay) (hz:cu x.flow < n) (hr:gX x.rows < n):AB (.func (.func 101) #[] #[]) G x.dat y.dat (x=y):=by
 intro G1 w0 cs cs' hm hG h1 h2;exact jo (caps:=[]) ahG (akk ih hn G1 w0 hG x y cs cs' h1 h2 hz hr)
theorem aks {n:Nat} (ih:Fe n) (hn:n≤4294967297):Fe (n+1):=by
 intro G w0 hG A B v u hv hu hz;refine eN [(0,_),(1,_)] func51 rfl ntmps51 rfl rfl hG ?_;refine av 6 ?_;intro a H;refine s_call ahF H wn rfl (aki _ _ H.ro A B _ _ _ hv hu (fun i h1 h2=>akl ih hn _ _ _ (by have:=JX h1;omega) (by have:=JX h1;omega))) rfl ?_;clear H;rintro v7 G7 a w ⟨b7,rfl,wT⟩ BH H;refine kJ 2 H ?_;exact ⟨_,rfl,wT⟩
theorem ZG:∀ n:Nat,n≤4294967298→Fe n
 | 0,_=>fun _ _ _ _ _ _ _ _ _ h=>absurd h (by omega)
 | n+1,hn=>aks (ZG n (by omega)) (by omega)
theorem akG (G:GH) (w0:World) (hG:Hold G w0) (A B:List ay) (v u:aj) (hv:au G (.sl 11 (A.map ay.dat)) v) (hu:au G (.sl 11 (B.map ay.dat)) u) (hz:cu A≤4294967296) :
  Calls prog 51 #[v,u] w0 (bB w0 G fun r G'=>∃ b,r=.bool b∧(b=true↔A=B)):=ZG 4294967298 (by omega) G w0 hG A B v u hv hu (by omega)
section
def jR (xs:Array aj) (o:Nat × Nat):Option (Int × Int × List UInt8):=match o.2 with
 | 0=>(lK xs o.1).map fun n=>(n,0,[])
 | 1=>match xs[o.1]? with|some (.string s)=>some (0,0,s.toList)|_=>none
 | 2=>match lK xs o.1,lK xs (o.1+1) with|some a,some b=>some (a,b,[])|_,_=>none
 | 3=>match xs[o.1]? with|some (.bool b)=>some (if b=true then 1 else 0,0,[])|_=>none
 | _=>none
def acQ (P:Program) (t:TypeId):Bool:=!P.stoodInHeld t && decide ((P.fieldsOf t).toList.map (·.offset)=[0,1]) && ((P.fieldsOf t).toList.all fun f=>decide (f.name ≠ "_") && P.plainKey f.type && Vt (P.underlying f.type)) && decide (P.cellsOf t=2) && (P.info? t).isSome
def yY (P:Program) (t:TypeId):Nat:=match P.underlying t with|some (.int .i64)=>0|some .string=>1|some (.struct _)=>2|some .bool=>3|_=>4
def V3 (P:Program) (t:TypeId):Bool:=match yY P t with|0=>P.plainKey t|1=>P.plainKey t|2=>acQ P t|3=>P.plainKey t|_=>false
structure JZ (P:Program) (t:TypeId) (yg:List (Nat × Nat)):Prop where
 und:P.underlying t=some (.struct (P.fieldsOf t))
 held:P.stoodInHeld t=false
 guard:P.eqGuardType P.depth t=false
 Em:(P.fieldsOf t).toList.map (fun f=>(f.offset,yY P f.type))=yg
 ok:(P.fieldsOf t).toList.all (fun f=>decide (f.name ≠ "_") && V3 P f.type)=true
theorem atF {P:Program} {t:TypeId} {fs:Array Field} (h:P.underlying t=some (.struct fs)):P.underlying t=some (.struct (P.fieldsOf t)):=by
 rw [h]
 simp [Program.fieldsOf,h]
theorem adH {P:Program} (w:World) {t:TypeId} {fs:Array Field} (hu:P.underlying t=some (.struct fs)) {i:TypeInfo} (hi:P.info? t=some i) (hc:P.cellsOf t=2) (xs:Array aj) (off:Nat):(part t xs off).run P w=.ok (.agg (xs.extract off (off+2))) w:=by
 unfold part
 simp [isAgg,dV,run_underlying hu,run_sizeOf w hi,hc]
theorem Oz {xs:Array aj} {o:Nat} {n:Int} (h:lK xs o=some n):xs[o]?=some (.int .i64 n):=by
 unfold lK at h
 split at h
 ·rename_i hx;cases h;exact hx
 ·cases h
theorem aah {xs:Array aj} {off:Nat} {a b:Int} (h1:lK xs off=some a) (h2:lK xs (off+1)=some b):lK (xs.extract off (off+2)) 0=some a∧lK (xs.extract off (off+2)) 1=some b:=by
 have e1:=Oz h1
 have e2:=Oz h2
 have hl:off+1 < xs.size:=(Array.getElem?_eq_some_iff.1 e2).1
 constructor
 ·unfold lK
  rw [Array.getElem?_extract,ak (by omega),xH,e1]
 ·unfold lK
  rw [Array.getElem?_extract,ak (by omega),e2]
theorem adD {P:Program} {w:World} {d:Nat} {xs ys:Array aj}:∀ fs:List Field,fs.all (fun f=>decide (f.name ≠ "_") && V3 P f.type)=true →
  (fs.map (fun f=>(f.offset,yY P f.type))).all (fun o=>(jR xs o).isSome && (jR ys o).isSome)=true→(Op.eqFields (d+2) xs ys fs).run P w=.ok ((fs.map (fun f=>(f.offset,yY P f.type))).all fun o=>jR xs o == jR ys o) w
 | [],_,_=>by simp [Op.eqFields]
 | f :: fs,h1,h2=>by
  simp only [List.all_cons,nK,lF,fG] at h1 h2
  obtain ⟨⟨hn,hk⟩,h1⟩:=h1
  obtain ⟨⟨hx,hy⟩,h2⟩:=h2
  have ih:=adD (w:=w) (d:=d) fs (by simpa using h1) h2
  have fin:∀ (x y:aj) (r:Bool),(part f.type xs f.offset).run P w=.ok x w→(part f.type ys f.offset).run P w=.ok y w→(Op.equalIn (d+2) f.type x y).run P w=.ok r w→(jR xs (f.offset,yY P f.type) == jR ys (f.offset,yY P f.type))=r →
    (Op.eqFields (d+2) xs ys (f :: fs)).run P w=.ok (((f :: fs).map (fun f=>(f.offset,yY P f.type))).all fun o=>jR xs o == jR ys o) w:=by
   intro x y r p1 p2 p3 p4
   simp only [Op.eqFields,hn,ne_eq,not_false_eq_true,if_true,dV,p1,p2,mR,p3,fG,List.all_cons,p4]
   cases r with
   | true=>simp [ih,List.all_map]
   | false=>simp
  unfold V3 at hk
  rcases hkd:yY P f.type with _|_|_|_|n
  ·rw [hkd] at hk hx hy
   have hu:P.underlying f.type=some (.int .i64):=by unfold yY at hkd;split at hkd <;> first|assumption|cases hkd
   obtain ⟨m,hm⟩:∃ m,lK xs f.offset=some m:=by cases h:lK xs f.offset with|some m=>exact ⟨m,rfl⟩|none=>simp [jR,h] at hx
   obtain ⟨m2,hm2⟩:∃ m,lK ys f.offset=some m:=by cases h:lK ys f.offset with|some m=>exact ⟨m,rfl⟩|none=>simp [jR,h] at hy
   refine fin _ _ _ (run_part_plain w hk (Oz hm)) (run_part_plain w hk (Oz hm2)) (run_equalIn_int w (d+1) f.type .i64 .i64 m m2 hu) ?_
   rw [hkd,nL]
   simp [jR,hm,hm2]
  ·rw [hkd] at hk hx hy
   have hu:P.underlying f.type=some .string:=by unfold yY at hkd;split at hkd <;> first|assumption|cases hkd
   obtain ⟨m,hm⟩:∃ m,xs[f.offset]?=some (.string m):=by
    simp only [jR] at hx
    split at hx
    ·rename_i s hs;exact ⟨s,hs⟩
    ·cases hx
   obtain ⟨m2,hm2⟩:∃ m,ys[f.offset]?=some (.string m):=by
    simp only [jR] at hy
    split at hy
    ·rename_i s hs;exact ⟨s,hs⟩
    ·cases hy
   refine fin _ _ _ (run_part_plain w hk hm) (run_part_plain w hk hm2) (run_equalIn_string w (d+1) f.type m m2 hu) ?_
   rw [hkd,nL]
   simp [jR,hm,hm2]
  ·rw [hkd] at hk hx hy
   obtain ⟨gs,hu⟩:∃ gs,P.underlying f.type=some (.struct gs):=by
    unfold yY at hkd
    split at hkd
    ·cases hkd
    ·cases hkd
    ·rename_i gs hg;exact ⟨gs,hg⟩
    ·cases hkd
    ·cases hkd
   simp only [acQ,nK,vI,lF] at hk
   obtain ⟨⟨⟨⟨k1,k2⟩,k3⟩,k4⟩,k5⟩:=hk
   obtain ⟨inf,aaL⟩:=Option.isSome_iff_exists.1 k5
   obtain ⟨a,b,ha,hb⟩:∃ a b,lK xs f.offset=some a∧lK xs (f.offset+1)=some b:=by
    simp only [jR] at hx
    split at hx
    ·rename_i a b h1 h2;exact ⟨a,b,h1,h2⟩
    ·cases hx
   obtain ⟨a',b',ha',hb'⟩:∃ a b,lK ys f.offset=some a∧lK ys (f.offset+1)=some b:=by
    simp only [jR] at hy
    split at hy
    ·rename_i a b h1 h2;exact ⟨a,b,h1,h2⟩
    ·cases hy
   obtain ⟨e1,e2⟩:=aah ha hb
   obtain ⟨e3,e4⟩:=aah ha' hb'
   have hq:=adC (P:=P) (w:=w) (d:=d) (xs:=xs.extract f.offset (f.offset+2)) (ys:=ys.extract f.offset (f.offset+2)) _ (by simpa only [kE,nK,lF] using k3) (by rw [k2];simp [e1,e2,e3,e4])
   rw [k2] at hq
   refine fin _ _ _ (adH w hu aaL k4 xs f.offset) (adH w hu aaL k4 ys f.offset) ((run_equalIn_struct w (d+1) f.type _ _ (atF hu) k1).trans hq) ?_
   rw [hkd,nL]
   simp [jR,ha,hb,ha',hb',e1,e2,e3,e4]
  ·rw [hkd] at hk hx hy
   have hu:P.underlying f.type=some .bool:=by unfold yY at hkd;split at hkd <;> first|assumption|cases hkd
   obtain ⟨m,hm⟩:∃ m,xs[f.offset]?=some (.bool m):=by
    simp only [jR] at hx
    split at hx
    ·rename_i s hs;exact ⟨s,hs⟩
    ·cases hx
   obtain ⟨m2,hm2⟩:∃ m,ys[f.offset]?=some (.bool m):=by
    simp only [jR] at hy
    split at hy
    ·rename_i s hs;exact ⟨s,hs⟩
    ·cases hy
   refine fin _ _ _ (run_part_plain w hk hm) (run_part_plain w hk hm2) (run_equalIn_bool' w (d+1) f.type m m2 hu) ?_
   rw [hkd,nL]
   cases m <;> cases m2 <;> simp [jR,hm,hm2]
  ·rw [hkd] at hk;cases hk
section
variable {N:Nat} {D:List Deferred} {w0:World} {F:Nat→Prop} {G0 G:GH} {L:List (Nat × Obj)} {T:List (Nat × aj)}
variable {r:Option Nat} {P:Program} {ops:Array Oper} {Q:Exit→Act→World→Prop} {rest:List Oper} {a:Act} {w:World}
variable {d:Nat} {ty:TypeId} {pos:String} {aO:Array Edge} {g:Option (Nat × Bool)}
theorem Qu {t yt:TypeId} {yg:List (Nat × Nat)} (he:JZ P t yg) {x y:Operand} {xs ys:Array aj} (H:St N D w0 F G0 G L T a w) (hw:Region.wanted ⟨some d,.binOp .neq t x y yt,ty,pos,aO,g⟩ (yielded ops a.tmps)=true) (hx:ev T x=some (.agg xs)) (hy:ev T y=some (.agg ys))
  (hi:yg.all (fun o=>(jR xs o).isSome && (jR ys o).isSome)=true) (hd:Nat.blt d N=true)
  (k:∀ a',St N D w0 F G0 G L ((d,.bool (!(yg.all fun o=>jR xs o == jR ys o))) :: T) a' w→WL r P ops Q rest a' w):WL r P ops Q (⟨some d,.binOp .neq t x y yt,ty,pos,aO,g⟩ :: rest) a w:=by
 have h1:=adD (P:=P) (w:=w) (d:=9997) (xs:=xs) (ys:=ys) _ he.ok (by rw [he.Em];exact hi)
 rw [he.Em] at h1
 refine fF (v:=.bool (!(yg.all fun o=>jR xs o == jR ys o))) (w':=w) hw rfl ?_ (k _ (H.put hd _ H.hp))
 simp only [execOp,H.ev hx,H.ev hy,dV,run_eqGuard_agg w .neq t x y xs ys he.guard,mR,run_neq_struct,run_equalIn_struct w 9999 t xs ys he.und he.held,h1]
 rfl
end
end
theorem ajN:∀ args w,(callFunc 50 args).run prog w=.ok (.enter 50 args) w:=enters func50 rfl (by kernel_rfl)
theorem ahL:∀ args w,(callFunc 107 args).run prog w=.ok (.enter 107 args) w:=enters func107 rfl (by kernel_rfl)
theorem ahJ:∀ args w,(callFunc 105 args).run prog w=.ok (.enter 105 args) w:=enters func105 rfl (by kernel_rfl)
theorem ajM:∀ args w,(callFunc 49 args).run prog w=.ok (.enter 49 args) w:=enters func49 rfl (by kernel_rfl)
theorem ahK:∀ args w,(callFunc 106 args).run prog w=.ok (.enter 106 args) w:=enters func106 rfl (by kernel_rfl)
theorem NM (p q:ByteArray):p.toList=q.toList↔p=q:=by
 rw [← bytes_beq,beq_iff_eq]
theorem bL.eq_iff (a b:bL):(a.id=b.id∧a.author=b.author∧a.time=b.time)↔a=b:=by cases a;cases b;simp
theorem jH.eq_iff (a b:jH):(a.fmt=b.fmt∧a.start=b.start∧a.yC=b.yC∧a.restart=b.restart)↔a=b:=by cases a;cases b;simp
theorem fM.eq_iff (a b:fM):(a.id=b.id∧a.parent=b.parent∧a.author=b.author∧a.time=b.time∧a.text=b.text∧a.done=b.done)↔a=b:=by cases a;cases b;simp
theorem iT.eq_iff (a b:iT):(a.name=b.name∧a.value=b.value)↔a=b:=by cases a;cases b;simp
theorem eD.eq_iff (a b:eD):(a.id=b.id∧a.levels=b.levels)↔a=b:=by cases a;cases b;simp
theorem bU.eq_iff (a b:bU):(((((a.id=b.id∧a.kind=b.kind)∧a.name=b.name)∧a.base=b.base)∧a.next=b.next)∧a.props=b.props)↔a=b:=by cases a;cases b;simp [and_assoc]
instance:DecidableEq bL:=fun a b=>decidable_of_iff _ (bL.eq_iff a b)
instance:DecidableEq jH:=fun a b=>decidable_of_iff _ (jH.eq_iff a b)
instance:DecidableEq fM:=fun a b=>decidable_of_iff _ (fM.eq_iff a b)
instance:DecidableEq iT:=fun a b=>decidable_of_iff _ (iT.eq_iff a b)
theorem akx:JZ prog 102 [(0,0),(1,1),(2,0)]:=⟨by kernel_rfl,by kernel_rfl,by kernel_rfl,by kernel_rfl,by kernel_rfl⟩
theorem akw:JZ prog 96 [(0,0),(1,0),(2,1),(3,0)]:=⟨by kernel_rfl,by kernel_rfl,by kernel_rfl,by kernel_rfl,by kernel_rfl⟩
theorem akv:JZ prog 107 [(0,0),(1,0),(2,1),(3,0),(4,1),(5,3)]:=⟨by kernel_rfl,by kernel_rfl,by kernel_rfl,by kernel_rfl,by kernel_rfl⟩
theorem aky:JZ prog 110 [(0,1),(1,1)]:=⟨by kernel_rfl,by kernel_rfl,by kernel_rfl,by kernel_rfl,by kernel_rfl⟩
theorem asr (a b:bL):([(0,0),(1,1),(2,0)].all fun o=>jR (bL.cells a).toArray o == jR (bL.cells b).toArray o)=decide (a=b):=by
 rw [nL,decide_eq_true_iff,← bL.eq_iff]
 simp [jR,lK,NM]
theorem asq (a b:jH):([(0,0),(1,0),(2,1),(3,0)].all fun o=>jR (jH.cells a).toArray o == jR (jH.cells b).toArray o)=decide (a=b):=by
 rw [nL,decide_eq_true_iff,← jH.eq_iff]
 simp [jR,lK,NM]
theorem aso (a b:fM):([(0,0),(1,0),(2,1),(3,0),(4,1),(5,3)].all fun o=>jR (fM.cells a).toArray o == jR (fM.cells b).toArray o)=decide (a=b):=by
 rw [nL,decide_eq_true_iff,← fM.eq_iff]
 cases ha:a.done <;> cases hb:b.done <;> simp [jR,lK,NM,ha,hb]
theorem asu (a b:iT):([(0,1),(1,1)].all fun o=>jR (iT.cells a).toArray o == jR (iT.cells b).toArray o)=decide (a=b):=by
 rw [nL,decide_eq_true_iff,← iT.eq_iff]
 simp [jR,lK,NM]
theorem akE (G:GH) (w0:World) (hG:Hold G w0) (A B:List bL) (v u:aj) (hv:au G (.sl 3 (A.map bL.dat)) v) (hu:au G (.sl 3 (B.map bL.dat)) u) :
  Calls prog 53 #[v,u] w0 (bB w0 G fun r G'=>r=.bool (decide (A=B))):=by
 obtain ⟨vA,vc,rfl,hc1,hc2,hg⟩:=hv.slice;obtain ⟨uA,uc,rfl,hd1,hd2,hh⟩:=hu.slice;have hml:maxLen=9223372036854775807:=rfl;(iterate 2 rw [bO] at *);refine eN [(0,_),(1,_)] func53 rfl ntmps53 rfl rfl hG ?_;refine goB 11 ?_ ?_
 ·intro iU
  refine bP 3 ?_;exact (dG (jf fun e=>absurd (aB List.length e) (by omega)).symm)
 intro iU
 refine av 8 ?_;intro a H;refine eH (ι:=Nat × GH) (Tc:=[(0,_),(1,_),(12,_)]) (Lc:=[]) (fun gh=>[(13,vi gh.1)]) (fun gh=>[]) (fun gh=>gh.2) (fun gh=>gh.1≤A.length∧A.take gh.1=B.take gh.1∧(∀ b o,G b=some o→gh.2 b=some o)) (fun gh=>A.length - gh.1) ((0,G)) sB ?_ ?_
 ·exact ⟨by omega,rfl,fun _ _ h=>h⟩
 clear H;rintro ⟨k,g⟩ a w hI H;dsimp only at hI H;obtain ⟨hk,hsame,hgm⟩:=hI;dsimp only [lca,bK] at H;refine iI 4 H ?_ ?_ <;> clear H
 ·intro lN
  have hk2:k < A.length:=by omega
  have hk3:k < B.length:=by omega
  obtain ⟨b1,o1,cs1,rfl,zW,pI,hr1⟩:=hg k A[k].dat (by simp [hk2]);obtain rfl:=JG hr1;obtain ⟨b2,o2,cs2,rfl,zX,hrow2,hr2⟩:=hh k B[k].dat (by simp [hk3]);obtain rfl:=JG hr2;refine av 8 ?_;intro a H;refine dI hmx [[],[],[0,1],[0,1,2],[],[],[4,5],[4,5,6],(ra 0 8)] [] (by kernel_rfl) [_,_,_,.agg (bL.cells A[k]).toArray,_,_,_,.agg (bL.cells B[k]).toArray,.bool (!decide (A[k]=B[k]))] H (aD (Z0 rfl (Rm rfl)) (Z0 rfl (Rm rfl)) (Z2 0 16 1 17 rfl (Ri nQ mP rfl rfl)) ?_ (aD (Z0 rfl (Rm rfl)) (Z0 rfl (Rm rfl)) (Z2 4 20 5 21 rfl (Ri nQ mP rfl rfl)) ?_ (bM ?_ cO))) ?_
  ·refine eu 2 18 rfl rfl fun _ a w G1 hG HT H fin=>?_;refine aR mP (cs:=bL.cells A[k]) H wn rfl rfl (fun j v hj=>H.hp.aH (aG hG (aG hgm (pI j v hj)))) rfl ?_;clear H;intro a H;exact fin H iJ rfl
  ·refine eu 6 22 rfl rfl fun _ a w G1 hG HT H fin=>?_;refine aR mP (cs:=bL.cells B[k]) H wn rfl rfl (fun j v hj=>H.hp.aH (aG hG (aG hgm (hrow2 j v hj)))) rfl ?_;clear H;intro a H;exact fin H iJ rfl
  ·refine dL 3 19 7 23 rfl rfl fun _ a w G1 hG HT H fin=>?_;refine Qu akx H wn rfl rfl rfl rfl ?_;clear H;intro a H;exact fin H iJ (aB (fun b=>Value.bool !b) (asr A[k] B[k]))
  clear H;intro a w G gM H hv;have H:=H.aN (hv 8 24 rfl rfl) rfl;clear hv;refine t0 1 H ?_;clear H;refine goC 0 ?_ ?_
  ·intro fq
   refine bP 3 ?_;exact (dG (jf fun e=>absurd fq (by subst e;simp)).symm)
  intro fq
  try have jT:=dF fq
  have hsm:A[k]=B[k]:=by simpa using fq
  refine av 4 ?_;intro a H;refine aC ?_;refine dx ((k+1,G)) sB ?_
  (try dsimp only);exact ⟨by omega,by rw [fV hk2,fV hk3,hsame,hsm],fun b o h=>gM b o (hgm b o h)⟩
 intro lN
 refine bP 4 ?_;exact (dG (iO (by rw [gu (by omega),gu (by omega)] at hsame;exact hsame)).symm)
theorem akD (G:GH) (w0:World) (hG:Hold G w0) (A B:List jH) (v u:aj) (hv:au G (.sl 4 (A.map jH.dat)) v) (hu:au G (.sl 4 (B.map jH.dat)) u) :
  Calls prog 50 #[v,u] w0 (bB w0 G fun r G'=>r=.bool (decide (A=B))):=by
 obtain ⟨vA,vc,rfl,hc1,hc2,hg⟩:=hv.slice;obtain ⟨uA,uc,rfl,hd1,hd2,hh⟩:=hu.slice;have hml:maxLen=9223372036854775807:=rfl;(iterate 2 rw [bO] at *);refine eN [(0,_),(1,_)] func50 rfl ntmps50 rfl rfl hG ?_;refine goB 11 ?_ ?_
 ·intro iU
  refine bP 3 ?_;exact (dG (jf fun e=>absurd (aB List.length e) (by omega)).symm)
 intro iU
 refine av 8 ?_;intro a H;refine eH (ι:=Nat × GH) (Tc:=[(0,_),(1,_),(12,_)]) (Lc:=[]) (fun gh=>[(13,vi gh.1)]) (fun gh=>[]) (fun gh=>gh.2) (fun gh=>gh.1≤A.length∧A.take gh.1=B.take gh.1∧(∀ b o,G b=some o→gh.2 b=some o)) (fun gh=>A.length - gh.1) ((0,G)) sB ?_ ?_
 ·exact ⟨by omega,rfl,fun _ _ h=>h⟩
 clear H;rintro ⟨k,g⟩ a w hI H;dsimp only at hI H;obtain ⟨hk,hsame,hgm⟩:=hI;dsimp only [lca,bK] at H;refine iI 4 H ?_ ?_ <;> clear H
 ·intro lN
  have hk2:k < A.length:=by omega
  have hk3:k < B.length:=by omega
  obtain ⟨b1,o1,cs1,rfl,zW,pI,hr1⟩:=hg k A[k].dat (by simp [hk2]);obtain rfl:=VJ hr1;obtain ⟨b2,o2,cs2,rfl,zX,hrow2,hr2⟩:=hh k B[k].dat (by simp [hk3]);obtain rfl:=VJ hr2;refine av 8 ?_;intro a H;refine dI hmx [[],[],[0,1],[0,1,2],[],[],[4,5],[4,5,6],(ra 0 8)] [] (by kernel_rfl) [_,_,_,.agg (jH.cells A[k]).toArray,_,_,_,.agg (jH.cells B[k]).toArray,.bool (!decide (A[k]=B[k]))] H (aD (Z0 rfl (Rm rfl)) (Z0 rfl (Rm rfl)) (Z2 0 16 1 17 rfl (Ri Ay Av rfl rfl)) ?_ (aD (Z0 rfl (Rm rfl)) (Z0 rfl (Rm rfl)) (Z2 4 20 5 21 rfl (Ri Ay Av rfl rfl)) ?_ (bM ?_ cO))) ?_
  ·refine eu 2 18 rfl rfl fun _ a w G1 hG HT H fin=>?_;refine aR Av (cs:=jH.cells A[k]) H wn rfl rfl (fun j v hj=>H.hp.aH (aG hG (aG hgm (pI j v hj)))) rfl ?_;clear H;intro a H;exact fin H iJ rfl
  ·refine eu 6 22 rfl rfl fun _ a w G1 hG HT H fin=>?_;refine aR Av (cs:=jH.cells B[k]) H wn rfl rfl (fun j v hj=>H.hp.aH (aG hG (aG hgm (hrow2 j v hj)))) rfl ?_;clear H;intro a H;exact fin H iJ rfl
  ·refine dL 3 19 7 23 rfl rfl fun _ a w G1 hG HT H fin=>?_;refine Qu akw H wn rfl rfl rfl rfl ?_;clear H;intro a H;exact fin H iJ (aB (fun b=>Value.bool !b) (asq A[k] B[k]))
  clear H;intro a w G gM H hv;have H:=H.aN (hv 8 24 rfl rfl) rfl;clear hv;refine t0 1 H ?_;clear H;refine goC 0 ?_ ?_
  ·intro fq
   refine bP 3 ?_;exact (dG (jf fun e=>absurd fq (by subst e;simp)).symm)
  intro fq
  try have jT:=dF fq
  have hsm:A[k]=B[k]:=by simpa using fq
  refine av 4 ?_;intro a H;refine aC ?_;refine dx ((k+1,G)) sB ?_
  (try dsimp only);exact ⟨by omega,by rw [fV hk2,fV hk3,hsame,hsm],fun b o h=>gM b o (hgm b o h)⟩
 intro lN
 refine bP 4 ?_;exact (dG (iO (by rw [gu (by omega),gu (by omega)] at hsame;exact hsame)).symm)
theorem akC (G:GH) (w0:World) (hG:Hold G w0) (A B:List fM) (v u:aj) (hv:au G (.sl 6 (A.map fM.dat)) v) (hu:au G (.sl 6 (B.map fM.dat)) u) :
  Calls prog 56 #[v,u] w0 (bB w0 G fun r G'=>r=.bool (decide (A=B))):=by
 obtain ⟨vA,vc,rfl,hc1,hc2,hg⟩:=hv.slice;obtain ⟨uA,uc,rfl,hd1,hd2,hh⟩:=hu.slice;have hml:maxLen=9223372036854775807:=rfl;(iterate 2 rw [bO] at *);refine eN [(0,_),(1,_)] func56 rfl ntmps56 rfl rfl hG ?_;refine goB 11 ?_ ?_
 ·intro iU
  refine bP 3 ?_;exact (dG (jf fun e=>absurd (aB List.length e) (by omega)).symm)
 intro iU
 refine av 8 ?_;intro a H;refine eH (ι:=Nat × GH) (Tc:=[(0,_),(1,_),(12,_)]) (Lc:=[]) (fun gh=>[(13,vi gh.1)]) (fun gh=>[]) (fun gh=>gh.2) (fun gh=>gh.1≤A.length∧A.take gh.1=B.take gh.1∧(∀ b o,G b=some o→gh.2 b=some o)) (fun gh=>A.length - gh.1) ((0,G)) sB ?_ ?_
 ·exact ⟨by omega,rfl,fun _ _ h=>h⟩
 clear H;rintro ⟨k,g⟩ a w hI H;dsimp only at hI H;obtain ⟨hk,hsame,hgm⟩:=hI;dsimp only [lca,bK] at H;refine iI 4 H ?_ ?_ <;> clear H
 ·intro lN
  have hk2:k < A.length:=by omega
  have hk3:k < B.length:=by omega
  obtain ⟨b1,o1,cs1,rfl,zW,pI,hr1⟩:=hg k A[k].dat (by simp [hk2]);obtain rfl:=NU hr1;obtain ⟨b2,o2,cs2,rfl,zX,hrow2,hr2⟩:=hh k B[k].dat (by simp [hk3]);obtain rfl:=NU hr2;refine av 8 ?_;intro a H;refine dI hmx [[],[],[0,1],[0,1,2],[],[],[4,5],[4,5,6],(ra 0 8)] [] (by kernel_rfl) [_,_,_,.agg (fM.cells A[k]).toArray,_,_,_,.agg (fM.cells B[k]).toArray,.bool (!decide (A[k]=B[k]))] H (aD (Z0 rfl (Rm rfl)) (Z0 rfl (Rm rfl)) (Z2 0 16 1 17 rfl (Ri xD wD rfl rfl)) ?_ (aD (Z0 rfl (Rm rfl)) (Z0 rfl (Rm rfl)) (Z2 4 20 5 21 rfl (Ri xD wD rfl rfl)) ?_ (bM ?_ cO))) ?_
  ·refine eu 2 18 rfl rfl fun _ a w G1 hG HT H fin=>?_;refine aR wD (cs:=fM.cells A[k]) H wn rfl rfl (fun j v hj=>H.hp.aH (aG hG (aG hgm (pI j v hj)))) rfl ?_;clear H;intro a H;exact fin H iJ rfl
  ·refine eu 6 22 rfl rfl fun _ a w G1 hG HT H fin=>?_;refine aR wD (cs:=fM.cells B[k]) H wn rfl rfl (fun j v hj=>H.hp.aH (aG hG (aG hgm (hrow2 j v hj)))) rfl ?_;clear H;intro a H;exact fin H iJ rfl
  ·refine dL 3 19 7 23 rfl rfl fun _ a w G1 hG HT H fin=>?_;refine Qu akv H wn rfl rfl rfl rfl ?_;clear H;intro a H;exact fin H iJ (aB (fun b=>Value.bool !b) (aso A[k] B[k]))
  clear H;intro a w G gM H hv;have H:=H.aN (hv 8 24 rfl rfl) rfl;clear hv;refine t0 1 H ?_;clear H;refine goC 0 ?_ ?_
  ·intro fq
   refine bP 3 ?_;exact (dG (jf fun e=>absurd fq (by subst e;simp)).symm)
  intro fq
  try have jT:=dF fq
  have hsm:A[k]=B[k]:=by simpa using fq
  refine av 4 ?_;intro a H;refine aC ?_;refine dx ((k+1,G)) sB ?_
  (try dsimp only);exact ⟨by omega,by rw [fV hk2,fV hk3,hsame,hsm],fun b o h=>gM b o (hgm b o h)⟩
 intro lN
 refine bP 4 ?_;exact (dG (iO (by rw [gu (by omega),gu (by omega)] at hsame;exact hsame)).symm)
theorem akF (G:GH) (w0:World) (hG:Hold G w0) (A B:List iT) (v u:aj) (hv:au G (.sl 2 (A.map iT.dat)) v) (hu:au G (.sl 2 (B.map iT.dat)) u) :
  Calls prog 57 #[v,u] w0 (bB w0 G fun r G'=>r=.bool (decide (A=B))):=by
 obtain ⟨vA,vc,rfl,hc1,hc2,hg⟩:=hv.slice;obtain ⟨uA,uc,rfl,hd1,hd2,hh⟩:=hu.slice;have hml:maxLen=9223372036854775807:=rfl;(iterate 2 rw [bO] at *);refine eN [(0,_),(1,_)] func57 rfl ntmps57 rfl rfl hG ?_;refine goB 11 ?_ ?_
 ·intro iU
  refine bP 3 ?_;exact (dG (jf fun e=>absurd (aB List.length e) (by omega)).symm)
 intro iU
 refine av 8 ?_;intro a H;refine eH (ι:=Nat × GH) (Tc:=[(0,_),(1,_),(12,_)]) (Lc:=[]) (fun gh=>[(13,vi gh.1)]) (fun gh=>[]) (fun gh=>gh.2) (fun gh=>gh.1≤A.length∧A.take gh.1=B.take gh.1∧(∀ b o,G b=some o→gh.2 b=some o)) (fun gh=>A.length - gh.1) ((0,G)) sB ?_ ?_
 ·exact ⟨by omega,rfl,fun _ _ h=>h⟩
 clear H;rintro ⟨k,g⟩ a w hI H;dsimp only at hI H;obtain ⟨hk,hsame,hgm⟩:=hI;dsimp only [lca,bK] at H;refine iI 4 H ?_ ?_ <;> clear H
 ·intro lN
  have hk2:k < A.length:=by omega
  have hk3:k < B.length:=by omega
  obtain ⟨b1,o1,cs1,rfl,zW,pI,hr1⟩:=hg k A[k].dat (by simp [hk2]);obtain rfl:=Xd hr1;obtain ⟨b2,o2,cs2,rfl,zX,hrow2,hr2⟩:=hh k B[k].dat (by simp [hk3]);obtain rfl:=Xd hr2;refine av 8 ?_;intro a H;refine dI hmx [[],[],[0,1],[0,1,2],[],[],[4,5],[4,5,6],(ra 0 8)] [] (by kernel_rfl) [_,_,_,.agg (iT.cells A[k]).toArray,_,_,_,.agg (iT.cells B[k]).toArray,.bool (!decide (A[k]=B[k]))] H (aD (Z0 rfl (Rm rfl)) (Z0 rfl (Rm rfl)) (Z2 0 16 1 17 rfl (Ri uE wE rfl rfl)) ?_ (aD (Z0 rfl (Rm rfl)) (Z0 rfl (Rm rfl)) (Z2 4 20 5 21 rfl (Ri uE wE rfl rfl)) ?_ (bM ?_ cO))) ?_
  ·refine eu 2 18 rfl rfl fun _ a w G1 hG HT H fin=>?_;refine aR wE (cs:=iT.cells A[k]) H wn rfl rfl (fun j v hj=>H.hp.aH (aG hG (aG hgm (pI j v hj)))) rfl ?_;clear H;intro a H;exact fin H iJ rfl
  ·refine eu 6 22 rfl rfl fun _ a w G1 hG HT H fin=>?_;refine aR wE (cs:=iT.cells B[k]) H wn rfl rfl (fun j v hj=>H.hp.aH (aG hG (aG hgm (hrow2 j v hj)))) rfl ?_;clear H;intro a H;exact fin H iJ rfl
  ·refine dL 3 19 7 23 rfl rfl fun _ a w G1 hG HT H fin=>?_;refine Qu aky H wn rfl rfl rfl rfl ?_;clear H;intro a H;exact fin H iJ (aB (fun b=>Value.bool !b) (asu A[k] B[k]))
  clear H;intro a w G gM H hv;have H:=H.aN (hv 8 24 rfl rfl) rfl;clear hv;refine t0 1 H ?_;clear H;refine goC 0 ?_ ?_
  ·intro fq
   refine bP 3 ?_;exact (dG (jf fun e=>absurd fq (by subst e;simp)).symm)
  intro fq
  try have jT:=dF fq
  have hsm:A[k]=B[k]:=by simpa using fq
  refine av 4 ?_;intro a H;refine aC ?_;refine dx ((k+1,G)) sB ?_
  (try dsimp only);exact ⟨by omega,by rw [fV hk2,fV hk3,hsame,hsm],fun b o h=>gM b o (hgm b o h)⟩
 intro lN
 refine bP 4 ?_;exact (dG (iO (by rw [gu (by omega),gu (by omega)] at hsame;exact hsame)).symm)
instance:DecidableEq eD:=fun a b=>decidable_of_iff _ (eD.eq_iff a b)
instance:DecidableEq bU:=fun a b=>decidable_of_iff _ (bU.eq_iff a b)
theorem PG {G:GH} {x:eD} {cs:List aj} (h:aV G x.dat cs):∃ A n c,cs=[vi x.id,.slice A n c]∧au G (.sl 4 (x.levels.map jH.dat)) (.slice A n c):=by
 obtain ⟨v1,vs,rfl,⟨rfl,-⟩,v2,vs2,rfl,h2,rfl⟩:=h;obtain ⟨A,n,c,rfl⟩:=au.form h2;exact ⟨A,n,c,rfl,h2⟩
theorem QC {G:GH} {x:bU} {cs:List aj} (h:aV G x.dat cs):∃ A n c,cs=[vi x.id,vi x.kind,.string x.name,vi x.base,vi x.next,.slice A n c]∧au G (.sl 2 (x.props.map aS.dat)) (.slice A n c):=by
 obtain ⟨A,c,h1,h2⟩:=ML h;exact ⟨A,_,c,h1,h2⟩
theorem akt (G:GH) (w0:World) (hG:Hold G w0) (A B:List eD) (v u fv:aj) (hv:au G (.sl 2 (A.map eD.dat)) v) (hu:au G (.sl 2 (B.map eD.dat)) u) (hf:∀ (i:Nat) (h1:i < A.length) (h2:i < B.length),AB fv G A[i].dat B[i].dat (A[i]=B[i])) :
  Calls prog 55 #[v,u,fv] w0 (bB w0 G fun r G'=>∃ b,r=.bool b∧(b=true↔A=B)):=by
 obtain ⟨vA,vc,rfl,hc1,hc2,hg⟩:=hv.slice;obtain ⟨uA,uc,rfl,hd1,hd2,hh⟩:=hu.slice;have hml:maxLen=9223372036854775807:=rfl;(iterate 2 rw [bO] at *);refine eN [(0,_),(1,_),(2,_)] func55 rfl ntmps55 rfl rfl hG ?_;refine goB 11 ?_ ?_
 ·intro lN
  refine bP 3 ?_;exact ⟨false,rfl,by simp only [tJ,false_iff];exact fun e=>absurd (aB List.length e) (by omega)⟩
 intro lN
 refine av 8 ?_;intro a H;refine eH (ι:=Nat × GH) (Tc:=[(1,_),(2,_),(15,_),(16,_)]) (Lc:=[]) (fun gh=>[(17,vi gh.1)]) (fun gh=>[]) (fun gh=>gh.2) (fun gh=>gh.1≤A.length∧A.take gh.1=B.take gh.1∧(∀ b o,G b=some o→gh.2 b=some o)) (fun gh=>A.length - gh.1) ((0,G)) sB ?_ ?_
 ·exact ⟨by omega,rfl,fun _ _ h=>h⟩
 clear H;rintro ⟨k,g⟩ a w hI H;dsimp only at hI H;obtain ⟨hk,hsame,hgm⟩:=hI;dsimp only [lca,bK] at H;refine iI 4 H ?_ ?_ <;> clear H
 ·intro sF
  have hk2:k < A.length:=by omega
  have hk3:k < B.length:=by omega
  obtain ⟨b1,o1,cs1,rfl,zW,pI,hr1⟩:=hg k A[k].dat (by simp [hk2]);obtain ⟨pA,pn,pc,rfl,-⟩:=PG hr1;obtain ⟨b2,o2,cs2,rfl,zX,hrow2,hr2⟩:=hh k B[k].dat (by simp [hk3]);obtain ⟨qA,qn,qc,rfl,-⟩:=PG hr2;refine av 6 ?_;intro a H;refine aR sH (cs:=_) H wn rfl rfl (fun j v hj=>H.hp.aH (aG hgm (pI j v hj))) rfl ?_;clear H;intro a H;refine dJ sH H wn rfl ?_;clear H;intro b8 a w BA H;refine bJ 1 H ?_;clear H;intro a H;refine aY sH 0 (vs:=[_,_]) _ H wn rfl rfl rfl rfl rfl rfl rfl rfl ?_;clear H;intro w H;dsimp only [List.set,setRow] at H;refine bJ 5 H ?_;clear H;intro a H;refine aR sH (cs:=_) H wn rfl rfl (fun j v hj=>H.hp.aH (aG hgm (hrow2 j v hj))) rfl ?_;clear H;intro a H;refine dJ sH H wn rfl ?_;clear H;intro b9 a w uT H;refine aY sH 0 (vs:=[_,_]) _ H wn rfl rfl rfl rfl rfl rfl rfl rfl ?_;clear H;intro w H;dsimp only [List.set,setRow] at H;refine bJ 3 H ?_;clear H;intro a H;refine aR sH (cs:=[_,_]) H wn rfl rfl (H.hp.bT 1 rfl rfl) rfl ?_;clear H;intro a H;refine aR sH (cs:=[_,_]) H wn rfl rfl (H.hp.bT 0 rfl rfl) rfl ?_;clear H;intro a H;refine jF H wn rfl rfl (hf k hk2 hk3 _ _ _ _ hgm H.ro (hr1.mono hgm) (hr2.mono hgm)) rfl ?_;clear H;rintro v29 yI a w ⟨NI,rfl,wS⟩ yU H;refine lW 2 H ?_ ?_ <;> clear H
  ·intro mY
   refine bP 3 ?_;exact ⟨false,rfl,by simp only [tJ,false_iff];rintro rfl;exact absurd (wS.2 rfl) (by simpa using mY)⟩
  intro mY
  try have p30:=dF mY
  refine av 4 ?_;intro a H;refine aC ?_;refine dx ((k+1,yI)) (by exact (H.dX (Pl:=[_,_]) (dN:=[]) [] (by decide) rfl).sub ⟨rfl,rfl,rfl,rfl,rfl,aL⟩) ?_
  (try dsimp only);exact ⟨by omega,by rw [fV hk2,fV hk3,hsame,wS.1 (by simpa using mY)],fun b o h=>yU b o (hgm b o h)⟩
 intro sF
 refine bP 4 ?_;exact ⟨true,rfl,by rw [gu (by omega),gu (by omega)] at hsame;simpa using hsame⟩
theorem aku (G:GH) (w0:World) (hG:Hold G w0) (A B:List bU) (v u fv:aj) (hv:au G (.sl 6 (A.map bU.dat)) v) (hu:au G (.sl 6 (B.map bU.dat)) u) (hf:∀ (i:Nat) (h1:i < A.length) (h2:i < B.length),AB fv G A[i].dat B[i].dat (A[i]=B[i])) :
  Calls prog 105 #[v,u,fv] w0 (bB w0 G fun r G'=>∃ b,r=.bool b∧(b=true↔A=B)):=by
 obtain ⟨vA,vc,rfl,hc1,hc2,hg⟩:=hv.slice;obtain ⟨uA,uc,rfl,hd1,hd2,hh⟩:=hu.slice;have hml:maxLen=9223372036854775807:=rfl;(iterate 2 rw [bO] at *);refine eN [(0,_),(1,_),(2,_)] func105 rfl ntmps105 rfl rfl hG ?_;refine goB 11 ?_ ?_
 ·intro lN
  refine bP 3 ?_;exact ⟨false,rfl,by simp only [tJ,false_iff];exact fun e=>absurd (aB List.length e) (by omega)⟩
 intro lN
 refine av 8 ?_;intro a H;refine eH (ι:=Nat × GH) (Tc:=[(1,_),(2,_),(15,_),(16,_)]) (Lc:=[]) (fun gh=>[(17,vi gh.1)]) (fun gh=>[]) (fun gh=>gh.2) (fun gh=>gh.1≤A.length∧A.take gh.1=B.take gh.1∧(∀ b o,G b=some o→gh.2 b=some o)) (fun gh=>A.length - gh.1) ((0,G)) sB ?_ ?_
 ·exact ⟨by omega,rfl,fun _ _ h=>h⟩
 clear H;rintro ⟨k,g⟩ a w hI H;dsimp only at hI H;obtain ⟨hk,hsame,hgm⟩:=hI;dsimp only [lca,bK] at H;refine iI 4 H ?_ ?_ <;> clear H
 ·intro sF
  have hk2:k < A.length:=by omega
  have hk3:k < B.length:=by omega
  obtain ⟨b1,o1,cs1,rfl,zW,pI,hr1⟩:=hg k A[k].dat (by simp [hk2]);obtain ⟨pA,pn,pc,rfl,-⟩:=QC hr1;obtain ⟨b2,o2,cs2,rfl,zX,hrow2,hr2⟩:=hh k B[k].dat (by simp [hk3]);obtain ⟨qA,qn,qc,rfl,-⟩:=QC hr2;refine av 6 ?_;intro a H;refine aR jK (cs:=_) H wn rfl rfl (fun j v hj=>H.hp.aH (aG hgm (pI j v hj))) rfl ?_;clear H;intro a H;refine dJ jK H wn rfl ?_;clear H;intro b8 a w BA H;refine bJ 1 H ?_;clear H;intro a H;refine aY jK 0 (vs:=[_,_,_,_,_,_]) _ H wn rfl rfl rfl rfl rfl rfl rfl rfl ?_;clear H;intro w H;dsimp only [List.set,setRow] at H;refine bJ 5 H ?_;clear H;intro a H;refine aR jK (cs:=_) H wn rfl rfl (fun j v hj=>H.hp.aH (aG hgm (hrow2 j v hj))) rfl ?_;clear H;intro a H;refine dJ jK H wn rfl ?_;clear H;intro b9 a w uT H;refine aY jK 0 (vs:=[_,_,_,_,_,_]) _ H wn rfl rfl rfl rfl rfl rfl rfl rfl ?_;clear H;intro w H;dsimp only [List.set,setRow] at H;refine bJ 3 H ?_;clear H;intro a H;refine aR jK (cs:=[_,_,_,_,_,_]) H wn rfl rfl (H.hp.bT 1 rfl rfl) rfl ?_;clear H;intro a H;refine aR jK (cs:=[_,_,_,_,_,_]) H wn rfl rfl (H.hp.bT 0 rfl rfl) rfl ?_;clear H;intro a H;refine jF H wn rfl rfl (hf k hk2 hk3 _ _ _ _ hgm H.ro (hr1.mono hgm) (hr2.mono hgm)) rfl ?_;clear H;rintro v29 yI a w ⟨NI,rfl,wS⟩ yU H;refine lW 2 H ?_ ?_ <;> clear H
  ·intro mY
   refine bP 3 ?_;exact ⟨false,rfl,by simp only [tJ,false_iff];rintro rfl;exact absurd (wS.2 rfl) (by simpa using mY)⟩
  intro mY
  try have p30:=dF mY
  refine av 4 ?_;intro a H;refine aC ?_;refine dx ((k+1,yI)) (by exact (H.dX (Pl:=[_,_]) (dN:=[]) [] (by decide) rfl).sub ⟨rfl,rfl,rfl,rfl,rfl,aL⟩) ?_
  (try dsimp only);exact ⟨by omega,by rw [fV hk2,fV hk3,hsame,wS.1 (by simpa using mY)],fun b o h=>yU b o (hgm b o h)⟩
 intro sF
 refine bP 4 ?_;exact ⟨true,rfl,by rw [gu (by omega),gu (by omega)] at hsame;simpa using hsame⟩
theorem akn (G:GH) (x y:eD):AB (.func (.func 49) #[] #[]) G x.dat y.dat (x=y):=by
 intro G1 w0 cs cs' hm hG h1 h2;refine jo (caps:=[]) ajM ?_;obtain ⟨pA,pn,pc,rfl,hp1⟩:=PG h1;obtain ⟨qA,qn,qc,rfl,hp2⟩:=PG h2;have he:=eD.eq_iff x y;refine eN [(0,_),(1,_)] func49 rfl ntmps49 rfl rfl hG ?_;refine av 1 ?_;intro a H;refine dW (cs:=[_,_]) H wn rfl rfl rfl ?_;clear H;intro b2 a w hb2 H;refine dW (cs:=[_,_]) H wn rfl rfl rfl ?_;clear H;intro b3 a w hb3 H;refine qd 9 10 H ?_ ?_ <;> clear H
 ·intro h10
  try have iU:=dT h10
  refine av 4 ?_;intro a H;refine s_call ajN H (wg H rfl rfl h10) rfl (akD _ _ H.ro x.levels y.levels _ _ hp1 hp2) rfl ?_;clear H;rintro v15 Cn a w rfl BD H;refine kJ 3 H ?_;exact ⟨_,rfl,by rw [← he];simp_all⟩
 intro h10
 try have iU:=dF h10
 refine bP 8 ?_;exact ⟨_,rfl,by rw [← he];simp_all⟩
theorem ako (G:GH) (w0:World) (hG:Hold G w0) (A B:List aS) (v u:aj) (hv:au G (.sl 2 (A.map aS.dat)) v) (hu:au G (.sl 2 (B.map aS.dat)) u) :
  Calls prog 107 #[v,u] w0 (bB w0 G fun r G'=>r=.bool (decide (A=B))):=by
 refine eN [(0,_),(1,_)] func107 rfl ntmps107 rfl rfl hG ?_;refine av 6 ?_;intro a H;refine s_call Za H wn rfl (ZF _ _ H.ro A B _ _ hv hu) rfl ?_;clear H;rintro v7 G7 a w rfl BH H;refine kJ 2 H ?_;exact rfl
theorem akr (G:GH) (x y:bU):AB (.func (.func 106) #[] #[]) G x.dat y.dat (x=y):=by
 intro G1 w0 cs cs' hm hG h1 h2;refine jo (caps:=[]) ahK ?_;obtain ⟨pA,pn,pc,rfl,hp1⟩:=QC h1;obtain ⟨qA,qn,qc,rfl,hp2⟩:=QC h2;have he:=bU.eq_iff x y;refine eN [(0,_),(1,_)] func106 rfl ntmps106 rfl rfl hG ?_;refine av 1 ?_;intro a H;refine dW (cs:=[_,_,_,_,_,_]) H wn rfl rfl rfl ?_;clear H;intro b2 a w hb2 H;refine dW (cs:=[_,_,_,_,_,_]) H wn rfl rfl rfl ?_;clear H;intro b3 a w hb3 H;refine sS 9 10 H ?_ ?_ <;> clear H
 ·intro iU
  refine mX 7 17 ?_ ?_
  ·intro eT
   try have jZ:=dT eT
   refine av 4 ?_;intro a H;refine BZ H (wg H rfl rfl eT) rfl rfl rfl ?_;clear H;intro a H;rw [show (x.name.toList == y.name.toList)=decide (x.name=y.name) by rw [nL,bytes_beq,decide_eq_true_iff]] at H;refine sS 2 24 H ?_ ?_ <;> clear H
   ·intro jT
    refine qJ 7 31 ?_ ?_
    ·intro p31
     refine mX 7 38 ?_ ?_
     ·intro kC
      try have p38:=dT kC
      refine av 4 ?_;intro a H;refine s_call ahL H (wg H rfl rfl kC) rfl (ako _ _ H.ro x.props y.props _ _ hp1 hp2) rfl ?_;clear H;rintro v43 J6 a w rfl CY H;refine kJ 3 H ?_;exact ⟨_,rfl,by rw [← he];simp_all⟩
     intro kC
     try have p38:=dF kC
     refine bP 8 ?_;exact ⟨_,rfl,by rw [← he];simp_all⟩
    intro p31
    refine bP 15 ?_;exact ⟨_,rfl,by rw [← he];simp_all⟩
   intro jT
   refine bP 22 ?_;exact ⟨_,rfl,by rw [← he];simp_all⟩
  intro eT
  try have jZ:=dF eT
  refine bP 29 ?_;exact ⟨_,rfl,by rw [← he];simp_all⟩
 intro iU
 refine bP 36 ?_;exact ⟨_,rfl,by rw [← he];simp_all⟩
theorem akq (G:GH) (w0:World) (hG:Hold G w0) (A B:List bU) (v u:aj) (hv:au G (.sl 6 (A.map bU.dat)) v) (hu:au G (.sl 6 (B.map bU.dat)) u) :
  Calls prog 54 #[v,u] w0 (bB w0 G fun r G'=>∃ b,r=.bool b∧(b=true↔A=B)):=by
 refine eN [(0,_),(1,_)] func54 rfl ntmps54 rfl rfl hG ?_;refine av 6 ?_;intro a H;refine s_call ahJ H wn rfl (aku _ _ H.ro A B _ _ _ hv hu (fun i h1 h2=>akr _ _ _)) rfl ?_;clear H;rintro v7 G7 a w ⟨b7,rfl,wT⟩ BH H;refine kJ 2 H ?_;exact ⟨_,rfl,wT⟩
section
section
variable {N:Nat} {D:List Deferred} {w0:World} {F:Nat→Prop} {G0 G G1 G2:GH} {L L1 L2:OL} {T Xs:List (Nat × aj)}
variable {r:Option Nat} {P:Program} {Q:Exit→Act→World→Prop} {l:List Oper} {a a':Act} {w w':World}
theorem afX {id:Nat} (hm:P.follows .mixedOrders=true) (bD:List (List Nat)) (B:List Nat) (hk:wP l bD=true) (hB:vo l bD B=true) (m1 m2 m3:Nat) (O6:B.contains m1=false) (Jg:B.contains m2=false) (UW:B.contains m3=false) (hne:Nat.beq m1 m2=false) (hne1:Nat.beq m1 m3=false) (hne2:Nat.beq m2 m3=false) (jD:(bD.getD m3 []).contains m1=true) (h23:(bD.getD m3 []).contains m2=true) (Am xZ VY:Obj) (pr:Nat→Nat→Nat→aj→GH→Prop)
  (hp1:∀ b b' c i v G,Nat.beq i m1=false→(bD.getD i []).contains m1=false→pr b c i v G→pr b' c i v G)
  (hp2:∀ b c c' i v G,Nat.beq i m2=false→(bD.getD i []).contains m2=false→pr b c i v G→pr b c' i v G)
  (H:St N D w0 F G0 G L T a w)
  (hstep:allI (fun i o=>∀ b c L' S a w G1,(∀ x,x∈L→x∈L')→B.contains i=false→Nat.beq i m1=false→Nat.beq i m2=false→Nat.beq i m3=false→S i=false→(∀ j∈bD.getD i [],S j=true)→(∀ k o,G k=some o→G1 k=some o)→St N D w0 F G0 G1 L' T a w→(∀ i d,S i=true→dS l i=some d→∃ v,a.tmps[d]?=some v∧pr b c i v G1) →
   WL r P l.toArray (fun e a' w'=>e=.normal∧DX N D w0 F G0 G L' T l (pr b c) (bY S i) a' w') [o] a w) 0 l)
  (F7:∀ o c L' S a w G1,(∀ x,x∈L→x∈L')→l[m1]?=some o→S m1=false→(∀ j∈bD.getD m1 [],S j=true)→(∀ k o,G k=some o→G1 k=some o)→St N D w0 F G0 G1 L' T a w→(∀ b i d,i≠m1→S i=true→dS l i=some d→∃ v,a.tmps[d]?=some v∧pr b c i v G1) →
   WL r P l.toArray (fun e a' w'=>e=.normal∧∃ b,DX N D w0 F G0 G ((b,Am) :: L') T l (pr b c) (bY S m1) a' w') [o] a w)
  (F8:∀ o b L' S a w G1,(∀ x,x∈L→x∈L')→l[m2]?=some o→S m2=false→(∀ j∈bD.getD m2 [],S j=true)→(∀ k o,G k=some o→G1 k=some o)→St N D w0 F G0 G1 L' T a w→(∀ c i d,i≠m2→S i=true→dS l i=some d→∃ v,a.tmps[d]?=some v∧pr b c i v G1) →
   WL r P l.toArray (fun e a' w'=>e=.normal∧∃ c,DX N D w0 F G0 G ((c,xZ) :: L') T l (pr b c) (bY S m2) a' w') [o] a w)
  (UY:∀ o b c S a w G1,l[m3]?=some o→S m3=false→(∀ j∈bD.getD m3 [],S j=true)→(∀ k o,G k=some o→G1 k=some o)→St N D w0 F G0 G1 ((b,Am) :: (c,xZ) :: L) T a w→(∀ i d,S i=true→dS l i=some d→∃ v,a.tmps[d]?=some v∧pr b c i v G1) →
   WL r P l.toArray (fun e a' w'=>e=.normal∧DX N D w0 F G0 G ((b,VY) :: (c,xZ) :: L) T l (pr b c) (bY S m3) a' w') [o] a w)
  (hend:∀ b c a w G1,(∀ k o,G k=some o→G1 k=some o)→St N D w0 F G0 G1 ((b,VY) :: (c,xZ) :: L) T a w→(∀ i d,B.contains i=false→dS l i=some d→∃ v,a.tmps[d]?=some v∧pr b c i v G1)→WL r P l.toArray (fun e a w=>e=.normal∧Q .normal a w) (oV l B) a w)
  (UZ:Nat.blt m1 l.length=true) (CZ:Nat.blt m2 l.length=true) (F9:Nat.blt m3 l.length=true):WP r P (.region id l.toArray true) Q a w:=by
 have ne:∀ {x y:Nat},Nat.beq x y=false→x≠y:=fun h e=>by subst e;rw [Nat.beq_refl] at h;cases h
 have hne':m1≠m2:=ne hne
 have LJ:m1≠m3:=ne hne1
 have Pb:m2≠m3:=ne hne2
 refine Ea hm bD B hk hB (fun S a w=>(S m3=true→S m1=true∧S m2=true)∧∃ b c L',L'=(bif S m1 then [(b,bif S m3 then VY else Am)] else [])++((bif S m2 then [(c,xZ)] else [])++L)∧DX N D w0 F G0 G L' T l (pr b c) S a w)
  ⟨fun h=>absurd (show false=true from h) (by decide),0,0,L,rfl,G,fun _ _ h=>h,H.move H.hp.drew,fun _ _ h=>absurd (show false=true from h) (by decide)⟩ ?_ ?_
 ·rintro i o S a w ho hb aK iK hdesc ⟨EC,b,c,L',hL,G1,hG,HS,hv⟩
  have hsub:∀ x,x∈L→x∈L':=fun x hx=>by rw [hL];exact List.mem_append_right _ (List.mem_append_right _ hx)
  have hno:∀ j,j < l.length→S j=true→(bD.getD j []).contains i=false:=fun j hjl hj=>by
   cases hc:(bD.getD j []).contains i with
   | false=>rfl
   | true =>
    have:=hdesc j hjl (by simpa using hc)
    rw [this] at hj;cases hj
  by_cases h1:i=m1
  ·subst h1
   have zV:S m3=false:=hdesc m3 (Eq.mp Nat.blt_eq F9) (by simpa using jD)
   have h:=F7 o c L' S a w G1 hsub ho aK iK hG HS fun b' j d hj hSj hd=>by
    obtain ⟨v,hv1,hv2⟩:=hv j d hSj hd
    exact ⟨v,hv1,hp1 b b' c j v _ (nM hj) (hno j (pW hd) hSj) hv2⟩
   refine lu (fun e a' w' ⟨he,b',hD⟩=>⟨he,fun h3=>?_,b',c,_,?_,hD⟩) h
   ·rw [show bY S i m3=S m3 from ah LJ.symm,zV] at h3;cases h3
   ·rw [hL,aK,show bY S i i=true from ak rfl,show bY S i m2=S m2 from ah hne'.symm,show bY S i m3=S m3 from ah LJ.symm,zV]
    rfl
  ·by_cases h2:i=m2
   ·subst h2
    have zV:S m3=false:=hdesc m3 (Eq.mp Nat.blt_eq F9) (by simpa using h23)
    have h:=F8 o b L' S a w G1 hsub ho aK iK hG HS fun c' j d hj hSj hd=>by
     obtain ⟨v,hv1,hv2⟩:=hv j d hSj hd
     exact ⟨v,hv1,hp2 b c c' j v _ (nM hj) (hno j (pW hd) hSj) hv2⟩
    refine lu (fun e a' w' ⟨he,c',hD⟩=>⟨he,fun h3=>?_,b,c',_,rfl,hD.perm ?_⟩) h
    ·rw [show bY S i m3=S m3 from ah Pb.symm,zV] at h3;cases h3
    ·rw [hL,aK,show bY S i i=true from ak rfl,show bY S i m1=S m1 from ah hne',show bY S i m3=S m3 from ah Pb.symm]
     cases S m1 with
     | false=>exact List.Perm.refl _
     | true=>exact List.Perm.swap _ _ _
   ·by_cases h3:i=m3
    ·subst h3
     have hS1:S m1=true:=iK m1 (by simpa using jD)
     have hS2:S m2=true:=iK m2 (by simpa using h23)
     rw [hS1,hS2,aK] at hL
     subst hL
     have h:=UY o b c S a w G1 ho aK iK hG HS hv
     refine lu (fun e a' w' ⟨he,hD⟩=>⟨he,fun _=>⟨?_,?_⟩,b,c,_,?_,hD⟩) h
     ·rw [show bY S i m1=S m1 from ah LJ];exact hS1
     ·rw [show bY S i m2=S m2 from ah Pb];exact hS2
     ·rw [show bY S i i=true from ak rfl,show bY S i m1=S m1 from ah LJ,show bY S i m2=S m2 from ah Pb,hS1,hS2];rfl
    ·have h:=yP hstep i o ho
     rw [gD] at h
     have e1:bY S i m1=S m1:=ah (fun e=>h1 e.symm)
     have e2:bY S i m2=S m2:=ah (fun e=>h2 e.symm)
     have e3:bY S i m3=S m3:=ah (fun e=>h3 e.symm)
     refine lu (fun e a' w' ⟨he,hD⟩=>⟨he,?_,b,c,L',?_,hD⟩) (h b c L' S a w G1 hsub hb (nM h1) (nM h2) (nM h3) aK iK hG HS hv)
     ·rw [e1,e2,e3];exact EC
     ·rw [e1,e2,e3];exact hL
 ·rintro S a w hall Gg ⟨EC,b,c,L',hL,G1,hG,HS,hv⟩
  have hs1:S m1=true:=hall m1 (Eq.mp Nat.blt_eq UZ) O6
  have hs2:S m2=true:=hall m2 (Eq.mp Nat.blt_eq CZ) Jg
  have hs3:S m3=true:=hall m3 (Eq.mp Nat.blt_eq F9) UW
  rw [hs1,hs2,hs3] at hL
  subst hL
  exact hend b c a w G1 hG HS fun j d hb hd=>hv j d (hall j (pW hd) hb) hd
end
end
end Go.Proofs.YtdiflmikikiedaaGreat
