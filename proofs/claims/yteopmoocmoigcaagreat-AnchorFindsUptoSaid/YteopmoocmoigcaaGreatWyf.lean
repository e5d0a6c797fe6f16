/-
  What the claim stands on, part 6: Nm Rg16 Sgn Cu Atx Cy Slw Fl16 Mtx Fi16 Brd Brs.
-/
import Derived.Test.YteopmoocmoigcaaGreatWye
import Derived.Lib.BufferWrite
import Derived.ProofKit
import Derived.Deep.Slices
import Derived.Laws.StructEq
namespace Go.Proofs.YteopmoocmoigcaaGreat
open Go.Proofs.Tryz
section
open Go.RowKit
theorem afd:∀ args w,(callFunc 72 args).run prog w=.ok (.enter 72 args) w:=enters func72 rfl (by kernel_rfl)
theorem adN:∀ args w,(callFunc 105 args).run prog w=.ok (.enter 105 args) w:=enters func105 rfl (by kernel_rfl)
theorem afc:∀ args w,(callFunc 71 args).run prog w=.ok (.enter 71 args) w:=enters func71 rfl (by kernel_rfl)
theorem aki {G:GH} (r:bD):vN (.func (.func 72) #[] #[]) G r.dat (decide (r.cells.length=0)):=by
 intro G1 w0 cs hm hG hr;refine lN (caps:=[]) afd ?_;obtain ⟨pA,pn,pc,dA,dn,dc,yA,yn,yc,fA,fn,fc,rfl,-,hf⟩:=hr.row;have hn:=hf.len;rw [bV] at hn;subst hn;refine eN [(0,_)] func72 rfl ntmps72 rfl rfl hG ?_;intro a H;refine dH (fun _ K1=>?_);refine fC (cs:=[_,_,_,_,_,_]) H wn rfl rfl rfl ?_;clear H;intro b1 a w hb1 H;exact kH H (ak K1 rfl (SR fun _ K2=>aT sK tH 0 rfl rfl (Rl oP rfl (Rc rfl (ak K2 rfl (LR results72 rfl fun H=>H.rt (aF (decide_eq_decide.2 (by omega)))))))))
theorem adB (G:GH) (w0:World) (hG:Hold G w0) (l:List bD) (v:aj) (hv:ay G (.sl 6 (l.map bD.dat)) v) (hne:∀ r∈l,r.cells≠[]) :
  Calls prog 70 #[v,.func (.func 72) #[] #[]] w0 (bq w0 G fun u G'=>ay G' (.sl 6 (l.map bD.dat)) u):=by
 obtain ⟨A,n,c,rfl⟩:=hv.form
 have hno:l.findIdx? (fun r=>decide (r.cells.length=0))=none:=by
  rw [List.findIdx?_eq_none_iff];intro r hr;exact iU fun h=>hne r hr (List.length_eq_zero_iff.1 h)
 refine eN [(0,_),(1,_)] func70 rfl ntmps70 rfl rfl hG ?_;intro a H;refine kP H (SR fun _ K1=>ak K1 rfl (SR fun _ K2=>Rm rfl (Rm rfl ?_)));clear H K1;intro a H;refine s_call Vt H wn rfl (Yb _ _ H.ro l (fun r=>decide (r.cells.length=0)) _ _ hv (fun r _=>aki r)) rfl ?_;clear H;rintro v10 wO a w rfl xB H;rw [hno] at H;refine kH H (ak K2 rfl (SQ fun _ K3=>SR fun _ K4=>Rm rfl (Rc rfl (Kz K4 (Cd rfl ?_ ?_))))) <;> clear H K2 K4
 ·intro h12 a H
  exact kP H (SR fun _ K5=>Rm rfl (ak K5 rfl (LR results70 rfl fun H=>H.rt (hv.mono xB))))
 intro h12 a H
 try have qE:=dF h12
 exact absurd rfl qE
def DJ (n:Nat):Prop:=∀ (G:GH) (w0:World),Hold G w0→∀ (l:List au) (v:aj),ay G (.sl 11 (l.map au.dat)) v→pV l→bg l < n →
 Calls prog 44 #[v] w0 (bq w0 G fun u G'=>ay G' (.sl 11 ((qD l).map au.dat)) u)
theorem akd {n:Nat} (ih:DJ n) (hn:n≤4294967296) (G:GH) (w0:World) (hG:Hold G w0) (x:bF) (cs:List aj) (hv:aY G x.dat cs) (hne:CW x) (hz:dx x.dat < n+1) :
  Calls prog 105 #[.agg cs.toArray] w0 (bq w0 G fun u G'=>∃ cs',u=.agg cs'.toArray∧aY G' (nC x).dat cs'):=by
 have he:=Aj x;obtain ⟨pA,pn,pc,dA,dn,dc,yA,yn,yc,fA,fn,fc,rfl,hh,hf⟩:=hv.cell;rw [ajS] at hne;refine eN [(0,_)] func105 rfl ntmps105 rfl rfl hG ?_;intro a H;refine dH (fun _ K1=>?_);refine fC (cs:=[_,_,_,_,_,_,_]) H wn rfl rfl rfl ?_;clear H;intro b1 a w hb1 H;refine eB ku H wn rfl ?_;clear H;intro b2 a w hb2 H;refine K1 _ _ ?_;clear K1;refine bK (fun _ K2=>?_)
 have fQ:∀ (bE:Nat) (v:aj) (G G':GH),(∀ k o,G k=some o→G' k=some o)→(fun (bE:Nat) (v:aj) (G:GH)=>match bE with|0=>v=(aI b1 0)|1=>v=vi x.id|2=>v=(aI b1 1)|3=>v=.agg #[.slice pA pn pc,vi x.head.marks.ins,vi x.head.marks.move,.slice dA dn dc,.slice yA yn yc]|4=>∃ p d l,v=.agg #[p,vi x.head.marks.ins,vi x.head.marks.move,d,l]∧iR G x.head p d l|5=>v=(aI b1 6)|6=>v=.slice fA fn fc|7=>ay G (.sl 11 ((qD x.flow).map au.dat)) v|_=>True) bE v G→(fun (bE:Nat) (v:aj) (G:GH)=>match bE with|0=>v=(aI b1 0)|1=>v=vi x.id|2=>v=(aI b1 1)|3=>v=.agg #[.slice pA pn pc,vi x.head.marks.ins,vi x.head.marks.move,.slice dA dn dc,.slice yA yn yc]|4=>∃ p d l,v=.agg #[p,vi x.head.marks.ins,vi x.head.marks.move,d,l]∧iR G x.head p d l|5=>v=(aI b1 6)|6=>v=.slice fA fn fc|7=>ay G (.sl 11 ((qD x.flow).map au.dat)) v|_=>True) bE v G':=by
  intro bE v G G' hm h
  match bE,h with
  | 0,h=>exact h
  | 1,h=>exact h
  | 2,h=>exact h
  | 3,h=>exact h
  | 4,h=>exact let ⟨p,d,l,h1,h2⟩:=h;⟨p,d,l,h1,h2.mono hm⟩
  | 5,h=>exact h
  | 6,h=>exact h
  | 7,h=>exact ay.mono hm h
  | 8,h=>exact trivial
  | 9,h=>exact trivial
  | _+10,h=>exact trivial
 refine xZ (hmx) [[],[0],[],[2],[2,3],[],[5],(ra 2 5),(ra 0 8),(ra 0 9)] [8,9] (by kernel_rfl) (by kernel_rfl) (fun (bE:Nat) (v:aj) (G:GH)=>match bE with|0=>v=(aI b1 0)|1=>v=vi x.id|2=>v=(aI b1 1)|3=>v=.agg #[.slice pA pn pc,vi x.head.marks.ins,vi x.head.marks.move,.slice dA dn dc,.slice yA yn yc]|4=>∃ p d l,v=.agg #[p,vi x.head.marks.ins,vi x.head.marks.move,d,l]∧iR G x.head p d l|5=>v=(aI b1 6)|6=>v=.slice fA fn fc|7=>ay G (.sl 11 ((qD x.flow).map au.dat)) v|_=>True) fQ H ?_ ?_
 ·clear H;refine aD ?_ ?_ ?_ ?_ (aD ?_ ?_ ?_ ?_ (aZ (bN rfl) (aZ (bN rfl) cu)))
  ·refine bX [] rfl trivial (by kernel_rfl) fQ rfl rfl ?_;intro aV a w G1 hG HT H fin;exact kH H (Rf D8 rfl fun _ H=>fin H iJ rfl)
  ·refine bX [(0,3,_)] rfl ⟨fun _ _ h=>h,aB⟩ (by kernel_rfl) fQ rfl rfl ?_;intro aV a w G1 hG HT H fin;exact kH H (Ro aH 1 rfl fun _ H=>fin H iJ rfl)
  ·refine bX [] rfl trivial (by kernel_rfl) fQ rfl rfl ?_;intro aV a w G1 hG HT H fin;exact kH H (Rf Pj rfl fun _ H=>fin H iJ rfl)
  ·refine bX [(2,5,_)] rfl ⟨fun _ _ h=>h,aB⟩ (by kernel_rfl) fQ rfl rfl ?_;intro aV a w G1 hG HT H fin;refine bJ mE (cs:=[_,_,_,_,_]) H wn rfl rfl (H.hp.dL 1 rfl rfl) rfl ?_;clear H;intro a H;exact fin H iJ rfl
  ·refine bX [(3,6,_)] rfl ⟨fun _ _ h=>h,aB⟩ (by kernel_rfl) fQ rfl rfl ?_;intro aV a w G1 hG HT H fin;refine s_call DW H wn rfl (DU _ _ H.ro x.head _ _ _ _ _ _ _ _ _ (hh.mono hG) (by omega)) rfl ?_;clear H;rintro v7 G7 a w Bq vZ H;exact fin H vZ (Bq)
  ·refine bX [] rfl trivial (by kernel_rfl) fQ rfl rfl ?_;intro aV a w G1 hG HT H fin;exact kH H (Rf Cm rfl fun _ H=>fin H iJ rfl)
  ·refine bX [(5,8,_)] rfl ⟨fun _ _ h=>h,aB⟩ (by kernel_rfl) fQ rfl rfl ?_;intro aV a w G1 hG HT H fin;exact kH H (Ro gT 1 rfl fun _ H=>fin H iJ rfl)
  refine bX [(6,9,_)] rfl ⟨fun _ _ h=>h,aB⟩ (by kernel_rfl) fQ rfl rfl ?_;intro aV a w G1 hG HT H fin;refine s_call Iz H wn rfl (ih _ _ H.ro x.flow _ (hf.mono hG) hne (by omega)) rfl ?_;clear H;rintro v10 wO a w rO kW H;exact fin H kW (rO)
 clear H;intro a w G mh H hv;have H:=H.aP (hv 1 4 rfl rfl) rfl;obtain ⟨u7,QK,Bq⟩:=hv 4 7 (by decide) rfl;(try dsimp only at Bq);obtain ⟨p7,d7,l7,rfl,Bn⟩:=Bq;obtain ⟨a1,a2,a3,rfl⟩:=Bn.props.form;obtain ⟨a4,a5,a6,rfl⟩:=Bn.dw.form;obtain ⟨a7,a8,a9,rfl⟩:=Bn.layers.form;have H:=H.iT QK;obtain ⟨u10,Ju,rO⟩:=hv 7 10 (by decide) rfl;(try dsimp only at rO);obtain ⟨Td,n10,c10,rfl⟩:=rO.form;have H:=H.iT Ju;clear hv;refine jR aaj [_,_,_,_,_,_,_] H wn rfl rfl rfl rfl ?_;clear H;intro a H;refine bM ku 0 (vs:=[_,_,_,_,_,_,_]) _ H wn rfl rfl rfl rfl rfl rfl rfl rfl ?_;clear H;intro w H;dsimp only [List.set,setRow] at H;refine aG ⟨rfl,?_⟩;refine K2 _ _ ?_;clear K2;refine cK ?_;refine (leave1 H results105 (.cons (ze ku (cs:=[_,_,_,_,_,_,_]) H rfl rfl (H.hp.dL 0 rfl rfl)) .nil) ?_).1;exact H.rt ⟨_,rfl,by rw [ajN];exact aY.Q9 (x:=.mk x.id x.head (qD x.flow)) Bn rO⟩
theorem ake {n:Nat} (ih:DJ n) (hn:n≤4294967296) {G:GH} {w0:World} (x:bF) (hne:CW x) (hz:dx x.dat < n+1):Fe (.func (.func 105) #[] #[]) w0 G x.dat (nC x).dat:=by
 intro G1 w1 cs hm1 hG1 hr;have h:=akd ih hn _ _ hG1 x cs hr hne hz;have h2:=lN (P:=prog) (caps:=[]) (args:=[.agg cs.toArray]) adN h;exact h2
theorem akf {n:Nat} (ih:DJ n) (hn:n≤4294967296) (G:GH) (w0:World) (hG:Hold G w0) (x:bD) (cs:List aj) (hv:aY G x.dat cs) (hne:CY x) (hz:dx x.dat < n+1) :
  Calls prog 71 #[.agg cs.toArray] w0 (bq w0 G fun u G'=>∃ cs',u=.agg cs'.toArray∧aY G' (nR x).dat cs'):=by
 have he:=Al x;have hl:=E5 x.cells;obtain ⟨pA,pn,pc,dA,dn,dc,yA,yn,yc,fA,fn,fc,rfl,hh,hf⟩:=hv.row;rw [Y1] at hne;refine eN [(0,_)] func71 rfl ntmps71 rfl rfl hG ?_;intro a H;refine dH (fun _ K1=>?_);refine fC (cs:=[_,_,_,_,_,_]) H wn rfl rfl rfl ?_;clear H;intro b1 a w hb1 H;refine eB jM H wn rfl ?_;clear H;intro b2 a w hb2 H;refine K1 _ _ ?_;clear K1;refine bK (fun _ K2=>?_)
 have fQ:∀ (bE:Nat) (v:aj) (G G':GH),(∀ k o,G k=some o→G' k=some o)→(fun (bE:Nat) (v:aj) (G:GH)=>match bE with|0=>v=(aI b1 0)|1=>v=.agg #[.slice pA pn pc,vi x.head.marks.ins,vi x.head.marks.move,.slice dA dn dc,.slice yA yn yc]|2=>∃ p d l,v=.agg #[p,vi x.head.marks.ins,vi x.head.marks.move,d,l]∧iR G x.head p d l|3=>v=(aI b1 5)|4=>v=.slice fA fn fc|5=>ay G (.sl 7 (x.cells.map fun y=>(nC y).dat)) v|_=>True) bE v G→(fun (bE:Nat) (v:aj) (G:GH)=>match bE with|0=>v=(aI b1 0)|1=>v=.agg #[.slice pA pn pc,vi x.head.marks.ins,vi x.head.marks.move,.slice dA dn dc,.slice yA yn yc]|2=>∃ p d l,v=.agg #[p,vi x.head.marks.ins,vi x.head.marks.move,d,l]∧iR G x.head p d l|3=>v=(aI b1 5)|4=>v=.slice fA fn fc|5=>ay G (.sl 7 (x.cells.map fun y=>(nC y).dat)) v|_=>True) bE v G':=by
  intro bE v G G' hm h
  match bE,h with
  | 0,h=>exact h
  | 1,h=>exact h
  | 2,h=>exact let ⟨p,d,l,h1,h2⟩:=h;⟨p,d,l,h1,h2.mono hm⟩
  | 3,h=>exact h
  | 4,h=>exact h
  | 5,h=>exact ay.mono hm h
  | 6,h=>exact trivial
  | 7,h=>exact trivial
  | _+8,h=>exact trivial
 refine xZ (hmx) [[],[0],[0,1],[],[3],(ra 0 5),(ra 0 6),(ra 0 7)] [6,7] (by kernel_rfl) (by kernel_rfl) (fun (bE:Nat) (v:aj) (G:GH)=>match bE with|0=>v=(aI b1 0)|1=>v=.agg #[.slice pA pn pc,vi x.head.marks.ins,vi x.head.marks.move,.slice dA dn dc,.slice yA yn yc]|2=>∃ p d l,v=.agg #[p,vi x.head.marks.ins,vi x.head.marks.move,d,l]∧iR G x.head p d l|3=>v=(aI b1 5)|4=>v=.slice fA fn fc|5=>ay G (.sl 7 (x.cells.map fun y=>(nC y).dat)) v|_=>True) fQ H ?_ ?_
 ·clear H;refine aD ?_ ?_ ?_ ?_ (aD ?_ ?_ (bN rfl) (bN rfl) cu)
  ·refine bX [] rfl trivial (by kernel_rfl) fQ rfl rfl ?_;intro aV a w G1 hG HT H fin;exact kH H (Rf Ph rfl fun _ H=>fin H iJ rfl)
  ·refine bX [(0,3,_)] rfl ⟨fun _ _ h=>h,aB⟩ (by kernel_rfl) fQ rfl rfl ?_;intro aV a w G1 hG HT H fin;refine bJ mE (cs:=[_,_,_,_,_]) H wn rfl rfl (H.hp.dL 1 rfl rfl) rfl ?_;clear H;intro a H;exact fin H iJ rfl
  ·refine bX [(1,4,_)] rfl ⟨fun _ _ h=>h,aB⟩ (by kernel_rfl) fQ rfl rfl ?_;intro aV a w G1 hG HT H fin;refine s_call DW H wn rfl (DU _ _ H.ro x.head _ _ _ _ _ _ _ _ _ (hh.mono hG) (by omega)) rfl ?_;clear H;rintro v5 G5 a w rP zP H;exact fin H zP (rP)
  ·refine bX [] rfl trivial (by kernel_rfl) fQ rfl rfl ?_;intro aV a w G1 hG HT H fin;exact kH H (Rf sK rfl fun _ H=>fin H iJ rfl)
  ·refine bX [(3,6,_)] rfl ⟨fun _ _ h=>h,aB⟩ (by kernel_rfl) fQ rfl rfl ?_;intro aV a w G1 hG HT H fin;exact kH H (Ro tH 1 rfl fun _ H=>fin H iJ rfl)
  refine bX [(4,7,_)] rfl ⟨fun _ _ h=>h,aB⟩ (by kernel_rfl) fQ rfl rfl ?_;intro aV a w G1 hG HT H fin;refine s_call Vr H wn rfl (Vp nC _ _ H.ro x.cells _ _ (hf.mono hG) (by omega) (fun y hy=>ake ih hn y (YZ hne.2 y hy) (by have:=aaS hy;omega))) rfl ?_;clear H;rintro v8 G8 a w rQ qP H;exact fin H qP (rQ)
 clear H;intro a w G mh H hv;obtain ⟨u5,Jv,rP⟩:=hv 2 5 (by decide) rfl;(try dsimp only at rP);obtain ⟨p5,d5,l5,rfl,vk⟩:=rP;obtain ⟨a1,a2,a3,rfl⟩:=vk.props.form;obtain ⟨a4,a5,a6,rfl⟩:=vk.dw.form;obtain ⟨a7,a8,a9,rfl⟩:=vk.layers.form;have H:=H.iT Jv;obtain ⟨u8,Jw,rQ⟩:=hv 5 8 (by decide) rfl;(try dsimp only at rQ);obtain ⟨A8,n8,c8,rfl⟩:=rQ.form;have H:=H.iT Jw;clear hv;refine jR aai [_,_,_,_,_,_] H wn rfl rfl rfl rfl ?_;clear H;intro a H;refine bM jM 0 (vs:=[_,_,_,_,_,_]) _ H wn rfl rfl rfl rfl rfl rfl rfl rfl ?_;clear H;intro w H;dsimp only [List.set,setRow] at H;refine aG ⟨rfl,?_⟩;refine K2 _ _ ?_;clear K2;refine cK ?_;refine (leave1 H results71 (.cons (ze jM (cs:=[_,_,_,_,_,_]) H rfl rfl (H.hp.dL 0 rfl rfl)) .nil) ?_).1;exact H.rt ⟨_,rfl,by rw [YQ];exact aY.Rh (x:=.mk x.head (x.cells.map nC)) vk (by show ay _ (.sl 7 ((x.cells.map nC).map bF.dat)) _;rw [List.map_map];exact rQ)⟩
theorem akg {n:Nat} (ih:DJ n) (hn:n≤4294967296) {G:GH} {w0:World} (x:bD) (hne:CY x) (hz:dx x.dat < n+1):Fe (.func (.func 71) #[] #[]) w0 G x.dat (nR x).dat:=by
 intro G1 w1 cs hm1 hG1 hr;have h:=akf ih hn _ _ hG1 x cs hr hne hz;have h2:=lN (P:=prog) (caps:=[]) (args:=[.agg cs.toArray]) afc h;exact h2
theorem joined {G:GH} {o:List au} {z y:au} {x0:List aj} {s p d q f r:aj} (hc:eY G 11 (o.map au.dat) x0) (hl:x0.length=o.length*11) (hh:iR G z.head p d q) (hf:ay G (.sl 11 (z.flow.map au.dat)) f) (hr:ay G (.sl 6 (z.rows.map bD.dat)) r) (hs:s=.string (z.text++y.text)) :
  eY G 11 ((o++[yR z y]).map au.dat) ((x0++[vi z.kind,vi z.code,vi z.id,.string z.text,p,vi z.head.marks.ins,vi z.head.marks.move,d,q,f,r]).set (((o++[z]).length - 1)*11+3) s):=by
 rw [kL,iM,List.length_singleton,Nat.add_sub_cancel,List.set_append_right _ _ (by omega),hl,Ii];refine hc.snoc ?_ rfl;rw [hs];exact aY.mkItem (x:=yR z y) hh hf hr
theorem KR {s:ByteArray} {k:Int} {n:Nat} (hk:k=1):(s.toList == (⟨#[]⟩:ByteArray).toList)=true↔(k=7∧n=0)∨(k=1∧s.size=0):=by
 rw [beq_iff_eq,ByteArray.toList_eq,ByteArray.toList_eq]
 constructor
 ·intro h;refine .inr ⟨hk,?_⟩;have:=aC List.length h
  simpa using this
 rintro (⟨h,-⟩|⟨-,h⟩)
 ·omega
 have:s.data.toList.length=0:=by simpa using h
 rw [List.length_eq_zero_iff.1 this]
set_option maxHeartbeats 4000000 in
theorem akh {n:Nat} (ih:DJ n) (hn:n≤1073741824):DJ (n+1):=by
  intro G w0 hG l v hv hne hz;obtain ⟨A,c,rfl,hc1,hc2,hg⟩:=hv.slice
  have hml:4294967297≤maxLen:=by decide
  have htl:jL l≤bg l:=ER l;have hll:l.length≤jL l:=Gn l;rw [bV] at *;refine eN [(0,_)] func44 rfl ntmps44 rfl rfl hG ?_;intro a H;refine kP H (SR fun _ K1=>ak K1 rfl (SR fun _ K2=>ak K2 rfl (SQ fun _ K3=>SR fun _ K4=>Rm rfl (Rl dZ rfl (Rm rfl (Kz K4 (SB ?_)))))));clear H K1 K2 K4;intro a H;skip;refine eU (ι:=Nat × aj × List aj × OL × GH) (Tc:=[(7,_),(8,_)]) (Lc:=[]) (fun gh=>[(3,gh.2.1),(9,vi gh.1)]) (fun gh=>[]++gh.2.2.2.1) (fun gh=>gh.2.2.2.2) (fun gh=>gh.1≤l.length∧dz 63 11 gh.2.1 (pW l gh.1).length gh.2.2.1 gh.2.2.2.1∧eY gh.2.2.2.2 11 ((pW l gh.1).map au.dat) gh.2.2.1∧(∀ b o,G b=some o→gh.2.2.2.2 b=some o)) (fun gh=>l.length - gh.1) ((0,.slice none 0 0,[],[],G)) (by exact (H).sub ⟨rfl,rfl,rfl,rfl,aB⟩) ?_ ?_
  · exact ⟨by omega,dz.nil,eY.nil,fun _ _ h=>h⟩
  clear H;intro gh a w hI H;obtain ⟨k,v,xs,Lo,g⟩:=gh;dsimp only at hI H;obtain ⟨hk,hrw,jr,hgm⟩:=hI;have hol:=akr hk;obtain ⟨out,hout⟩:∃ o,o=pW l k:=⟨_,rfl⟩;rw [← hout] at hrw jr hol;dsimp only [lca,bG] at H;refine kP H (SR fun _ K5=>Rc rfl (Kz K5 (SQ fun _ K6=>Cd rfl ?_ ?_))) <;> clear H K5
  · intro h10 a H
    try have lV:=dT h10
    have hk2:k < l.length:=by omega
    have hos:=MK hk2;have hot:=ML (l:=l) (k:=k) (by omega);have XQ:=ES l (k+1);rw [jg hk2,Ad] at XQ
    simp only [jL] at XQ
    rw [← hout] at hos hot;obtain ⟨vA,vc,rfl,-,-⟩:=hrw.shape;obtain ⟨b,o,pA,pn,pc,dA,dn,dc,yA,yn,yc,fA,fn,fc,rA,rn,rc,rfl,hrow,hhd,hfl,hrs⟩:=vY hk2 hg;replace hrow:=fun j u hj=>aO hgm (hrow j u hj);have hnx:=Rw hne _ (iF hk2);rw [ajT] at hnx;obtain ⟨hnf,hnr⟩:=hnx;have hzi:=Ns hk2;have hze:=oF l[k];have hrl:=E9 l[k].rows
    have aik:∀ r∈l[k].rows.map nR,r.cells≠[]:=fun r hr=>by
      obtain ⟨x,hx,rfl⟩:=List.mem_map.1 hr;have h1:=Rx hnr x hx;rw [Y1] at h1;rw [YQ];exact fun e=>h1.1 (List.map_eq_nil_iff.1 e)
    refine kP H (Kc K6 (SQ fun _ K7=>SB (SR fun _ K8=>Ri dZ bW rfl rfl ?_)));clear H K6;intro a H;refine bJ bW (cs:=[_,_,_,_,_,_,_,_,_,_,_]) H wn rfl rfl (fun j v hj=>H.hp.aJ (hrow j v hj)) rfl ?_;clear H;intro a H;refine eB bW H wn rfl ?_;clear H;intro b5 a w hb5 H;refine bM bW 0 (vs:=[_,_,_,_,_,_,_,_,_,_,_]) _ H wn rfl rfl rfl rfl rfl rfl rfl rfl ?_;clear H;intro w H;dsimp only [List.set,setRow] at H;refine K8 _ _ ?_;clear K8;refine kP H (SR fun _ K9=>Rf uU rfl ?_);clear H;intro a H;refine bJ mE (cs:=[_,_,_,_,_]) H wn rfl rfl (H.hp.dL 0 rfl rfl) rfl ?_;clear H;intro a H;refine s_call DW H wn rfl (DU _ _ H.ro _ _ _ _ _ _ _ _ _ _ (hhd.mono hgm) (by omega)) rfl ?_;clear H;rintro v15 Dt a w ⟨rU,d15,l15,rfl,wm⟩ oK H;obtain ⟨a1,a2,a3,rfl⟩:=wm.props.form;obtain ⟨a4,a5,a6,rfl⟩:=wm.dw.form;obtain ⟨a7,a8,a9,rfl⟩:=wm.layers.form;refine kH H (Rf uU rfl ?_);clear H;intro a H;refine bM mE 0 (vs:=[_,_,_,_,_]) _ H wn rfl rfl rfl rfl rfl rfl rfl rfl ?_;clear H;intro w H;dsimp only [List.set,setRow] at H;refine K9 _ _ ?_;clear K9;refine kP H (SR fun _ aQ=>aT vX gT 0 rfl rfl ?_);clear H;intro a H;refine s_call Iz H wn rfl (ih _ _ H.ro l[k].flow _ (hfl.mono fun b o h=>oK b o (hgm b o h)) hnf (by omega)) rfl ?_;clear H;rintro v19 G19 a w F8 om H;obtain ⟨BU,n19,c19,rfl⟩:=F8.form;refine kH H (Rf vX rfl ?_);clear H;intro a H;refine bM gT 0 (vs:=[_]) _ H wn rfl rfl rfl rfl rfl rfl rfl rfl ?_;clear H;intro w H;dsimp only [List.set,setRow] at H;refine aQ _ _ ?_;clear aQ;refine kP H (SR fun _ bH=>aT nG nU 0 rfl rfl ?_);clear H;intro a H;refine s_call OW H wn rfl (Vq nR _ _ H.ro l[k].rows _ _ (hrs.mono fun b o h=>om b o (oK b o (hgm b o h))) (by omega) (fun x hx=>akg ih (by omega) x (Rx hnr x hx) (by have:=aaX hx;omega))) rfl ?_;clear H;rintro v23 Hz a w F9 mq H;rw [show (l[k].rows.map fun x=>(nR x).dat)=(l[k].rows.map nR).map bD.dat by rw [List.map_map];rfl] at F9;obtain ⟨A23,n23,c23,rfl⟩:=F9.form;refine s_call VO H wn rfl (adB _ _ H.ro (l[k].rows.map nR) _ F9 aik) rfl ?_;clear H;rintro v24 vL a w Es nK H;obtain ⟨Fa,n24,c24,rfl⟩:=Es.form;have Xv:=Es.len;rw [bV,bV] at Xv;subst Xv;refine kH H (Rf nG rfl ?_);clear H;intro a H;refine bM nU 0 (vs:=[_]) _ H wn rfl rfl rfl rfl rfl rfl rfl rfl ?_;clear H;intro w H;dsimp only [List.set,setRow] at H;refine bH _ _ ?_;clear bH;refine bK (fun _ bL=>?_);obtain ⟨y,hy⟩:∃ y,y=nI l[k]:=⟨_,rfl⟩;have hye:=hy.trans (Rq l[k])
    have hyk:y.kind=l[k].kind:=by rw [hye];rfl
    have Jz:y.text=l[k].text:=by rw [hye];rfl
    have Gf:y.head=l[k].head:=by rw [hye];rfl
    have Mk:y.rows.length=l[k].rows.length:=by rw [hye];simp [au.rows]
    rw [← hy] at hos;obtain ⟨tZ,pJ⟩:∃ x,x=[vi l[k].kind,vi l[k].code,vi l[k].id,.string l[k].text,.slice a1 a2 a3,vi l[k].head.marks.ins,vi l[k].head.marks.move,.slice a4 a5 a6,.slice a7 a8 a9,.slice BU n19 c19,.slice Fa l[k].rows.length c24]:=⟨_,rfl⟩
    have xD:aY vL y.dat tZ:=by
      rw [pJ,hye];exact aY.mkItem (x:=.mk l[k].kind l[k].code l[k].id l[k].text l[k].head (qD l[k].flow) (l[k].rows.map nR)) (wm.mono fun b o h=>nK b o (mq b o (om b o h))) (F8.mono fun b o h=>nK b o (mq b o h)) Es
    have Cv:=jr.mono fun b o h=>nK b o (mq b o (om b o (oK b o h)));have Xg:∀ b o,G b=some o→vL b=some o:=fun b o h=>nK b o (mq b o (om b o (oK b o (hgm b o h))));refine kP H (SC (Rm rfl (Rl dZ rfl (aU bL rfl (SB ?_)))));clear H bL;intro a H;refine pE (ι:=Bool) (Tc:=[(3,_),(5,_),(6,_),(7,_),(8,_),(9,_)]) (Lc:=[]) (fun gh=>[(32,.bool gh)]) (fun gh=>[(b5,.cells [vi l[k].kind,vi l[k].code,vi l[k].id,.string l[k].text,.slice a1 a2 a3,vi l[k].head.marks.ins,vi l[k].head.marks.move,.slice a4 a5 a6,.slice a7 a8 a9,.slice BU n19 c19,.slice Fa l[k].rows.length c24].toArray 63 (0,0))]++Lo) (fun gh=>vL) (fun gh=>gh=true↔uP y) (by exact (H).sub ⟨rfl,rfl,rfl,rfl,rfl,rfl,aB⟩) ?_ ?_
    · skip;refine kP H (SC (aT gV aH 0 rfl rfl (Rc rfl (Rm rfl (Sp 36 rfl ?_ ?_))))) <;> clear H
      · intro mJ a H
        try have p36:=dT mJ
        refine kH H (YF nG mJ rfl (YO nU 0 mJ rfl (YL lD mJ rfl (YC mJ rfl (Pt mJ rfl (Rm rfl (Sp 42 rfl ?_ ?_))))))) <;> clear H
        · intro oI a H
          try have p42:=dT oI
          refine kH H (aR oI rfl (aR oI rfl (Ku rfl (Ku rfl (Ku rfl (Ks oI rfl (Pt oI rfl (Ra rfl ?_))))))));clear H;intro a H;refine aG ?_;refine ⟨_,by exact (H).sub ⟨rfl,rfl,rfl,rfl,rfl,rfl,rfl,aB⟩,?_⟩;rw [uP,hyk,Mk,Jz]
          first
            | exact ⟨fun _=>.inl ⟨p36,by omega⟩,fun _=>by first|rfl|exact jy p42⟩
            | exact ⟨fun h=>(by cases h),fun h=>(by exfalso;omega)⟩
            | exact KR p46
            | fail
        intro oI a H
        try have p42:=dF oI
        refine kH H (YF gV oI rfl (YO aH 0 oI rfl (YC oI rfl (YM oI rfl (Sp 46 rfl ?_ ?_))))) <;> clear H
        · intro h46 a H
          try have p46:=dT h46
          exfalso;omega
        intro h46 a H
        try have p46:=dF h46
        refine kH H (bC h46 rfl (PF oI h46 rfl (Pf oI rfl (Ra rfl ?_))));clear H;intro a H;refine aG ?_;refine ⟨_,by exact (H).sub ⟨rfl,rfl,rfl,rfl,rfl,rfl,rfl,aB⟩,?_⟩;rw [uP,hyk,Mk,Jz]
        first
          | exact ⟨fun _=>.inl ⟨p36,by omega⟩,fun _=>by first|rfl|exact jy p42⟩
          | exact ⟨fun h=>(by cases h),fun h=>(by exfalso;omega)⟩
          | exact KR p46
          | fail
      intro mJ a H
      try have p36:=dF mJ
      refine kH H (aR mJ rfl (aR mJ rfl (Pf mJ rfl (Rm rfl ?_))));clear H;intro a H;refine zY gV H (wg H rfl rfl rfl) rfl rfl ?_;clear H;intro a H;refine pX aH H (wg H rfl rfl rfl) rfl (H.hp.nM 0 rfl rfl) rfl ?_;clear H;intro a H;refine GQ H (wg H rfl rfl rfl) rfl rfl rfl rfl ?_;clear H;intro a H;refine uE H (wg H rfl rfl rfl) rfl rfl ?_;clear H;intro a H;refine M0 H 46 rfl ?_ ?_
      · intro h46
        try have p46:=dT h46
        refine kH H (YF pG h46 rfl (YO fV 0 h46 rfl ?_));clear H;intro a H;refine xI H (wg H rfl rfl h46) rfl rfl rfl ?_;clear H;intro a H;refine GU H (wg H rfl rfl rfl) rfl h46 rfl rfl ?_;clear H;intro a H;refine kH H (Pf rfl rfl (Ra rfl ?_));clear H;intro a H;refine aG ?_;refine ⟨_,by exact (H).sub ⟨rfl,rfl,rfl,rfl,rfl,rfl,rfl,aB⟩,?_⟩;rw [uP,hyk,Mk,Jz]
        first
          | exact ⟨fun _=>.inl ⟨p36,by omega⟩,fun _=>by first|rfl|exact jy p42⟩
          | exact ⟨fun h=>(by cases h),fun h=>(by exfalso;omega)⟩
          | exact KR p46
          | fail
      intro h46
      try have p46:=dF h46
      refine kH H (bC h46 rfl ?_);clear H;intro a H;refine JW H (wg H rfl rfl rfl) rfl h46 rfl rfl ?_;clear H;intro a H;refine kH H (Pf rfl rfl (Ra rfl ?_));clear H;intro a H;refine aG ?_;refine ⟨_,by exact (H).sub ⟨rfl,rfl,rfl,rfl,rfl,rfl,rfl,aB⟩,?_⟩;rw [uP,hyk,Mk,Jz]
      first
        | exact ⟨fun _=>.inl ⟨p36,by omega⟩,fun _=>by first|rfl|exact jy p42⟩
        | exact ⟨fun h=>(by cases h),fun h=>(by exfalso;omega)⟩
        | exact KR p46
        | fail
    clear H;intro gh a w hI H;obtain ⟨db,hgh⟩:∃ x,x=gh:=⟨_,rfl⟩;subst hgh;skip;dsimp only [lca,bG] at H;refine kS H rfl ?_ ?_
    · intro h32
      try have p32:=dT h32
      have hdp:=hI.1 (by assumption);rw [KH hdp] at hos;refine kP H (Kc K7 (SC (Rd rfl (Rm rfl ?_))));clear H K7;intro a H;refine aG ?_;refine dh ((k+1,_,xs,Lo,_)) (by exact (H.dP (Pl:=[_]) (dD:=[]) [] (by decide) rfl).sub ⟨rfl,rfl,rfl,rfl,aB⟩) ?_ ?_
      · (try dsimp only);exact ⟨by omega,by rw [hos];exact hrw,by rw [hos];exact Cv,Xg⟩
      first|omega|(dsimp only;omega)
    intro h32
    try have p32:=dF h32
    have hnd:¬ uP y:=fun h=>by have:=hI.2 h;simp_all
    obtain ⟨bo,pk,pt,pp,pd,pl,mM⟩:∃ (bo:Nat) (pk:iE × Int) (pt:ByteArray) (pp pd pl:aj),0 < (out.length:Int)→∃ (o:List au) (z:au) (x0:List aj) (f r:aj),out=o++[z]∧vA=some ⟨bo,0,none⟩∧pk=(z.head,z.kind)∧pt=z.text ∧
        xs=x0++[vi z.kind,vi z.code,vi z.id,.string z.text,pp,vi z.head.marks.ins,vi z.head.marks.move,pd,pl,f,r]∧x0.length=o.length*11∧eY vL 11 (o.map au.dat) x0∧iR vL z.head pp pd pl∧ay vL (.sl 11 (z.flow.map au.dat)) f∧ay vL (.sl 6 (z.rows.map bD.dat)) r ∧
        ∀ j u,[vi pk.2,vi z.code,vi z.id,.string pt,pp,vi pk.1.marks.ins,vi pk.1.marks.move,pd,pl][j]?=some u→xs[(out.length - 1)*11+j]?=some u:=by
      by_cases h0:0 < out.length
      · obtain ⟨bo,I5⟩:=hrw.ptr h0;obtain ⟨o,z,e⟩:∃ o z,out=o++[z]:=⟨_,_,(List.dropLast_concat_getLast (fun e=>by rw [e] at h0;simp at h0)).symm⟩;rw [e,kL] at Cv;obtain ⟨x0,cs,hxs,hc0,hrz,hcl,hxl⟩:=Cv.ami;obtain ⟨qA,qn,qc,sA,sn,sc,tA,tn,tc,V3,WJ,V4,Zp,Zy,Zr,rfl,hh,hf2,hr2⟩:=hrz.item;rw [bV] at hxl;refine ⟨bo,(z.head,z.kind),z.text,.slice qA qn qc,.slice sA sn sc,.slice tA tn tc,fun _=>⟨o,z,x0,_,_,e,I5,rfl,rfl,hxs,hxl,hc0,hh,hf2,hr2,fun j u hj=>?_⟩⟩;rw [hxs,e,iM,List.length_singleton,Nat.add_sub_cancel,tT (by omega),hxl,Ii];rw [← hj]
        match j,hj with
        | 0,hj=>rfl
        | 1,hj=>rfl
        | 2,hj=>rfl
        | 3,hj=>rfl
        | 4,hj=>rfl
        | 5,hj=>rfl
        | 6,hj=>rfl
        | 7,hj=>rfl
        | 8,hj=>rfl
        | _+9,hj=>simp at hj
      exact ⟨0,(⟨[],⟨0,0,[],[]⟩⟩,0),⟨#[]⟩,.slice none 0 0,.slice none 0 0,.slice none 0 0,fun h=>by omega⟩
    have Jy:0 < (out.length:Int)→vA=some ⟨bo,0,none⟩:=fun h=>by obtain ⟨_,_,_,_,_,_,e,_⟩:=mM h;exact e
    refine pE (ι:=Bool × GH) (Tc:=[(3,_),(5,_),(6,_),(7,_),(8,_),(9,_)]) (Lc:=[]) (fun gh=>[(52,.bool gh.1)]) (fun gh=>[(b5,.cells [vi l[k].kind,vi l[k].code,vi l[k].id,.string l[k].text,.slice a1 a2 a3,vi l[k].head.marks.ins,vi l[k].head.marks.move,.slice a4 a5 a6,.slice a7 a8 a9,.slice BU n19 c19,.slice Fa l[k].rows.length c24].toArray 63 (0,0))]++Lo) (fun gh=>gh.2) (fun gh=>(gh.1=true→(l[k].kind=1∧0 < (out.length:Int)∧pk.2=1∧pk.1=l[k].head))∧(gh.1=false→pW l (k+1)=out++[y])∧(∀ b o,vL b=some o→gh.2 b=some o)) (by exact (H).sub ⟨rfl,rfl,rfl,rfl,rfl,rfl,aB⟩) ?_ ?_
    · skip
      by_cases c1:l[k].kind=1
      · skip
        by_cases c2:0 < (out.length:Int)
        · skip
          by_cases c3:pk.2=1
          · skip
            by_cases c4:pk.1=l[k].head
            · skip;refine dI hmx [[],[0],[0,1],[0,1,2],(ra 0 4),(ra 0 5),(ra 0 6),(ra 0 7),(ra 0 8),(ra 0 8),(ra 0 8++[9]),(ra 0 11),(ra 0 12),(ra 0 13),(ra 0 14),(ra 0 15),(ra 0 16),(ra 0 17),(ra 0 17),(ra 0 17++[18]),(ra 0 20),(ra 0 21),(ra 0 22),(ra 0 17),(ra 0 17++[23]),(ra 0 25),(ra 0 26),(ra 0 27)] [] (by kernel_rfl) [_,vi l[k].kind,_,_,_,_,_,_,.slice (some ⟨bo,0,none⟩) out.length vc,_,vi ((out.length - 1:Nat):Int),_,_,vi pk.2,_,_,_,.slice (some ⟨bo,0,none⟩) out.length vc,_,vi ((out.length - 1:Nat):Int),_,_,vg pk.1 pp pd pl,_,vg l[k].head (.slice a1 a2 a3) (.slice a4 a5 a6) (.slice a7 a8 a9),.bool (decide (pk.1=l[k].head)),_,_] H (aD (Z0 rfl (Rf gV rfl)) (Z1 0 53 rfl (Ro aH 0 rfl)) (Z1 1 54 rfl (Rc rfl)) (Z1 2 55 rfl (Rm rfl)) (aD (Z1 3 56 rfl (YM (aA c1) rfl)) (Z2 4 57 3 56 rfl (YC (aA c1) rfl)) (Z2 3 56 5 58 rfl (Pt (aA c1) rfl)) (Z1 6 59 rfl (Rm rfl)) (aD ?_ (Z1 7 60 rfl (YM (aA c2) rfl)) ?_ (Z3 8 61 10 63 7 60 rfl (YI dZ bW (aA c2) rfl rfl)) (aD (Z2 11 64 7 60 rfl (YF gV (aA c2) rfl)) ?_ (Z2 13 66 7 60 rfl (YC (aA c2) rfl)) (Z2 7 60 14 67 rfl (Pt (aA c2) rfl)) (aD (Z1 15 68 rfl (Rm rfl)) ?_ (Z1 16 69 rfl (YM (aA c3) rfl)) ?_ (aD (Z3 17 70 19 72 16 69 rfl (YI dZ bW (aA c3) rfl rfl)) (Z2 20 73 16 69 rfl (YF uU (aA c3) rfl)) ?_ (Z1 16 69 rfl (YF uU (aA c3) rfl)) (aD ?_ ?_ (Z2 16 69 25 78 rfl (Pt (aA c3) rfl)) (Z1 26 79 rfl (Ra rfl)) cu))))))) ?_
              · refine dB 7 60 rfl rfl fun _ a w G1 hG HT H fin=>?_;refine kH H (YM (aA c2) rfl ?_);clear H;intro a H;exact fin H iJ (by show _=_;first|rfl|exact aC (fun A=>Value.slice A out.length vc) (Jy c2))
              · refine bZ 9 62 7 60 rfl rfl fun _ a w G1 hG HT H fin=>?_;refine kX _ H (wg H rfl rfl (aA c2)) rfl rfl rfl (by omega) (by omega) rfl ?_;clear H;intro a H;exact fin H iJ (by show _=_;first|rfl|exact aC vi (by omega))
              · refine bZ 12 65 7 60 rfl rfl fun _ a w G1 hG HT H fin=>?_;obtain ⟨_,_,_,_,_,_,rfl,_,_,_,_,_,_,_,_,hx⟩:=mM c2;refine pX aH H (wg H rfl rfl (aA c2)) rfl (hrw.at H.hp (fun x hx=>iZ _ hx) (by rw [jh];exact hx 0 _ rfl)) rfl ?_;clear H;intro a H;exact fin H iJ rfl
              · refine dB 16 69 rfl rfl fun _ a w G1 hG HT H fin=>?_;refine kH H (YM (aA c3) rfl ?_);clear H;intro a H;exact fin H iJ (by show _=_;first|rfl|exact aC (fun A=>Value.slice A out.length vc) (Jy c2))
              · refine bZ 18 71 16 69 rfl rfl fun _ a w G1 hG HT H fin=>?_;refine kX _ H (wg H rfl rfl (aA c3)) rfl rfl rfl (by omega) (by omega) rfl ?_;clear H;intro a H;exact fin H iJ (by show _=_;first|rfl|exact aC vi (by omega))
              · refine bZ 21 74 16 69 rfl rfl fun _ a w G1 hG HT H fin=>?_;obtain ⟨_,_,_,_,_,_,rfl,_,_,_,_,_,_,_,_,hx⟩:=mM c2
                refine bJ mE (cs:=[pp,vi pk.1.marks.ins,vi pk.1.marks.move,pd,pl]) H (wg H rfl rfl (aA c3)) rfl rfl (fun j u hj=>hrw.at H.hp (fun x hx=>iZ _ hx) (by
                    rw [jh,Nat.add_assoc];refine hx (4+j) u ?_
                    match j,hj with
                    | 0,hj=>exact hj
                    | 1,hj=>exact hj
                    | 2,hj=>exact hj
                    | 3,hj=>exact hj
                    | 4,hj=>exact hj)) rfl ?_;clear H;intro a H
                exact fin H iJ rfl
              · refine bZ 23 76 16 69 rfl rfl fun _ a w G1 hG HT H fin=>?_;refine bJ mE (cs:=[_,_,_,_,_]) H (wg H rfl rfl (aA c3)) rfl rfl (H.hp.dL 0 rfl rfl) rfl ?_;clear H;intro a H;exact fin H iJ rfl
              · refine nD 22 75 24 77 16 69 rfl rfl fun _ a w G1 hG HT H fin=>?_;refine s_call OX H (wg H rfl rfl (aA c3)) rfl (O6 _ _ H.ro pk.1 l[k].head _ _ _ _ _ _ (by obtain ⟨_,_,_,_,_,_,_,e,_,_,_,_,hh,_⟩:=mM c2;rw [e];exact hh.mono hG) (wm.mono fun b o h=>hG b o (nK b o (mq b o (om b o h))))) rfl ?_;clear H;rintro v78 Tz a w rfl IX H;exact fin H IX (rfl)
              clear H;intro a w G iN H hv;have H:=H.aP (hv 27 52 rfl rfl) rfl;clear hv;refine aG ⟨rfl,?_⟩;refine ⟨(_,_),by exact (H).sub ⟨rfl,rfl,rfl,rfl,rfl,rfl,rfl,aB⟩,?_⟩;(try dsimp only);refine ⟨fun h=>by first|exact absurd h (by decide)|exact ⟨c1,c2,c3,oG h⟩,fun h=>?_,iN⟩
              first
                | exact absurd ((aA c4).symm.trans h) (by decide)
                | (rw [hos]
                   refine DK hnd fun o2 z2 e2 hj=>?_;rw [yS,hyk,Gf] at hj;obtain ⟨j1,j2,j3⟩:=hj
                   first
                     | exact c1 j1
                     | (have c2':0 < (out.length:Int):=by rw [e2,iM,List.length_singleton];omega
                        obtain ⟨o,z,_,_,_,e,_,uQ,_⟩:=mM c2';obtain ⟨-,ez⟩:=List.append_inj' (e2.symm.trans e) rfl
                        injection ez with ez
                        subst ez
                        first
                          | exact c2 c2'
                          | exact c3 (by rw [uQ];exact j2)
                          | exact c4 (by rw [uQ];exact j3)))
            skip;refine dI hmx [[],[0],[0,1],[0,1,2],(ra 0 4),(ra 0 5),(ra 0 6),(ra 0 7),(ra 0 8),(ra 0 8),(ra 0 8++[9]),(ra 0 11),(ra 0 12),(ra 0 13),(ra 0 14),(ra 0 15),(ra 0 16),(ra 0 17),(ra 0 17),(ra 0 17++[18]),(ra 0 20),(ra 0 21),(ra 0 22),(ra 0 17),(ra 0 17++[23]),(ra 0 25),(ra 0 26),(ra 0 27)] [] (by kernel_rfl) [_,vi l[k].kind,_,_,_,_,_,_,.slice (some ⟨bo,0,none⟩) out.length vc,_,vi ((out.length - 1:Nat):Int),_,_,vi pk.2,_,_,_,.slice (some ⟨bo,0,none⟩) out.length vc,_,vi ((out.length - 1:Nat):Int),_,_,vg pk.1 pp pd pl,_,vg l[k].head (.slice a1 a2 a3) (.slice a4 a5 a6) (.slice a7 a8 a9),.bool (decide (pk.1=l[k].head)),_,_] H (aD (Z0 rfl (Rf gV rfl)) (Z1 0 53 rfl (Ro aH 0 rfl)) (Z1 1 54 rfl (Rc rfl)) (Z1 2 55 rfl (Rm rfl)) (aD (Z1 3 56 rfl (YM (aA c1) rfl)) (Z2 4 57 3 56 rfl (YC (aA c1) rfl)) (Z2 3 56 5 58 rfl (Pt (aA c1) rfl)) (Z1 6 59 rfl (Rm rfl)) (aD ?_ (Z1 7 60 rfl (YM (aA c2) rfl)) ?_ (Z3 8 61 10 63 7 60 rfl (YI dZ bW (aA c2) rfl rfl)) (aD (Z2 11 64 7 60 rfl (YF gV (aA c2) rfl)) ?_ (Z2 13 66 7 60 rfl (YC (aA c2) rfl)) (Z2 7 60 14 67 rfl (Pt (aA c2) rfl)) (aD (Z1 15 68 rfl (Rm rfl)) ?_ (Z1 16 69 rfl (YM (aA c3) rfl)) ?_ (aD (Z3 17 70 19 72 16 69 rfl (YI dZ bW (aA c3) rfl rfl)) (Z2 20 73 16 69 rfl (YF uU (aA c3) rfl)) ?_ (Z1 16 69 rfl (YF uU (aA c3) rfl)) (aD ?_ ?_ (Z2 16 69 25 78 rfl (Pt (aA c3) rfl)) (Z1 26 79 rfl (Ra rfl)) cu))))))) ?_
            · refine dB 7 60 rfl rfl fun _ a w G1 hG HT H fin=>?_;refine kH H (YM (aA c2) rfl ?_);clear H;intro a H;exact fin H iJ (by show _=_;first|rfl|exact aC (fun A=>Value.slice A out.length vc) (Jy c2))
            · refine bZ 9 62 7 60 rfl rfl fun _ a w G1 hG HT H fin=>?_;refine kX _ H (wg H rfl rfl (aA c2)) rfl rfl rfl (by omega) (by omega) rfl ?_;clear H;intro a H;exact fin H iJ (by show _=_;first|rfl|exact aC vi (by omega))
            · refine bZ 12 65 7 60 rfl rfl fun _ a w G1 hG HT H fin=>?_;obtain ⟨_,_,_,_,_,_,rfl,_,_,_,_,_,_,_,_,hx⟩:=mM c2;refine pX aH H (wg H rfl rfl (aA c2)) rfl (hrw.at H.hp (fun x hx=>iZ _ hx) (by rw [jh];exact hx 0 _ rfl)) rfl ?_;clear H;intro a H;exact fin H iJ rfl
            · refine dB 16 69 rfl rfl fun _ a w G1 hG HT H fin=>?_;refine kH H (YM (aA c3) rfl ?_);clear H;intro a H;exact fin H iJ (by show _=_;first|rfl|exact aC (fun A=>Value.slice A out.length vc) (Jy c2))
            · refine bZ 18 71 16 69 rfl rfl fun _ a w G1 hG HT H fin=>?_;refine kX _ H (wg H rfl rfl (aA c3)) rfl rfl rfl (by omega) (by omega) rfl ?_;clear H;intro a H;exact fin H iJ (by show _=_;first|rfl|exact aC vi (by omega))
            · refine bZ 21 74 16 69 rfl rfl fun _ a w G1 hG HT H fin=>?_;obtain ⟨_,_,_,_,_,_,rfl,_,_,_,_,_,_,_,_,hx⟩:=mM c2
              refine bJ mE (cs:=[pp,vi pk.1.marks.ins,vi pk.1.marks.move,pd,pl]) H (wg H rfl rfl (aA c3)) rfl rfl (fun j u hj=>hrw.at H.hp (fun x hx=>iZ _ hx) (by
                  rw [jh,Nat.add_assoc];refine hx (4+j) u ?_
                  match j,hj with
                  | 0,hj=>exact hj
                  | 1,hj=>exact hj
                  | 2,hj=>exact hj
                  | 3,hj=>exact hj
                  | 4,hj=>exact hj)) rfl ?_;clear H;intro a H
              exact fin H iJ rfl
            · refine bZ 23 76 16 69 rfl rfl fun _ a w G1 hG HT H fin=>?_;refine bJ mE (cs:=[_,_,_,_,_]) H (wg H rfl rfl (aA c3)) rfl rfl (H.hp.dL 0 rfl rfl) rfl ?_;clear H;intro a H;exact fin H iJ rfl
            · refine nD 22 75 24 77 16 69 rfl rfl fun _ a w G1 hG HT H fin=>?_;refine s_call OX H (wg H rfl rfl (aA c3)) rfl (O6 _ _ H.ro pk.1 l[k].head _ _ _ _ _ _ (by obtain ⟨_,_,_,_,_,_,_,e,_,_,_,_,hh,_⟩:=mM c2;rw [e];exact hh.mono hG) (wm.mono fun b o h=>hG b o (nK b o (mq b o (om b o h))))) rfl ?_;clear H;rintro v78 Tz a w rfl IX H;exact fin H IX (rfl)
            clear H;intro a w G iN H hv;have H:=H.aP (hv 27 52 rfl rfl) rfl;clear hv;refine aG ⟨rfl,?_⟩;refine ⟨(_,_),by exact (H).sub ⟨rfl,rfl,rfl,rfl,rfl,rfl,rfl,aB⟩,?_⟩;(try dsimp only);refine ⟨fun h=>by first|exact absurd h (by decide)|exact ⟨c1,c2,c3,oG h⟩,fun h=>?_,iN⟩
            first
              | exact absurd ((aA c4).symm.trans h) (by decide)
              | (rw [hos]
                 refine DK hnd fun o2 z2 e2 hj=>?_;rw [yS,hyk,Gf] at hj;obtain ⟨j1,j2,j3⟩:=hj
                 first
                   | exact c1 j1
                   | (have c2':0 < (out.length:Int):=by rw [e2,iM,List.length_singleton];omega
                      obtain ⟨o,z,_,_,_,e,_,uQ,_⟩:=mM c2';obtain ⟨-,ez⟩:=List.append_inj' (e2.symm.trans e) rfl
                      injection ez with ez
                      subst ez
                      first
                        | exact c2 c2'
                        | exact c3 (by rw [uQ];exact j2)
                        | exact c4 (by rw [uQ];exact j3)))
          skip;refine dI hmx [[],[0],[0,1],[0,1,2],(ra 0 4),(ra 0 5),(ra 0 6),(ra 0 7),(ra 0 8),(ra 0 8),(ra 0 8++[9]),(ra 0 11),(ra 0 12),(ra 0 13),(ra 0 14),(ra 0 15),(ra 0 16),(ra 0 17),(ra 0 17),(ra 0 17++[18]),(ra 0 20),(ra 0 21),(ra 0 22),(ra 0 17),(ra 0 17++[23]),(ra 0 25),(ra 0 26),(ra 0 27)] [] (by kernel_rfl) [_,vi l[k].kind,_,_,_,_,_,_,.slice (some ⟨bo,0,none⟩) out.length vc,_,vi ((out.length - 1:Nat):Int),_,_,vi pk.2,_,_,_,undef,undef,undef,undef,undef,undef,undef,undef,undef,_,_] H (aD (Z0 rfl (Rf gV rfl)) (Z1 0 53 rfl (Ro aH 0 rfl)) (Z1 1 54 rfl (Rc rfl)) (Z1 2 55 rfl (Rm rfl)) (aD (Z1 3 56 rfl (YM (aA c1) rfl)) (Z2 4 57 3 56 rfl (YC (aA c1) rfl)) (Z2 3 56 5 58 rfl (Pt (aA c1) rfl)) (Z1 6 59 rfl (Rm rfl)) (aD ?_ (Z1 7 60 rfl (YM (aA c2) rfl)) ?_ (Z3 8 61 10 63 7 60 rfl (YI dZ bW (aA c2) rfl rfl)) (aD (Z2 11 64 7 60 rfl (YF gV (aA c2) rfl)) ?_ (Z2 13 66 7 60 rfl (YC (aA c2) rfl)) (Z2 7 60 14 67 rfl (Pt (aA c2) rfl)) (aD (Z1 15 68 rfl (Rm rfl)) (aK (j:=16) (by kernel_rfl) (fun _ _ _ _ _ h=>h) rfl rfl rfl rfl rfl (fun _ _ h=>aL h (aF (aN c3))) rfl (fun _=>rfl)) (aK (j:=16) (by kernel_rfl) (fun _ _ _ _ _ h=>h) rfl rfl rfl rfl rfl (fun _ _ h=>aL h (aF (aN c3))) rfl (fun _=>rfl)) (aK (j:=16) (by kernel_rfl) (fun _ _ _ _ _ h=>h) rfl rfl rfl rfl rfl (fun _ _ h=>aL h (aF (aN c3))) rfl (fun _=>rfl)) (aD (aK (j:=16) (by kernel_rfl) (fun _ _ _ _ _ h=>h) rfl rfl rfl rfl rfl (fun _ _ h=>aL h (aF (aN c3))) rfl (fun _=>rfl)) (aK (j:=16) (by kernel_rfl) (fun _ _ _ _ _ h=>h) rfl rfl rfl rfl rfl (fun _ _ h=>aL h (aF (aN c3))) rfl (fun _=>rfl)) (aK (j:=16) (by kernel_rfl) (fun _ _ _ _ _ h=>h) rfl rfl rfl rfl rfl (fun _ _ h=>aL h (aF (aN c3))) rfl (fun _=>rfl)) (aK (j:=16) (by kernel_rfl) (fun _ _ _ _ _ h=>h) rfl rfl rfl rfl rfl (fun _ _ h=>aL h (aF (aN c3))) rfl (fun _=>rfl)) (aD (aK (j:=16) (by kernel_rfl) (fun _ _ _ _ _ h=>h) rfl rfl rfl rfl rfl (fun _ _ h=>aL h (aF (aN c3))) rfl (fun _=>rfl)) (aK (j:=16) (by kernel_rfl) (fun _ _ _ _ _ h=>h) rfl rfl rfl rfl rfl (fun _ _ h=>aL h (aF (aN c3))) rfl (fun _=>rfl)) (Z2 16 69 25 78 rfl (Pf (aN c3) rfl)) (Z1 26 79 rfl (Ra rfl)) cu))))))) ?_
          · refine dB 7 60 rfl rfl fun _ a w G1 hG HT H fin=>?_;refine kH H (YM (aA c2) rfl ?_);clear H;intro a H;exact fin H iJ (by show _=_;first|rfl|exact aC (fun A=>Value.slice A out.length vc) (Jy c2))
          · refine bZ 9 62 7 60 rfl rfl fun _ a w G1 hG HT H fin=>?_;refine kX _ H (wg H rfl rfl (aA c2)) rfl rfl rfl (by omega) (by omega) rfl ?_;clear H;intro a H;exact fin H iJ (by show _=_;first|rfl|exact aC vi (by omega))
          · refine bZ 12 65 7 60 rfl rfl fun _ a w G1 hG HT H fin=>?_;obtain ⟨_,_,_,_,_,_,rfl,_,_,_,_,_,_,_,_,hx⟩:=mM c2;refine pX aH H (wg H rfl rfl (aA c2)) rfl (hrw.at H.hp (fun x hx=>iZ _ hx) (by rw [jh];exact hx 0 _ rfl)) rfl ?_;clear H;intro a H;exact fin H iJ rfl
          clear H;intro a w G iN H hv;have H:=H.aP (hv 27 52 rfl rfl) rfl;clear hv;refine aG ⟨rfl,?_⟩;refine ⟨(_,_),by exact (H).sub ⟨rfl,rfl,rfl,rfl,rfl,rfl,rfl,aB⟩,?_⟩;(try dsimp only);refine ⟨fun h=>by first|exact absurd h (by decide)|exact ⟨c1,c2,c3,oG h⟩,fun h=>?_,iN⟩
          first
            | exact absurd ((aA c4).symm.trans h) (by decide)
            | (rw [hos]
               refine DK hnd fun o2 z2 e2 hj=>?_;rw [yS,hyk,Gf] at hj;obtain ⟨j1,j2,j3⟩:=hj
               first
                 | exact c1 j1
                 | (have c2':0 < (out.length:Int):=by rw [e2,iM,List.length_singleton];omega
                    obtain ⟨o,z,_,_,_,e,_,uQ,_⟩:=mM c2';obtain ⟨-,ez⟩:=List.append_inj' (e2.symm.trans e) rfl
                    injection ez with ez
                    subst ez
                    first
                      | exact c2 c2'
                      | exact c3 (by rw [uQ];exact j2)
                      | exact c4 (by rw [uQ];exact j3)))
        skip;refine dI hmx [[],[0],[0,1],[0,1,2],(ra 0 4),(ra 0 5),(ra 0 6),(ra 0 7),(ra 0 8),(ra 0 8),(ra 0 8++[9]),(ra 0 11),(ra 0 12),(ra 0 13),(ra 0 14),(ra 0 15),(ra 0 16),(ra 0 17),(ra 0 17),(ra 0 17++[18]),(ra 0 20),(ra 0 21),(ra 0 22),(ra 0 17),(ra 0 17++[23]),(ra 0 25),(ra 0 26),(ra 0 27)] [] (by kernel_rfl) [_,vi l[k].kind,_,_,_,_,_,_,undef,undef,undef,undef,undef,undef,undef,_,_,undef,undef,undef,undef,undef,undef,undef,undef,undef,_,_] H (aD (Z0 rfl (Rf gV rfl)) (Z1 0 53 rfl (Ro aH 0 rfl)) (Z1 1 54 rfl (Rc rfl)) (Z1 2 55 rfl (Rm rfl)) (aD (Z1 3 56 rfl (YM (aA c1) rfl)) (Z2 4 57 3 56 rfl (YC (aA c1) rfl)) (Z2 3 56 5 58 rfl (Pt (aA c1) rfl)) (Z1 6 59 rfl (Rm rfl)) (aD (aK (j:=7) (by kernel_rfl) (fun _ _ _ _ _ h=>h) rfl rfl rfl rfl rfl (fun _ _ h=>aL h (aF (aN c2))) rfl (fun _=>rfl)) (aK (j:=7) (by kernel_rfl) (fun _ _ _ _ _ h=>h) rfl rfl rfl rfl rfl (fun _ _ h=>aL h (aF (aN c2))) rfl (fun _=>rfl)) (aK (j:=7) (by kernel_rfl) (fun _ _ _ _ _ h=>h) rfl rfl rfl rfl rfl (fun _ _ h=>aL h (aF (aN c2))) rfl (fun _=>rfl)) (aK (j:=7) (by kernel_rfl) (fun _ _ _ _ _ h=>h) rfl rfl rfl rfl rfl (fun _ _ h=>aL h (aF (aN c2))) rfl (fun _=>rfl)) (aD (aK (j:=7) (by kernel_rfl) (fun _ _ _ _ _ h=>h) rfl rfl rfl rfl rfl (fun _ _ h=>aL h (aF (aN c2))) rfl (fun _=>rfl)) (aK (j:=7) (by kernel_rfl) (fun _ _ _ _ _ h=>h) rfl rfl rfl rfl rfl (fun _ _ h=>aL h (aF (aN c2))) rfl (fun _=>rfl)) (aK (j:=7) (by kernel_rfl) (fun _ _ _ _ _ h=>h) rfl rfl rfl rfl rfl (fun _ _ h=>aL h (aF (aN c2))) rfl (fun _=>rfl)) (Z2 7 60 14 67 rfl (Pf (aN c2) rfl)) (aD (Z1 15 68 rfl (Rm rfl)) (aK (j:=16) (by kernel_rfl) (fun _ _ _ _ _ h=>h) rfl rfl rfl rfl rfl (fun _ _ h=>aL h (aF rfl)) rfl (fun _=>rfl)) (aK (j:=16) (by kernel_rfl) (fun _ _ _ _ _ h=>h) rfl rfl rfl rfl rfl (fun _ _ h=>aL h (aF rfl)) rfl (fun _=>rfl)) (aK (j:=16) (by kernel_rfl) (fun _ _ _ _ _ h=>h) rfl rfl rfl rfl rfl (fun _ _ h=>aL h (aF rfl)) rfl (fun _=>rfl)) (aD (aK (j:=16) (by kernel_rfl) (fun _ _ _ _ _ h=>h) rfl rfl rfl rfl rfl (fun _ _ h=>aL h (aF rfl)) rfl (fun _=>rfl)) (aK (j:=16) (by kernel_rfl) (fun _ _ _ _ _ h=>h) rfl rfl rfl rfl rfl (fun _ _ h=>aL h (aF rfl)) rfl (fun _=>rfl)) (aK (j:=16) (by kernel_rfl) (fun _ _ _ _ _ h=>h) rfl rfl rfl rfl rfl (fun _ _ h=>aL h (aF rfl)) rfl (fun _=>rfl)) (aK (j:=16) (by kernel_rfl) (fun _ _ _ _ _ h=>h) rfl rfl rfl rfl rfl (fun _ _ h=>aL h (aF rfl)) rfl (fun _=>rfl)) (aD (aK (j:=16) (by kernel_rfl) (fun _ _ _ _ _ h=>h) rfl rfl rfl rfl rfl (fun _ _ h=>aL h (aF rfl)) rfl (fun _=>rfl)) (aK (j:=16) (by kernel_rfl) (fun _ _ _ _ _ h=>h) rfl rfl rfl rfl rfl (fun _ _ h=>aL h (aF rfl)) rfl (fun _=>rfl)) (Z2 16 69 25 78 rfl (Pf rfl rfl)) (Z1 26 79 rfl (Ra rfl)) cu))))))) ?_
        clear H;intro a w G iN H hv;have H:=H.aP (hv 27 52 rfl rfl) rfl;clear hv;refine aG ⟨rfl,?_⟩;refine ⟨(_,_),by exact (H).sub ⟨rfl,rfl,rfl,rfl,rfl,rfl,rfl,aB⟩,?_⟩;(try dsimp only);refine ⟨fun h=>by first|exact absurd h (by decide)|exact ⟨c1,c2,c3,oG h⟩,fun h=>?_,iN⟩
        first
          | exact absurd ((aA c4).symm.trans h) (by decide)
          | (rw [hos]
             refine DK hnd fun o2 z2 e2 hj=>?_;rw [yS,hyk,Gf] at hj;obtain ⟨j1,j2,j3⟩:=hj
             first
               | exact c1 j1
               | (have c2':0 < (out.length:Int):=by rw [e2,iM,List.length_singleton];omega
                  obtain ⟨o,z,_,_,_,e,_,uQ,_⟩:=mM c2';obtain ⟨-,ez⟩:=List.append_inj' (e2.symm.trans e) rfl
                  injection ez with ez
                  subst ez
                  first
                    | exact c2 c2'
                    | exact c3 (by rw [uQ];exact j2)
                    | exact c4 (by rw [uQ];exact j3)))
      skip;refine dI hmx [[],[0],[0,1],[0,1,2],(ra 0 4),(ra 0 5),(ra 0 6),(ra 0 7),(ra 0 8),(ra 0 8),(ra 0 8++[9]),(ra 0 11),(ra 0 12),(ra 0 13),(ra 0 14),(ra 0 15),(ra 0 16),(ra 0 17),(ra 0 17),(ra 0 17++[18]),(ra 0 20),(ra 0 21),(ra 0 22),(ra 0 17),(ra 0 17++[23]),(ra 0 25),(ra 0 26),(ra 0 27)] [] (by kernel_rfl) [_,vi l[k].kind,_,_,undef,undef,_,_,undef,undef,undef,undef,undef,undef,undef,_,_,undef,undef,undef,undef,undef,undef,undef,undef,undef,_,_] H (aD (Z0 rfl (Rf gV rfl)) (Z1 0 53 rfl (Ro aH 0 rfl)) (Z1 1 54 rfl (Rc rfl)) (Z1 2 55 rfl (Rm rfl)) (aD (aK (j:=3) (by kernel_rfl) (fun _ _ _ _ _ h=>h) rfl rfl rfl rfl rfl (fun _ _ h=>aL h (aF (aN c1))) rfl (fun _=>rfl)) (aK (j:=3) (by kernel_rfl) (fun _ _ _ _ _ h=>h) rfl rfl rfl rfl rfl (fun _ _ h=>aL h (aF (aN c1))) rfl (fun _=>rfl)) (Z2 3 56 5 58 rfl (Pf (aN c1) rfl)) (Z1 6 59 rfl (Rm rfl)) (aD (aK (j:=7) (by kernel_rfl) (fun _ _ _ _ _ h=>h) rfl rfl rfl rfl rfl (fun _ _ h=>aL h (aF rfl)) rfl (fun _=>rfl)) (aK (j:=7) (by kernel_rfl) (fun _ _ _ _ _ h=>h) rfl rfl rfl rfl rfl (fun _ _ h=>aL h (aF rfl)) rfl (fun _=>rfl)) (aK (j:=7) (by kernel_rfl) (fun _ _ _ _ _ h=>h) rfl rfl rfl rfl rfl (fun _ _ h=>aL h (aF rfl)) rfl (fun _=>rfl)) (aK (j:=7) (by kernel_rfl) (fun _ _ _ _ _ h=>h) rfl rfl rfl rfl rfl (fun _ _ h=>aL h (aF rfl)) rfl (fun _=>rfl)) (aD (aK (j:=7) (by kernel_rfl) (fun _ _ _ _ _ h=>h) rfl rfl rfl rfl rfl (fun _ _ h=>aL h (aF rfl)) rfl (fun _=>rfl)) (aK (j:=7) (by kernel_rfl) (fun _ _ _ _ _ h=>h) rfl rfl rfl rfl rfl (fun _ _ h=>aL h (aF rfl)) rfl (fun _=>rfl)) (aK (j:=7) (by kernel_rfl) (fun _ _ _ _ _ h=>h) rfl rfl rfl rfl rfl (fun _ _ h=>aL h (aF rfl)) rfl (fun _=>rfl)) (Z2 7 60 14 67 rfl (Pf rfl rfl)) (aD (Z1 15 68 rfl (Rm rfl)) (aK (j:=16) (by kernel_rfl) (fun _ _ _ _ _ h=>h) rfl rfl rfl rfl rfl (fun _ _ h=>aL h (aF rfl)) rfl (fun _=>rfl)) (aK (j:=16) (by kernel_rfl) (fun _ _ _ _ _ h=>h) rfl rfl rfl rfl rfl (fun _ _ h=>aL h (aF rfl)) rfl (fun _=>rfl)) (aK (j:=16) (by kernel_rfl) (fun _ _ _ _ _ h=>h) rfl rfl rfl rfl rfl (fun _ _ h=>aL h (aF rfl)) rfl (fun _=>rfl)) (aD (aK (j:=16) (by kernel_rfl) (fun _ _ _ _ _ h=>h) rfl rfl rfl rfl rfl (fun _ _ h=>aL h (aF rfl)) rfl (fun _=>rfl)) (aK (j:=16) (by kernel_rfl) (fun _ _ _ _ _ h=>h) rfl rfl rfl rfl rfl (fun _ _ h=>aL h (aF rfl)) rfl (fun _=>rfl)) (aK (j:=16) (by kernel_rfl) (fun _ _ _ _ _ h=>h) rfl rfl rfl rfl rfl (fun _ _ h=>aL h (aF rfl)) rfl (fun _=>rfl)) (aK (j:=16) (by kernel_rfl) (fun _ _ _ _ _ h=>h) rfl rfl rfl rfl rfl (fun _ _ h=>aL h (aF rfl)) rfl (fun _=>rfl)) (aD (aK (j:=16) (by kernel_rfl) (fun _ _ _ _ _ h=>h) rfl rfl rfl rfl rfl (fun _ _ h=>aL h (aF rfl)) rfl (fun _=>rfl)) (aK (j:=16) (by kernel_rfl) (fun _ _ _ _ _ h=>h) rfl rfl rfl rfl rfl (fun _ _ h=>aL h (aF rfl)) rfl (fun _=>rfl)) (Z2 16 69 25 78 rfl (Pf rfl rfl)) (Z1 26 79 rfl (Ra rfl)) cu))))))) ?_
      clear H;intro a w G iN H hv;have H:=H.aP (hv 27 52 rfl rfl) rfl;clear hv;refine aG ⟨rfl,?_⟩;refine ⟨(_,_),by exact (H).sub ⟨rfl,rfl,rfl,rfl,rfl,rfl,rfl,aB⟩,?_⟩;(try dsimp only);refine ⟨fun h=>by first|exact absurd h (by decide)|exact ⟨c1,c2,c3,oG h⟩,fun h=>?_,iN⟩
      first
        | exact absurd ((aA c4).symm.trans h) (by decide)
        | (rw [hos]
           refine DK hnd fun o2 z2 e2 hj=>?_;rw [yS,hyk,Gf] at hj;obtain ⟨j1,j2,j3⟩:=hj
           first
             | exact c1 j1
             | (have c2':0 < (out.length:Int):=by rw [e2,iM,List.length_singleton];omega
                obtain ⟨o,z,_,_,_,e,_,uQ,_⟩:=mM c2';obtain ⟨-,ez⟩:=List.append_inj' (e2.symm.trans e) rfl
                injection ez with ez
                subst ez
                first
                  | exact c2 c2'
                  | exact c3 (by rw [uQ];exact j2)
                  | exact c4 (by rw [uQ];exact j3)))
    clear H;intro gh a w hI H;obtain ⟨jb,g9⟩:=gh;dsimp only at hI H;obtain ⟨hjy,hjn,En⟩:=hI;have ahr:=Cv.mono En;have hr9:=xD.mono En;have Xh:∀ b o,G b=some o→g9 b=some o:=fun b o h=>En b o (Xg b o h);dsimp only [lca,bG] at H;refine kS H rfl ?_ ?_
    · intro lT
      try have p52:=dT lT
      obtain ⟨c1,c2,c3,c4⟩:=hjy (by assumption);obtain ⟨oo,z,x0,zf,zr,xC,rfl,rfl,rfl,hxs,hxl,hc0,hhz,hfz,hrz,hxj⟩:=mM c2
      have hzt:z.text.size≤jL out:=by
        rw [xC,Ad];simp only [jL];omega
      obtain ⟨cur,-,rfl,hcur,hset⟩:=hrw.set1;refine dI hmx [[],[],[1],[0,1,2],(ra 0 4),(ra 0 5),[],[6],(ra 0 8),(ra 0 9),(ra 0 10),(ra 0 11)] [9,10,11] (by kernel_rfl) [_,_,vi ((out.length - 1:Nat):Int),_,_,.string z.text,_,.string l[k].text,.string (z.text++l[k].text)] H (aD (Z0 rfl (Rm rfl)) (Z0 rfl (Rm rfl)) ?_ (Z2 0 80 2 82 rfl (Ri dZ bW rfl rfl)) (aD (Z1 3 83 rfl (Rf pG rfl)) ?_ (Z0 rfl (Rf pG rfl)) (Z1 6 86 rfl (Ro fV 0 rfl)) (aD ?_ (bN rfl) (bN rfl) (bN rfl) cu))) ?_
      · refine dB 1 81 rfl rfl fun _ a w G1 hG HT H fin=>?_;refine kH H (Rs rfl ?_);clear H;intro a H;exact fin H iJ (by show _=_;first|rfl|exact aC vi (by omega))
      · refine dB 4 84 rfl rfl fun _ a w G1 hG HT H fin=>?_;refine pX fV H wn rfl (hrw.at H.hp (fun x hx=>iZ _ hx) (by rw [jh];exact hxj 3 _ rfl)) rfl ?_;clear H;intro a H;exact fin H iJ rfl
      · refine bZ 5 85 7 87 rfl rfl fun _ a w G1 hG HT H fin=>?_;refine ZJ H wn rfl rfl (by omega) rfl ?_;clear H;intro a H;exact fin H iJ rfl
      clear H;intro a w G ni H hv;have H:=H.aP (hv 0 80 rfl rfl) rfl;have H:=H.aP (hv 2 82 rfl rfl) rfl;have H:=H.aP (hv 8 88 rfl rfl) rfl;clear hv;refine kH H (Ri dZ bW rfl rfl (Rf pG rfl ?_));clear H;intro a H;refine bM fV 1 (c:=cur) (vs:=[.string (z.text++l[k].text)]) (cur.set ((out.length - 1)*11+3) (.string (z.text++l[k].text))) H wn rfl rfl rfl rfl rfl rfl (by simp;omega) (by rw [jh];rfl) ?_;clear H;intro w H;dsimp only [List.set] at H;have aiq:=hset ((out.length - 1)*11+3) (.string (z.text++l[k].text))
      have Jg:pW l (k+1)=oo++[yR z y]:=by rw [hos,xC];exact NW hnd ⟨by rw [hyk];exact c1,c3,by rw [Gf];exact c4⟩
      refine aG ⟨rfl,?_⟩;refine K7 _ _ ?_;clear K7;refine kP H (SC (Rd rfl (Rm rfl ?_)));clear H;intro a H;refine aG ?_;refine dh ((k+1,_,xs.set ((out.length - 1)*11+3) (.string (z.text++l[k].text)),_,_)) (by exact (H.dP (Pl:=[_]) (dD:=[]) [] (by decide) rfl).sub ⟨rfl,rfl,rfl,rfl,aB⟩) ?_ ?_
      · (try dsimp only);exact ⟨by omega,by rw [Jg,show (oo++[yR z y]).length=out.length by rw [xC];simp];exact aiq,by rw [Jg,hxs,xC];exact joined (hc0.mono fun b o h=>ni b o (En b o h)) hxl (hhz.mono fun b o h=>ni b o (En b o h)) (hfz.mono fun b o h=>ni b o (En b o h)) (hrz.mono fun b o h=>ni b o (En b o h)) (by rw [Jz]),fun b o h=>ni b o (Xh b o h)⟩
      first|omega|(dsimp only;omega)
    intro lT
    try have p52:=dF lT
    have hnx:=hjn (by assumption);refine kP H (SC (Rm rfl ?_));clear H;intro a H;refine bJ bW (cs:=[_,_,_,_,_,_,_,_,_,_,_]) H wn rfl rfl (H.hp.dL 0 rfl rfl) rfl ?_;clear H;intro a H;refine gX dZ bW [_,_,_,_,_,_,_,_,_,_,_] [_,_,_,_,_,_,_,_,_,_,_] H wn rfl rfl rfl rfl rfl (by intro i q h;match i,h with|0,h=>exact h|n+1,h=>simp at h) rfl rfl ?_;clear H;intro KP a w LW H;refine oz (Li:=[_,_]) (Lo:=Lo) (news:=tZ) dZ bW rfl rfl H wn rfl rfl hrw (by rw [pJ];rfl) (by rw [pJ];exact H.hp.dL 0 rfl rfl) xD.one (by omega) (by omega) rfl ?_;clear H;intro v31 Ap a w Br H;refine kH H (aU K7 rfl (SC (Rd rfl (Rm rfl ?_))));clear H K7;intro a H;refine aG ?_;refine dh ((k+1,v31,xs++tZ,Ap,_)) (by exact (H.dP (Pl:=[_,_]) (dD:=[]) [] (by decide) rfl).sub ⟨rfl,rfl,rfl,rfl,aB⟩) ?_ ?_
    · (try dsimp only);exact ⟨by omega,by rw [hnx,iM];exact Br,by rw [hnx,kL];exact (ahr.snoc hr9 (by rw [pJ];rfl)),Xh⟩
    first|omega|(dsimp only;omega)
  intro h10 a H
  try have lV:=dF h10
  refine dW ?_;refine K3 _ _ ?_;clear K3;refine bK (fun _ bR=>?_)
  obtain rfl:k=l.length:=by omega
  obtain ⟨G',hm,hrep,H⟩:=H.um (Li:=[]) hrw (rows:=out.map au.dat) (by simp) jr;exact kP H (SC (Rm rfl (aU bR rfl (LR results44 rfl fun H=>H.rt (by rw [qD,← hout];exact hrep)))))
theorem Y6:∀ n:Nat,n≤1073741825→DJ n
 | 0,_=>fun _ _ _ _ _ _ _ h=>absurd h (by omega)
 | n+1,hn=>akh (Y6 n (by omega)) (by omega)
theorem akl (G:GH) (w0:World) (hG:Hold G w0) (l:List au) (v:aj) (hv:ay G (.sl 11 (l.map au.dat)) v) (hne:pV l) (hz:bg l≤1073741824) :
  Calls prog 44 #[v] w0 (bq w0 G fun u G'=>ay G' (.sl 11 ((qD l).map au.dat)) u):=Y6 1073741825 (by omega) G w0 hG l v hv hne (by omega)
end
section
open Go.RowKit
theorem Za:∀ {l:List au} {x:au},dQ l→x∈l→kD x=0
 | y :: l,x,h,hx=>by
  obtain ⟨C,body,note,t,s,s',e⟩:=h;rw [jk] at e;obtain ⟨e1,e⟩:=kR e
  rcases kK.1 hx with rfl|hx
  ·have e2:eH C body note t x s=(0,(eH C body note t x s).2):=Prod.ext e1 rfl
   generalize (eH C body note t x s).2=s2 at e2
   rw [Mr] at e2;exact (kR e2).1
  exact Za ⟨C,body,note,t,_,_,e⟩ hx
theorem ado:∀ b:Fin 256,pz .and .u8 (b.val:Int) 192=128→128≤b.val∧b.val < 194:=by decide +kernel
theorem Wz {s:ByteArray} (hv:oC s=true) (hs:0 < s.size):¬ pz .and .u8 (gF s 0) 192=128:=by
 intro h;rw [kN hs] at h;obtain ⟨h1,h2⟩:=ado ⟨_,UInt8.toNat_lt _⟩ h;dsimp only at h1 h2
 unfold oC at hv
 rw [nH,dif_pos hs] at hv
 have hd:(lQ s 0).2.2=false:=by
  unfold lQ
  simp only [kN hs]
  rw [av (by simp only [iH];rw [ah (by omega),av (by omega)])]
 rw [dif_neg (by rw [hd];decide)] at hv
 simp at hv
theorem Nn {l:List au} {x:au} (h:dQ l) (hx:x∈l):1≤dG x:=by
 have hf:=Za h hx;have hv:=(h.mem hx).txt
 unfold dG
 by_cases h1:x.kind=1
 ·rw [av h1]
  unfold kD at hf
  split at hf
  ·cases hf
  split at hf
  ·cases hf
  split at hf
  ·cases hf
  split at hf
  ·cases hf
  rename_i h2
  rw [jy (Or.inl h1),Ce] at h2
  have hs:0 < x.text.size:=by
   rcases Nat.eq_zero_or_pos x.text.size with h0|h0
   ·exfalso;apply h2
    have:x.text=⟨#[]⟩:=by
     apply ByteArray.ext
     exact Array.eq_empty_of_size_eq_zero h0
    rw [this];unfold sH;exact beq_self_eq_true _
   exact h0
  have hb:=Wz hv hs
  unfold mH
  rw [av hv,oh,av hs,ah hb]
  omega
 rw [ah h1];exact bT _
theorem GX:∀ p q:List au,bY (p++q)=bY p+bY q
 | [],q=>by rw [jP,bY,jh]
 | x :: p,q=>by rw [mG,bY,bY,GX p q,Nat.add_assoc]
theorem MI:∀ (o:Nat) (p q:List au),fM o (p++q)=fM o p++fM (o+bY p) q
 | _,[],q=>by rw [jP,fM,bY,tQ];rfl
 | o,x :: p,q=>by rw [mG,fM,fM,MI (o+dG x) p q,bY,mG,Nat.add_assoc]
theorem MJ:∀ {l:List au} {o:Nat} {a:Nat × au},a∈fM o l→o≤a.1∧a.1+dG a.2≤o+bY l∧a.2∈l
 | [],_,_,h=>by cases h
 | x :: l,o,a,h=>by
  rw [fM] at h;rw [bY]
  rcases kK.1 h with rfl|h
  ·exact ⟨bT _,by dsimp only;omega,gP⟩
  obtain ⟨h1,h2,h3⟩:=MJ h;exact ⟨by omega,by omega,iZ _ h3⟩
theorem Po {p:List au} {a:Nat × au} (h:a∈fM 0 p):uW (bY p:Nat) a=true:=by
 have:=MJ h;exact jy (by omega)
theorem WA {p q:List au} (hq:∀ y∈q,1≤dG y) {a:Nat × au} (h:a∈fM (0+bY p) q):uW (bY p:Nat) a=false:=by
 have h1:=MJ h;have h2:=hq _ h1.2.2;exact iU (by omega)
theorem left_at {p q:List au} (hq:∀ y∈q,1≤dG y):sS (bY p:Nat) (p++q)=p:=by
 unfold sS lA
 rw [MI,List.filter_append,List.filter_eq_self.2 fun a ha=>Po ha,List.filter_eq_nil_iff.2 fun a ha=>by rw [WA hq ha];decide,jA,JM]
theorem alb {p q:List au} (hq:∀ y∈q,1≤dG y):yZ (bY p:Nat) (p++q)=q:=by
 unfold yZ rA
 rw [MI,List.filter_append,List.filter_eq_nil_iff.2 fun a ha=>by rw [Po ha];decide,List.filter_eq_self.2 fun a ha=>by rw [WA hq ha];rfl,jP,JM]
theorem Vf (p q:List au):Dp (bY p:Nat) (p++q):=by
 intro a ha;rw [MI] at ha
 rcases jS.1 ha with h|h
 ·exact .inl (Po h)
 exact .inr (by have:=(MJ h).1;omega)
def Nu (t:Nat) (l:List au) (a:bP):Prop:=∃ (p:List au) (x:au) (q:List au),l=p++x :: q∧x.kind=8∧x.id=a.id∧x.code=a.code∧x.text=a.name∧a.at_=((t+bY p:Nat):Int)
def rz (L:List jf) (a:bP):Prop:=∃ F∈L,F.id=a.flow∧dQ F.items∧Nu 0 F.items a
theorem rz.left {L M:List jf} {a:bP} (h:rz L a):rz (L++M) a:=by obtain ⟨F,h1,h2⟩:=h;exact ⟨F,List.mem_append_left _ h1,h2⟩
theorem rz.right {L M:List jf} {a:bP} (h:rz M a):rz (L++M) a:=by obtain ⟨F,h1,h2⟩:=h;exact ⟨F,List.mem_append_right _ h1,h2⟩
theorem rz.cons {F:jf} {M:List jf} {a:bP} (h:rz M a):rz (F :: M) a:=rz.right (L:=[F]) h
mutual
theorem abR (g:Int) (t:Nat) (note:Bool) (tt:Int) (a:bP):∀ x:au,wQ x→a∈xS g t x→(g=a.flow∧x.kind=8∧x.id=a.id∧x.code=a.code∧x.text=a.name∧a.at_=(t:Int))∨rz (wL note tt x) a
 | .mk k c i tx h fl r,hx,ha=>by
  have hf:=KO i 0 true tt a fl hx.fl;have hr:=UG note tt a r hx.rw;have hok:=hx.fl;rw [xS] at ha;rw [wL]
  rcases jS.1 ha with ha|ha
  ·by_cases h8:k=8
   ·rw [av h8,qK] at ha;subst ha;exact .inl ⟨rfl,h8,rfl,rfl,rfl,rfl⟩
   rw [ah h8] at ha;cases ha
  refine .inr ?_
  rcases jS.1 ha with ha|ha
  ·by_cases h6:k=6
   ·rw [av h6] at ha ⊢
    rcases hf ha with ⟨e,h2⟩|h2
    ·exact ⟨_,gP,e,hok,h2⟩
    exact h2.cons
   rw [ah h6] at ha;cases ha
  by_cases h7:k=7
  ·rw [av h7] at ha;rw [ah (by omega),av h7];exact hr ha
  rw [ah h7] at ha;cases ha
theorem KO (g:Int) (t:Nat) (note:Bool) (tt:Int) (a:bP):∀ l:List au,dQ l→a∈dX g t l→(g=a.flow∧Nu t l a)∨rz (jd note tt l) a
 | [],_,ha=>by rw [dX] at ha;cases ha
 | x :: l,hl,ha=>by
  obtain ⟨hx,hl⟩:=hl.head;have h1:=abR g t note tt a x hx;have h2:=KO g (t+n1 x) note tt a l hl;rw [dX] at ha;rw [jd]
  rcases jS.1 ha with ha|ha
  ·rcases h1 ha with ⟨e,h3,h4,h5,h6,h7⟩|h3
   ·exact .inl ⟨e,[],x,l,rfl,h3,h4,h5,h6,by rw [h7];rfl⟩
   exact .inr h3.left
  rcases h2 ha with ⟨e,p,y,q,h3,h4,h5,h6,h7,h8⟩|h3
  ·refine .inl ⟨e,x :: p,y,q,by rw [h3];rfl,h4,h5,h6,h7,?_⟩;rw [h8,hx.n1,bY,Nat.add_assoc]
  exact .inr h3.right
theorem UG (note:Bool) (tt:Int) (a:bP):∀ l:List bD,(∀ r∈l,∀ c∈r.cells,dQ c.flow)→a∈lH l→rz (oQ note tt l) a
 | [],_,ha=>by rw [lH] at ha;cases ha
 | x :: l,hl,ha=>by
  rw [lH] at ha;rw [oQ]
  rcases jS.1 ha with ha|ha
  ·exact (abS note tt a x (hl x gP) ha).left
  exact (UG note tt a l (fun r hr=>hl r (iZ _ hr)) ha).right
theorem abS (note:Bool) (tt:Int) (a:bP):∀ x:bD,(∀ c∈x.cells,dQ c.flow)→a∈xU x→rz (wM note tt x) a
 | .mk h cs,hx,ha=>by
  rw [xU] at ha;rw [wM];exact UF note tt a cs hx ha
theorem UF (note:Bool) (tt:Int) (a:bP):∀ l:List bF,(∀ c∈l,dQ c.flow)→a∈nX l→rz (qg note tt l) a
 | [],_,ha=>by rw [nX] at ha;cases ha
 | x :: l,hl,ha=>by
  rw [nX] at ha;rw [qg]
  rcases jS.1 ha with ha|ha
  ·exact (abQ note tt a x (hl x gP) ha).left
  exact (UF note tt a l (fun c hc=>hl c (iZ _ hc)) ha).right
theorem abQ (note:Bool) (tt:Int) (a:bP):∀ x:bF,dQ x.flow→a∈xR x→rz (wK note tt x) a
 | .mk i h fl,hx,ha=>by
  rw [xR] at ha;rw [wK];have hok:dQ fl:=hx
  rcases KO i 0 note (tt+1) a fl hok ha with ⟨e,h2⟩|h2
  ·exact ⟨_,gP,e,hok,h2⟩
  exact h2.cons
end
theorem Ux {l:List au} (h:uI l) {a:bP} (ha:a∈dX 0 0 l):∃ L,qy l a.flow=some L∧dQ L∧Nu 0 L a:=by
 have h1:rz (AX l) a:=by
  rcases KO 0 0 false 0 a l h.ok ha with ⟨e,h2⟩|h2
  ·exact ⟨_,gP,e,h.ok,h2⟩
  exact h2.cons
 obtain ⟨F,hF,e,h2,h3⟩:=h1;refine ⟨F.items,?_,h2,h3⟩
 unfold qy
 rw [← e,agh h.ids hF]
 rfl
end
section
open Go.RowKit
theorem ald {C:gy} {h:iE} {n:Nat} (e:C8 C h n=0):n≠0:=by
 intro hn;have:=uV e _ (iZ _ gP);rw [hn] at this
 cases this
mutual
theorem ajZ (C:gy) (body note:Bool) (t:Int):∀ (x:au) (s s':CS),eH C body note t x s=(0,s')→EK x
 | .mk k c i tx h f r,s,s',e=>by
  have hf:=MG C false true t f;have hr:=Y3 C note (t+1) r;rw [eH] at e;obtain ⟨e0,e⟩:=kR e;obtain ⟨-,-,Jq,Xd⟩:=WM e0;(iterate 2 obtain ⟨-,e⟩:=kR e);dsimp only [au.kind,au.rows,au.flow] at Jq Xd;rw [EK]
  by_cases h6:k=6
  ·rw [av h6] at e;refine ⟨hf _ _ e,?_⟩;rw [Jq (by omega),zW];trivial
  rw [ah h6] at e;rw [Xd h6];refine ⟨by rw [pV];trivial,?_⟩
  by_cases h7:k=7
  ·rw [av h7] at e;exact hr _ _ (RQ e).2
  rw [Jq h7,zW];trivial
theorem akb (C:gy) (note:Bool) (t:Int):∀ (x:bD) (s s':CS),BG C note t x s=(0,s')→CY x
 | .mk h cs,s,s',e=>by
  have hc:=Y2 C note t cs;rw [JO] at e;obtain ⟨e0,e⟩:=kR e;rw [CY];exact ⟨fun e'=>ald e0 (by rw [show (bD.mk h cs).cells=cs from rfl,e'];rfl),hc _ _ e⟩
theorem ajY (C:gy) (note:Bool) (t:Int):∀ (x:bF) (s s':CS),cellC C note t x s=(0,s')→CW x
 | .mk i h f,s,s',e=>by
  have hf:=MG C false note t f;rw [Io] at e;rw [CW];exact hf _ _ (kR (kR e).2).2
theorem MG (C:gy) (body note:Bool) (t:Int):∀ (l:List au) (s s':CS),jk C body note t l s=(0,s')→pV l
 | [],s,s',e=>by rw [pV];trivial
 | x :: r,s,s',e=>by
  rw [jk] at e;obtain ⟨e1,e⟩:=kR e;rw [pV];exact ⟨ajZ C body note t x s _ (Prod.ext e1 rfl),MG C body note t r _ _ e⟩
theorem Y3 (C:gy) (note:Bool) (t:Int):∀ (l:List bD) (s s':CS),iK C note t l s=(0,s')→zW l
 | [],s,s',e=>by rw [zW];trivial
 | x :: r,s,s',e=>by
  rw [iK] at e;obtain ⟨e1,e⟩:=kR e;rw [zW];exact ⟨akb C note t x s _ (Prod.ext e1 rfl),Y3 C note t r _ _ e⟩
theorem Y2 (C:gy) (note:Bool) (t:Int):∀ (l:List bF) (s s':CS),qM C note t l s=(0,s')→CX l
 | [],s,s',e=>by rw [CX];trivial
 | x :: r,s,s',e=>by
  rw [qM] at e;obtain ⟨e1,e⟩:=kR e;rw [CX];exact ⟨ajY C note t x s _ (Prod.ext e1 rfl),Y2 C note t r _ _ e⟩
end
theorem dQ.ne {l:List au} (h:dQ l):pV l:=by
 obtain ⟨C,body,note,t,s,s',e⟩:=h;exact MG C body note t l s s' e
theorem ajU {m l:List au} (hs:∀ x∈m,x∈l) (h:pV l):pV m:=Y0 fun x hx=>Rw h x (hs x hx)
theorem dQ.uy {l:List au} (h:dQ l):uy l=0:=by unfold Go.Proofs.YteopmoocmoigcaaGreat.uy;rw [av h.div]
theorem amd (G:GH) (w0:World) (hG:Hold G w0) (p m q:List au) (v:aj) (hv:ay G (.sl 11 ((p++(m++q)).map au.dat)) v) (hok:dQ (p++(m++q))) (hz:bg (p++(m++q))≤1073741824) :
  Calls prog 19 #[v,vi (bY p),vi (bY (p++m))] w0 (bq w0 G fun u G'=>∃ x,u=.tuple #[x,vi 0]∧ay G' (.sl 11 ((qD m).map au.dat)) x):=by
 obtain ⟨l,hl⟩:∃ l,l=p++(m++q):=⟨_,rfl⟩
 have hl2:l=(p++m)++q:=by rw [hl,nE]
 rw [← hl] at hv hok hz;have hq:∀ y∈q,1≤dG y:=fun y hy=>Nn hok (by rw [hl2];exact List.mem_append_right _ hy);have hm:∀ y∈m,1≤dG y:=fun y hy=>Nn hok (by rw [hl2];exact List.mem_append_left _ (List.mem_append_right _ hy))
 have e1:sS (bY (p++m):Nat) l=p++m:=by rw [hl2];exact left_at hq
 have e2:yZ (bY p:Nat) (p++m)=m:=alb hm
 have h1:Dp (bY (p++m):Nat) l:=by rw [hl2];exact Vf _ _
 have h2:Dp (bY p:Nat) (p++m):=Vf _ _
 have hr:za l (bY p:Nat) (bY (p++m):Nat)=0:=by
  have h3:bY l=bY p+bY m+bY q:=by rw [hl2,GX,GX]
  have h4:wC l=bY l:=hok.len;rw [za,av hok.uy,ah];rw [h4,GX]
  omega
 have hne:pV m:=ajU (fun x hx=>by rw [hl2];exact List.mem_append_left _ (List.mem_append_right _ hx)) hok.ne;have z1:=E8 (Yn (bY (p++m):Nat) l);have z2:=E8 (Zx (bY p:Nat) (p++m));rw [e1] at z1;rw [e2] at z2;refine eN [(0,_),(1,_),(2,_)] func19 rfl ntmps19 rfl rfl hG ?_;intro a H;refine kP H (SR fun _ K1=>Ra rfl (ak K1 rfl (SQ fun _ K2=>SR fun _ K3=>Rm rfl (Rm rfl (Rm rfl ?_)))));clear H K1;intro a H;refine s_call VL H wn rfl (U6 _ _ H.ro l _ _ v hv (by omega)) rfl ?_;clear H;rintro v16 ru a w rfl qR H;rw [hr] at H;refine kH H (ak K3 rfl (SR fun _ K4=>Rm rfl (Rc rfl (Kz K4 (Cd rfl ?_ ?_))))) <;> clear H K3 K4
 ·intro h18 a H
  exact absurd h18 (by decide)
 intro h18 a H
 try have rV:=dF h18
 refine kP H (Kc K2 (SR fun _ K5=>Rm rfl (Rm rfl ?_)));clear H K2;intro a H;refine s_call La H wn rfl (KW _ _ H.ro l _ v (hv.mono qR) hz h1) rfl ?_;clear H;rintro v23 Hz a w ⟨x,y,rfl,hx,hy⟩ mq H;rw [e1] at hx;refine kH H (Rm rfl ?_);clear H;intro a H;(iterate 2 refine jc H wn rfl rfl rfl ?_;clear H;intro a H);refine kH H (Ra rfl (ak K5 rfl (SR fun _ K6=>Rm rfl (Rm rfl ?_))));clear H K5;intro a H;refine s_call La H wn rfl (KW _ _ H.ro (p++m) _ x hx (by omega) h2) rfl ?_;clear H;rintro v29 Kl a w ⟨x2,y2,rfl,hx2,hy2⟩ Mc H;rw [e2] at hy2;refine kH H (Rm rfl ?_);clear H;intro a H;(iterate 2 refine jc H wn rfl rfl rfl ?_;clear H;intro a H);refine kH H (Ra rfl (ak K6 rfl (SR fun _ K7=>Rm rfl ?_)));clear H K6;intro a H;refine s_call Iz H wn rfl (akl _ _ H.ro m y2 hy2 hne (by omega)) rfl ?_;clear H;rintro v33 Tq a w Jk ahI H;obtain ⟨A33,n33,c33,rfl⟩:=Jk.form;refine kH H (Ra rfl (ak K7 rfl ?_));clear H K7;intro a H;refine cK ?_;refine (eG H results19 (.cons (aS H rfl) (.cons (aS H rfl) .nil)) ?_).1;exact H.rt ⟨_,rfl,Jk⟩
def ji (l:List au):List UInt8:=l.flatMap fun x=>if x.kind=1 then x.text.data.toList else []
theorem zF (a b:List au):ji (a++b)=ji a++ji b:=by simp [ji]
theorem wV (x:au):ji [x]=if x.kind=1 then x.text.data.toList else []:=by simp [ji]
theorem abY (out:List au) (y:au):ji (addN out y)=ji out++ji [y]:=by
 by_cases h:uP y
 ·rw [KH h,wV]
  rcases h with ⟨h1,-⟩|⟨h1,h2⟩
  ·rw [ah (by omega),jA]
  rw [av h1,ByteArray.size_eq_zero_iff.1 h2];exact (jA _).symm
 by_cases hj:∃ o z,out=o++[z]∧yS z y
 ·obtain ⟨o,z,rfl,hj⟩:=hj;rw [NW h hj,zF,zF,wV,wV,wV,av hj.1,av (show (yR z y).kind=1 from hj.2.1),av hj.2.1]
  have:(yR z y).text.data.toList=z.text.data.toList++y.text.data.toList:=by
   show (z.text++y.text).data.toList=_
   simp
  rw [this,nE]
 rw [DK h fun o z e hz=>hj ⟨o,z,e,hz⟩,zF]
theorem UN {l:List au}:∀ {k:Nat},k≤l.length→ji (pW l k)=ji (l.take k)
 | 0,_=>by simp [pW]
 | k+1,h=>by
  rw [MK (by omega),abY,UN (k:=k) (by omega),jg (by omega),zF,wV,wV,Rq]
  rfl
theorem abZ (l:List au):ji (qD l)=ji l:=by unfold qD;rw [UN (bT _),wS]
theorem aby {out:List au} {y:au} (h:∀ x∈out,x.kind=1→x.text.size≠0):∀ x∈addN out y,x.kind=1→x.text.size≠0:=by
 by_cases hd:uP y
 ·rw [KH hd];exact h
 have hy:y.kind=1→y.text.size≠0:=fun h1 h2=>hd (.inr ⟨h1,h2⟩)
 rcases Ut out y with e|e|⟨o,z,rfl,hz,hy1,e⟩ <;> rw [e]
 ·exact h
 ·intro x hx
  rcases jS.1 hx with hx|hx
  ·exact h x hx
  rw [qK.1 hx];exact hy
 intro x hx
 rcases jS.1 hx with hx|hx
 ·exact h x (List.mem_append_left _ hx)
 rw [qK.1 hx];intro _;have h1:=hy hy1;have h2:(yR z y).text.size=z.text.size+y.text.size:=ByteArray.size_append
 omega
theorem Zc (l:List au):∀ (k:Nat),k≤l.length→∀ x∈pW l k,x.kind=1→x.text.size≠0
 | 0,_=>fun x hx=>by simp [pW] at hx
 | k+1,h=>by rw [MK (by omega)];exact aby (Zc l k (by omega))
theorem akm {l:List au}:∀ x∈qD l,x.kind=1→x.text.size≠0:=Zc l l.length (bT _)
theorem Oa:∀ l:List au,(ji l).length≤jL l
 | []=>bT _
 | x :: l=>by
  have:=Oa l;have h3:x.text.data.toList.length=x.text.size:=sD;rw [show x :: l=[x]++l from rfl,zF,iM,wV,Ad]
  simp only [jL]
  split
  ·omega
  simp only [List.length_nil];omega
theorem akJ {a b c d:List au} (h:a++b=c++d) (hu:∀ x∈a++b,1≤dG x) (hs:bY a≤bY c):∃ m,c=a++m∧b=m++d:=by
 rcases List.append_eq_append_iff.1 h with ⟨m,e1,e2⟩|⟨m,e1,e2⟩
 ·exact ⟨m,e1,e2⟩
 have hm:m=[]:=by
  cases m with
  | nil=>rfl
  | cons x m =>
   exfalso
   have:=hu x (by rw [e1];simp);rw [e1,GX,bY] at hs
   omega
 subst hm;exact ⟨[],by rw [jA,e1,jA],by rw [e2];simp⟩
theorem aac {l:List au} (h:uI l) {c:Int} {s:jO} (hs:s∈nP (dX 0 0 l) c):∃ p m q:List au,qy l s.ff=some (p++(m++q))∧dQ (p++(m++q))∧s.fa=(bY p:Int)∧s.ta=(bY (p++m):Int):=by
 obtain ⟨a,ha,rfl⟩:=List.mem_map.1 hs;have ha2:=(List.mem_filter.1 ha).1;obtain ⟨L,hf,hok,p,x,q,rfl,h1,h2,h3,h4,h5⟩:=Ux h ha2
 have hx1:dG x=1:=by unfold dG;rw [ah (by omega)]
 have hpx:bY (p++[x])=bY p+1:=by rw [GX,bY,hx1];rfl
 rw [jh] at h5
 have hL:p++x :: q=(p++[x])++q:=by simp
 rw [hL] at hf hok
 show ∃ p' m' q',qy l a.flow=some (p'++(m'++q'))∧dQ (p'++(m'++q'))∧a.at_+1=(bY p':Int)∧(yw (dX 0 0 l) c a).2=(bY (p'++m'):Int)
 unfold yw
 cases he:mI (dX 0 0 l) (c+1) a.id with
 | none=>exact ⟨p++[x],[],q,hf,hok,by rw [hpx,h5];omega,by rw [jA,hpx,h5];dsimp only;omega⟩
 | some e =>
  dsimp only
  by_cases hc:e.flow=a.flow∧a.at_ < e.at_
  ·rw [av hc];obtain ⟨L2,hf2,hok2,p2,x2,q2,rfl,g1,g2,g3,g4,g5⟩:=Ux h (List.mem_of_find?_eq_some he);rw [hc.1,hf] at hf2;have e3:=Option.some.inj hf2;rw [jh] at g5;obtain ⟨m,e4,e5⟩:=akJ e3 (fun y hy=>Nn hok hy) (by rw [hpx];omega);rw [e5] at hf hok;exact ⟨p++[x],m,_,hf,hok,by rw [hpx,h5];omega,by rw [← e4,g5]⟩
  rw [ah hc];exact ⟨p++[x],[],q,hf,hok,by rw [hpx,h5];omega,by rw [jA,hpx,h5];dsimp only;omega⟩
end
section
open Go.RowKit
section
variable {N:Nat} {D:List Deferred} {w0:World} {F:Nat→Prop} {G0 G:GH} {L:OL} {T:List (Nat × aj)}
variable {r:Option Nat} {P:Program} {ops:Array Oper} {Q:Exit→Act→World→Prop} {rest:List Oper} {a:Act} {w:World}
variable {d:Nat} {ty:TypeId} {pos:String} {aM:Array Edge} {g:Option (Nat × Bool)}
theorem alC {t:TypeId} {x:Operand} {n c:Nat} (H:St N D w0 F G0 G L T a w) (hw:Region.wanted ⟨some d,.call { callee:=.builtin .unsafeSliceData,args:=#[x],argTypes:=#[t] },ty,pos,aM,g⟩ (yielded ops a.tmps)=true) (hx:ev T x=some (.slice none n c)) (hd:Nat.blt d N=true)
  (k:∀ a',St N D w0 F G0 G L ((d,.pointer none) :: T) a' w→WL r P ops Q rest a' w):WL r P ops Q (⟨some d,.call { callee:=.builtin .unsafeSliceData,args:=#[x],argTypes:=#[t] },ty,pos,aM,g⟩ :: rest) a w:=by
 refine fq (v:=.pointer none) (w':=w) hw rfl ?_ (k _ (H.put hd _ H.hp))
 have h:=Lib.run_unsafeSliceData_nil (P:=P) (w:=w) #[t] ty n c
 simp [execOp,resolve,invoke,builtin,H.ev hx,cZ,h]
theorem alG {pt it:TypeId} {x y:Operand} {p:Option Addr} (H:St N D w0 F G0 G L T a w)
  (hw:Region.wanted ⟨some d,.call { callee:=.builtin .unsafeString,args:=#[x,y],argTypes:=#[pt,it] },ty,pos,aM,g⟩ (yielded ops a.tmps)=true) (hx:ev T x=some (.pointer p)) (hy:ev T y=some (.int .i64 0)) (hd:Nat.blt d N=true)
  (k:∀ a',St N D w0 F G0 G L ((d,.string ⟨#[]⟩) :: T) a' w→WL r P ops Q rest a' w):WL r P ops Q (⟨some d,.call { callee:=.builtin .unsafeString,args:=#[x,y],argTypes:=#[pt,it] },ty,pos,aM,g⟩ :: rest) a w:=by
 have h:=Lib.run_unsafeString_none (P:=P) (w:=w) pt it ty p
 refine fq (v:=.string ⟨#[]⟩) (w':=w) hw rfl ?_ (k _ (H.put hd _ H.hp))
 simp [execOp,resolve,invoke,builtin,H.ev hx,H.ev hy,cZ,h]
 rfl
end
end
section
open Go.RowKit
theorem amv (G:GH) (Lo:OL) (w0:World) (b:Nat) (p:aj) (hO:gZ G (bB b p (.slice none 0 0) :: Lo) w0) :
  Calls prog 49 #[(aI b 0)] w0 (gI w0 G (bB b p (.slice none 0 0) :: Lo) fun u G' L'=>u=.string ⟨#[]⟩):=by
 refine jZ (N:=14) (T:=[(0,_)]) func49 rfl ntmps49 rfl rfl hO ?_;intro a H;refine kP H (SR fun _ K1=>ak K1 rfl (SQ fun _ K2=>?_));clear H K1;intro a H;have H:=H.sub (T':=[(0,_)]) ⟨rfl,aB⟩;refine dI hmx [[],[0],[0,1],[0,1,2],(ra 0 4),[],[5],[5,6],[5,6,7],(ra 5 4),(ra 0 10),(ra 0 11)] [11] (by kernel_rfl) [_,_,_,.slice none 0 0,.pointer none,_,_,_,.slice none 0 0,_,.string ⟨#[]⟩] H (aD (Z0 rfl (Rm rfl)) (Z1 0 3 rfl (Rk rfl)) (Z1 1 4 rfl (Rf wY rfl)) (Z1 2 5 rfl (Ro xK 0 rfl)) (aD ?_ (Z0 rfl (Rm rfl)) (Z1 5 8 rfl (Rk rfl)) (Z1 6 9 rfl (Rf wY rfl)) (aD (Z1 7 10 rfl (Ro xK 0 rfl)) (Z1 8 11 rfl (Rl vH rfl)) ?_ (bN rfl) cu))) ?_
 ·refine dB 3 6 rfl rfl fun _ a w G1 hG HT H fin=>?_;refine alC H wn rfl rfl ?_;clear H;intro a H;exact fin H iJ rfl
 ·refine bZ 4 7 9 12 rfl rfl fun _ a w G1 hG HT H fin=>?_;refine alG H wn rfl rfl rfl ?_;clear H;intro a H;exact fin H iJ rfl
 clear H;intro a w G mh H hv;have H:=H.aP (hv 10 13 rfl rfl) rfl;clear hv;refine kH H (Ra rfl ?_);clear H;intro a H;refine aG ⟨rfl,?_⟩;refine K2 _ _ ?_;clear K2;refine lr H results49 rfl ?_;exact H.hp.eX rfl
theorem amu (G:GH) (Lo:OL) (w0:World) (b:Nat) (p v:aj) (l:List UInt8) (hO:gZ G (bB b p v :: Lo) w0) (hrow:dz 5 1 v l.length (Lib.byteCells l) Lo) (h0:l=[]→v=.slice none 0 0) :
  Calls prog 49 #[(aI b 0)] w0 (gI w0 G (bB b p v :: Lo) fun u G' L'=>u=.string ⟨l.toArray⟩):=by
 by_cases h:l=[]
 ·obtain rfl:=h0 h;subst h;exact amv G Lo w0 b p hO
 exact aan G Lo w0 b p v l hO hrow h
theorem Ob {l:List au} {k:Nat} (hk:k < l.length):ji (l.take (k+1))=ji (l.take k)++if l[k].kind=1 then l[k].text.data.toList else []:=by
 rw [jg hk,zF,wV]
theorem acf (a b:List UInt8):Lib.byteCells (a++b)=Lib.byteCells a++Lib.byteCells b:=by simp [Lib.byteCells]
theorem abM (G:GH) (w0:World) (hG:Hold G w0) (D:nA) (l:List au) (s:ByteArray) (hv:ay G (.sl 11 (l.map au.dat)) (fD D.f)) (hok:uI l) (hz:bg l≤1073741824) (hn:uh l s=none) :
  Calls prog 27 #[D.val,.string s] w0 (bq w0 G fun u G'=>u=.tuple #[.string ⟨#[]⟩,.bool false]):=by
 refine eN [(0,_),(1,_)] func27 rfl ntmps27 rfl rfl hG ?_;intro a H;refine dH (fun _ K1=>?_);refine fC (cs:=[_,_,_,_,_,_,_,_,_,_,_]) H wn rfl rfl rfl ?_;clear H;intro b2 a w hb2 H;refine kH H (Ra rfl (ak K1 rfl (SQ fun _ K2=>?_)));clear H K1;intro a H;obtain ⟨Ga,hma,hb',H⟩:=H.eu;have hga:=fun j v hj=>zN hb' 0 D.cells rfl j v hj;replace hv:=hv.mono hma;refine oH ?_;refine bJ rY (cs:=D.cells) H wn rfl rfl (fun j v hj=>H.hp.aJ (hga j v hj)) rfl ?_;clear H;intro a H;refine kH H (Rm rfl ?_);clear H;intro a H;refine s_call KZ H wn rfl (KG _ _ H.ro D l s hv hok.ok hz) rfl ?_;clear H;rintro v18 Kj a w rfl hm18 H;rw [hn] at H;dsimp only [Option.getD_none,Option.isSome_none] at H;refine kH H (Rm rfl ?_);clear H;intro a H;(iterate 2 refine jc H wn rfl rfl rfl ?_;clear H;intro a H);refine eB jD H wn rfl ?_;clear H;intro b6 a w hb6 H;refine bM jD 0 (vs:=[_,_,_,_,_,_]) _ H wn rfl rfl rfl rfl rfl rfl rfl rfl ?_;clear H;intro w H;dsimp only [List.set,setRow] at H;refine kH H (aU K2 rfl (SQ fun _ K3=>SR fun _ K4=>Rm rfl (Rn rfl (Kz K4 (Cd rfl ?_ ?_))))) <;> clear H K2 K4
 ·intro h22 a H
  refine kP H (SR fun _ K5=>Ra rfl (ak K5 rfl ?_));clear H K5;intro a H;refine cK ?_;refine (eG H results27 (.cons (aS H rfl) (.cons (aS H rfl) .nil)) ?_).1;exact H.rt rfl
 intro h22 a H
 exact absurd h22 (by decide)
set_option maxHeartbeats 1000000 in
theorem abN (G:GH) (w0:World) (hG:Hold G w0) (D:nA) (l:List au) (s:ByteArray) (hv:ay G (.sl 11 (l.map au.dat)) (fD D.f)) (hok:uI l) (hz:bg l≤1073741824) (sp:jO) (hn:uh l s=some sp)
  (p m q:List au) (hf:qy l sp.ff=some (p++(m++q))) (ahY:dQ (p++(m++q))) (hfa:sp.fa=(bY p:Int)) (hta:sp.ta=(bY (p++m):Int)) :
  Calls prog 27 #[D.val,.string s] w0 (bq w0 G fun u G'=>u=.tuple #[.string ⟨(ji m).toArray⟩,.bool true]):=by
 have hzL:bg (p++(m++q))≤1073741824:=Nat.le_trans (WG hf) hz
 have hnt:jL (qD m)≤1073741824:=by
  have h1:=ML (l:=m) (k:=m.length) (bT _);have h2:=ER m
  have h3:bg m≤bg (p++(m++q)):=by rw [Ta,Ta];omega
  rw [wS] at h1
  unfold qD;omega
 have hb:=abZ m;have hne:=akm (l:=m);obtain ⟨R,hR⟩:∃ R,R=qD m:=⟨_,rfl⟩;rw [← hR] at hnt hb hne;have hRl:=Gn R;refine eN [(0,_),(1,_)] func27 rfl ntmps27 rfl rfl hG ?_;intro a H;refine dH (fun _ K1=>?_);refine fC (cs:=[_,_,_,_,_,_,_,_,_,_,_]) H wn rfl rfl rfl ?_;clear H;intro b2 a w hb2 H;refine kH H (Ra rfl (ak K1 rfl (SQ fun _ K2=>?_)));clear H K1;intro a H;obtain ⟨Ga,hma,hb',H⟩:=H.eu;have hga:=fun j v hj=>zN hb' 0 D.cells rfl j v hj;replace hv:=hv.mono hma;refine oH ?_;refine bJ rY (cs:=D.cells) H wn rfl rfl (fun j v hj=>H.hp.aJ (hga j v hj)) rfl ?_;clear H;intro a H;refine kH H (Rm rfl ?_);clear H;intro a H;refine s_call KZ H wn rfl (KG _ _ H.ro D l s hv hok.ok hz) rfl ?_;clear H;rintro v18 Kj a w rfl hm18 H;rw [hn] at H;dsimp only [Option.getD_some,Option.isSome_some] at H;replace hv:=hv.mono hm18;replace hga:=fun j v hj=>aO hm18 (hga j v hj);refine kH H (Rm rfl ?_);clear H;intro a H;(iterate 2 refine jc H wn rfl rfl rfl ?_;clear H;intro a H);refine eB jD H wn rfl ?_;clear H;intro b6 a w hb6 H;refine bM jD 0 (vs:=[_,_,_,_,_,_]) _ H wn rfl rfl rfl rfl rfl rfl rfl rfl ?_;clear H;intro w H;dsimp only [List.set,setRow] at H;refine kH H (aU K2 rfl (SQ fun _ K3=>SR fun _ K4=>Rm rfl (Rn rfl (Kz K4 (Cd rfl ?_ ?_))))) <;> clear H K2 K4
 ·intro h22 a H
  exact absurd h22 (by decide)
 intro h22 a H
 try have iC:=dF h22
 refine fZ ?_;refine K3 _ _ ?_;clear K3;refine dH (fun _ K5=>?_);refine bJ rY (cs:=D.cells) H wn rfl rfl (fun j v hj=>H.hp.aJ (hga j v hj)) rfl ?_;clear H;intro a H;refine kH H (Rf uT rfl (aT AU aH 0 rfl rfl ?_));clear H;intro a H;refine s_call VE H wn rfl (WH _ _ H.ro D l sp.ff hv (by omega)) rfl ?_;clear H;rintro v28 Tp a w ⟨x28,rfl,hx28⟩ ahH H;rw [hf,Option.getD_some] at hx28;obtain ⟨A28,n28,c28,rfl⟩:=hx28.form;refine kH H (Rm rfl ?_);clear H;intro a H;(iterate 2 refine jc H wn rfl rfl rfl ?_;clear H;intro a H);refine kH H (Ra rfl (ak K5 rfl (SR fun _ K6=>Rm rfl (Rf uT rfl (aT sJ aH 0 rfl rfl (Rf Ck rfl (aT sJ aH 0 rfl rfl ?_)))))));clear H K5;intro a H;refine s_call VG H wn (by rw [hfa,hta];rfl) (amd _ _ H.ro p m q _ hx28 ahY hzL) rfl ?_;clear H;rintro v39 Ko a w ⟨x39,rfl,hx39⟩ Xn H;rw [← hR] at hx39;obtain ⟨A39,n39,c39,rfl⟩:=hx39.form;have Xw:=hx39.len;rw [bV] at Xw;subst Xw;refine kH H (Rm rfl ?_);clear H;intro a H;(iterate 2 refine jc H wn rfl rfl rfl ?_;clear H;intro a H);refine kH H (Ra rfl (ak K6 rfl (SR fun _ K7=>?_)));clear H K6;intro a H;refine eB aat H wn rfl ?_;clear H;intro b12 a w Bg H;refine K7 _ _ ?_;clear K7;refine kP H (SQ fun _ K8=>SR fun _ K9=>Rm rfl (Rl dZ rfl (Rm rfl (Kz K9 (SB ?_)))));clear H K9;intro a H;skip;refine eU (ι:=Nat × aj × aj × OL) (Tc:=[(12,_),(42,_),(43,_)]) (Lc:=[(_,_)]) (fun gh=>[(44,vi gh.1)]) (fun gh=>[bB b12 gh.2.1 gh.2.2.1]++gh.2.2.2) (fun gh=>Ko) (fun gh=>gh.1≤R.length∧(gh.2.1=.pointer none∨gh.2.1=(aI b12 0))∧dz 5 1 gh.2.2.1 (ji (R.take gh.1)).length (Lib.byteCells (ji (R.take gh.1))) gh.2.2.2∧(ji (R.take gh.1)=[]→gh.2.2.1=.slice none 0 0)) (fun gh=>R.length - gh.1) ((0,.pointer none,.slice none 0 0,[])) (by exact (H.dP (Pl:=[_,_]) (dD:=[_,_]) [1,0] (by decide) rfl).sub ⟨rfl,rfl,rfl,rfl,aB⟩) ?_ ?_
 ·exact ⟨by omega,.inl rfl,dz.nil,fun _=>rfl⟩
 clear H;intro gh a w hI H;obtain ⟨k,p,v,Lo⟩:=gh;dsimp only at hI H;obtain ⟨hk,hpp,hrw,hnl⟩:=hI;have hbl:=Oa (R.take k);have htk:=ES R k;dsimp only [lca,bG] at H;refine kP H (SR fun _ aQ=>Rc rfl (Kz aQ (SQ fun _ bH=>Cd rfl ?_ ?_))) <;> clear H aQ
 ·intro h45 a H
  try have p45:=dT h45
  have hk2:k < R.length:=by omega
  obtain ⟨b,o,pA,pn,pc,dA,dn,dc,yA,yn,yc,fA,fn,fc,rA,rn,rc,rfl,hrow,hhd,hfl,hrw2⟩:=vY hk2 hx39.at_;have XP:=ES R (k+1);rw [jg hk2,Ad] at XP
  simp only [jL] at XP
  refine kP H (Kc bH (SQ fun _ bL=>SB (SR fun _ bR=>Ri dZ bW rfl rfl ?_)));clear H bH;intro a H;refine bJ bW (cs:=[_,_,_,_,_,_,_,_,_,_,_]) H wn rfl rfl (fun j v hj=>H.hp.aJ (hrow j v hj)) rfl ?_;clear H;intro a H;refine eB bW H wn rfl ?_;clear H;intro b14 a w LU H;refine bM bW 0 (vs:=[_,_,_,_,_,_,_,_,_,_,_]) _ H wn rfl rfl rfl rfl rfl rfl rfl rfl ?_;clear H;intro w H;dsimp only [List.set,setRow] at H;refine bR _ _ ?_;clear bR;refine kP H (SR fun _ bQ=>aT gV aH 0 rfl rfl (Rc rfl (Kz bQ (Cd rfl ?_ ?_)))) <;> clear H bQ
  ·intro h50 a H
   try have p50:=dT h50
   have hbs:=Ob hk2;rw [av p50] at hbs;have hts:R[k].text.data.toList.length=R[k].text.size:=sD;refine kP H (SC (aT pG fV 0 rfl rfl ?_));clear H;intro a H;refine gY VN (Li:=[_,_]) (L:=bB b12 p v :: Lo) H wn rfl (aaP _ _ _ b12 p v _ _ R[k].text hpp (Hp.owns (Li:=[_,_]) H.hp) hrw (by omega)) rfl ?_;clear H;rintro v_ _ L53 a w ⟨v53,NH,rfl,QF,rfl⟩ ahM H;refine kH H (Kn bL (SC (Rd rfl (Rm rfl ?_))));clear H bL;intro a H;refine aG ?_;refine dh ((k+1,(aI b12 0),v53,NH)) (by exact (H.dP (Pl:=[_,_,_]) (dD:=[_,_]) [1,2] (by decide) rfl).sub ⟨rfl,rfl,rfl,rfl,aB⟩) ?_ ?_
   ·try dsimp only
    exact ⟨by omega,.inr rfl,by rw [hbs,acf,iM,hts];exact QF,fun e=>by
    rw [hbs] at e;have e2:=aC List.length e;rw [iM,hts] at e2;have:=hne _ (iF hk2) p50
    simp only [List.length_nil] at e2
    omega⟩
   first|omega|(dsimp only;omega)
  intro h50 a H
  try have p50:=dF h50
  refine kP H (Kc bL (SC (Rd rfl (Rm rfl ?_))));clear H bL;intro a H;refine aG ?_;refine dh ((k+1,_,_,Lo)) (by exact (H.dP (Pl:=[_,_,_]) (dD:=[_,_]) [1,2] (by decide) rfl).sub ⟨rfl,rfl,rfl,rfl,aB⟩) ?_ ?_
  ·(try dsimp only);exact ⟨by omega,hpp,by rw [Ob hk2,ah p50,jA];exact hrw,fun e=>hnl (by rwa [Ob hk2,ah p50,jA] at e)⟩
  first|omega|(dsimp only;omega)
 intro h45 a H
 try have p45:=dF h45
 obtain rfl:k=R.length:=by omega
 rw [wS] at hrw hnl;rw [hb] at hrw hnl;refine dW ?_;refine K8 _ _ ?_;clear K8;refine dH (fun _ dJ=>?_);refine gY OU (Li:=[_]) (L:=bB b12 _ v :: Lo) H wn rfl (amu _ _ _ b12 _ v (ji m) (Hp.owns (Li:=[_]) H.hp) hrw hnl) rfl ?_;clear H;rintro v55 HY L55 a w rfl uo H;refine kH H (Ra rfl (ak dJ rfl ?_));clear H dJ;intro a H;refine cK ?_;refine (eG H results27 (.cons (aS H rfl) (.cons (aS H rfl) .nil)) ?_).1;exact H.rt rfl
end
section
open Go.RowKit
section
variable {N:Nat} {D:List Deferred} {w0:World} {F:Nat→Prop} {G0 G:GH} {L:OL} {T:List (Nat × aj)}
variable {r:Option Nat} {P:Program} {ops:Array Oper} {Q:Exit→Act→World→Prop} {rest:List Oper} {a:Act} {w:World}
variable {d:Nat} {ty:TypeId} {pos:String} {aM:Array Edge} {g:Option (Nat × Bool)}
theorem amP {w:World} {b:Nat} {c c':Array aj} {e:TypeId} (h:w.heap[b]?=some (.cells c e (0,0))):tO b (.cells c' e (0,0)) w (w.setRow b c'):=by
 have hlt:b < w.heap.size:=(Array.getElem?_eq_some_iff.1 h).1
 refine ⟨rfl,rfl,rfl,by simp [World.setRow],?_,fun k hk=>?_⟩
 ·simp only [World.setRow,Array.getElem?_modify,av,h,Option.map_some]
 ·simp only [World.setRow,Array.getElem?_modify,ah (Ne.symm hk)]
theorem alp {t u e:TypeId} (hs:P.underlying t=some (.slice e)) (hz:(P.info? e).map (·.size)=some 1) {x y:Operand} {b i n:Nat} {s:ByteArray} {c:List aj} (H:St N D w0 F G0 G L T a w)
  (hw:Region.wanted ⟨some d,.call { callee:=.builtin .copy,args:=#[x,y],argTypes:=#[t,u] },ty,pos,aM,g⟩ (yielded ops a.tmps)=true) (hx:ev T x=some (.slice (some ⟨b,0,none⟩) n n)) (hy:ev T y=some (.string s)) (hi:L[i]?=some (b,.cells c.toArray e (0,0)))
  (hn:s.size=n) (hc:c.length=n) (hd:Nat.blt d N=true)
  (k:∀ a' w',St N D w0 F G0 G (L.set i (b,.cells (Lib.byteCells s.data.toList).toArray e (0,0))) ((d,.int .i64 n) :: T) a' w'→WL r P ops Q rest a' w') :
  WL r P ops Q (⟨some d,.call { callee:=.builtin .copy,args:=#[x,y],argTypes:=#[t,u] },ty,pos,aM,g⟩ :: rest) a w:=by
 have hb:=H.hp.own _ (lI hi)
 have hr:=Lib.run_copy_row_string (P:=P) w t u ty e b 0 n n s c.toArray e hs hz hb (by omega) (by simp;omega)
 have e1:(c.toArray.toList.take 0++Lib.byteCells s.data.toList++c.toArray.toList.drop (0+s.size))=Lib.byteCells s.data.toList:=by
  simp;omega
 rw [e1] at hr
 refine fq (v:=.int .i64 n) (w':=w.setRow b (Lib.byteCells s.data.toList).toArray) hw rfl ?_ (k _ _ (H.put hd _ (H.hp.upd hi (amP hb))))
 simp [execOp,resolve,invoke,builtin,H.ev hx,H.ev hy,cZ,hr,goInt,hn]
end
end
section
open Go.RowKit
theorem adT:∀ args w,(callFunc 111 args).run prog w=.ok (.enter 111 args) w:=enters func111 rfl (by kernel_rfl)
theorem afe:∀ args w,(callFunc 76 args).run prog w=.ok (.enter 76 args) w:=enters func76 rfl (by kernel_rfl)
theorem aff:∀ args w,(callFunc 77 args).run prog w=.ok (.enter 77 args) w:=enters func77 rfl (by kernel_rfl)
theorem amb:(prog.info? 5).map (·.size)=some 1:=by kernel_rfl
theorem amw (G:GH) (w0:World) (hG:Hold G w0) (s:ByteArray) (hs:s.size≤1073741824):Calls prog 111 #[.string s] w0 (bq w0 G fun u G'=>u=.string s):=by
 refine eN [(0,_)] func111 rfl ntmps111 rfl rfl hG ?_;intro a H;refine kP H (SR fun _ K1=>ak K1 rfl (SQ fun _ K2=>SR fun _ K3=>Rm rfl (Rv fO rfl (Rc rfl (Kz K3 (Cd rfl ?_ ?_)))))) <;> clear H K1 K3
 ·intro h6 a H
  try have p6:=dT h6
  have he:s=⟨#[]⟩:=by
   have h0:s.size=0:=by omega
   have h1:s.data.size=0:=h0;exact ByteArray.ext (Array.eq_empty_of_size_eq_zero h1)
  exact kP H (SR fun _ K4=>ak K4 rfl (LR results111 rfl fun H=>H.rt (by rw [he])))
 intro h6 a H
 try have p6:=dF h6
 refine kP H (Kc K2 (SR fun _ K5=>Rm rfl (Rv fO rfl ?_)));clear H K2;intro a H;refine alu s.size vH Hg H wn rfl rfl rfl (by omega) (by omega) rfl ?_;clear H;intro b9 a w yH H;refine kH H (ak K5 rfl (SR fun _ K6=>Rm rfl (Rm rfl ?_)));clear H K5;intro a H;refine alp (i:=0) vH amb H wn rfl rfl rfl rfl (by simp) rfl ?_;clear H;intro a w H;dsimp only [List.set] at H;refine K6 _ _ ?_;clear K6;refine kP H (SR fun _ K7=>Rm rfl ?_);clear H;intro a H;refine vF vH Hg 0 H wn rfl rfl rfl (by omega) rfl ?_;clear H;intro a H;refine kH H (Rm rfl (Rl vH rfl ?_));clear H;intro a H;have hl:s.data.toList.length=s.size:=(Go.Lib.size_eq s).symm;refine Sc (i:=0) s.data.toList SI (by kernel_rfl) (by intro e;rw [e] at hl;simp at hl;omega) (by omega) H wn rfl (by rw [hl];rfl) rfl (by rw [List.toList_toArray];exact jF (by rw [Go.Lib.byteCells_length];exact bT _)) rfl ?_;clear H;intro fz a w H;exact kH H (ak K7 rfl (LR results111 rfl fun H=>H.rt (by simp)))
theorem alI (G:GH) (w0:World) (hG:Hold G w0) (s:ByteArray) (hs:s.size≤1073741824):Calls prog 77 #[.string s] w0 (bq w0 G fun u G'=>u=.string s):=by
 refine eN [(0,_)] func77 rfl ntmps77 rfl rfl hG ?_;intro a H;refine kP H (SR fun _ K1=>ak K1 rfl (SR fun _ K2=>Rm rfl ?_));clear H K1;intro a H;refine s_call adT H wn rfl (amw _ _ H.ro s hs) rfl ?_;clear H;rintro v4 G4 a w rfl F5 H;exact kH H (ak K2 rfl (LR results77 rfl fun H=>H.rt rfl))
def Cg (s:ByteArray) (i:Nat):Bool:=decide (¬ pz .and .u8 (gF s i) 192=128)
def tX (s:ByteArray) (k:Nat):List Nat:=(List.range k).filter (Cg s)
theorem N9 (s:ByteArray) (k:Nat):tX s (k+1)=tX s k++(if Cg s k=true then [k] else []):=by
 rw [tX,List.range_succ,List.filter_append,List.filter_cons]
 rfl
theorem abX (s:ByteArray) (k:Nat):(tX s k).length≤k:=by
 have:=List.length_filter_le (Cg s) (List.range k)
 rwa [List.length_range] at this
def vQ (s:ByteArray):List Int:=(tX s s.size++[s.size]).map fun x:Nat=>(x:Int)
theorem UM (s:ByteArray):∀ (n k:Nat),s.size - k=n→k≤s.size→(tX s s.size).length=(tX s k).length+oh s k
 | 0,k,h,hk=>by
  obtain rfl:k=s.size:=by omega
  rw [oh,ah (by omega)];rfl
 | n+1,k,h,hk=>by
  rw [UM s n (k+1) (by omega) (by omega),N9,iM];have hc:=oh.eq_def s k;rw [av (show k < s.size by omega)] at hc;rw [hc]
  unfold Cg
  by_cases hc:pz .and .u8 (gF s k) 192=128
  ·rw [av hc,ah (by rw [iU (fun h'=>h' hc)];decide)];simp only [List.length_nil];omega
  rw [ah hc,av (aA hc)];simp only [List.length_singleton];omega
theorem abW (G:GH) (w0:World) (hG:Hold G w0) (s:ByteArray) (hs:s.size≤1073741824):Calls prog 76 #[.string s] w0 (bq w0 G fun u G'=>ay G' (.sl 1 ((vQ s).map fun x=>[li x])) u):=by
 have hml:maxLen=9223372036854775807:=rfl;refine eN [(0,_)] func76 rfl ntmps76 rfl rfl hG ?_;intro a H;refine kP H (SR fun _ K1=>ak K1 rfl (SR fun _ K2=>ak K2 rfl (SQ fun _ K3=>SR fun _ K4=>Rm rfl (Rv fO rfl (Rm rfl (Kz K4 (SB ?_)))))));clear H K1 K2 K4;intro a H;skip;refine eU (ι:=Nat × aj × OL) (Tc:=[(0,_),(6,_)]) (Lc:=[]) (fun gh=>[(3,gh.2.1),(7,vi gh.1)]) (fun gh=>[]++gh.2.2) (fun gh=>G) (fun gh=>gh.1≤s.size∧dz 3 1 gh.2.1 (tX s gh.1).length (((tX s gh.1).map fun x:Nat=>(x:Int)).map vi) gh.2.2) (fun gh=>s.size - gh.1) ((0,.slice none 0 0,[])) (by exact (H).sub ⟨rfl,rfl,rfl,rfl,aB⟩) ?_ ?_
 ·exact ⟨iB _,dz.nil⟩
 clear H;intro gh a w hI H;obtain ⟨k,v,Lo⟩:=gh;dsimp only at hI H;obtain ⟨hk,hrw⟩:=hI;have hbl:=abX s k;dsimp only [lca,bG] at H;refine kP H (SR fun _ K5=>Rc rfl (Kz K5 (SQ fun _ K6=>Cd rfl ?_ ?_))) <;> clear H K5
 ·intro h8 a H
  try have p8:=dT h8
  have hk1:k < s.size:=by omega
  refine kP H (Kc K6 (SQ fun _ K7=>SB (SR fun _ K8=>Rm rfl (ak K8 rfl (SR fun _ K9=>Rm rfl (Rm rfl ?_))))));clear H K6 K8;intro a H;refine nO _ fO H wn rfl rfl rfl (by first|assumption|omega) rfl ?_;clear H;intro a H;refine JR rfl H wn rfl rfl rfl ?_;clear H;intro a H;refine kH H (Rc rfl (Kz K9 (Cd rfl ?_ ?_))) <;> clear H K9
  ·intro dY a H
   try have lC:=dT dY
   refine kP H (SC (Rm rfl (Rm rfl ?_)));clear H;intro a H;refine gX qY aH [_] [_] H wn rfl rfl rfl rfl rfl (by intro i q h;match i,h with|0,h=>exact h|n+1,h=>simp at h) rfl rfl ?_;clear H;intro b17 a w Qj H;refine oz (Li:=[_]) (Lo:=Lo) (news:=[vi k]) qY aH rfl rfl H wn rfl rfl hrw rfl (H.hp.dL 0 rfl rfl) rfl (by omega) (by omega) rfl ?_;clear H;intro v18 abf a w CJ H;refine kH H (aU K7 rfl (SC (Rd rfl (Rm rfl ?_))));clear H K7;intro a H;refine aG ?_;refine dh ((k+1,v18,abf)) (by exact (H.dP (Pl:=[_]) (dD:=[]) [] (by decide) rfl).sub ⟨rfl,rfl,rfl,rfl,aB⟩) ?_ ?_
   ·(try dsimp only);exact ⟨by omega,by rw [N9,av (by unfold Cg;rw [kN hk1];exact aA lC),iM,kL,kL];exact CJ⟩
   first|omega|(dsimp only;omega)
  intro dY a H
  try have lC:=dF dY
  refine kP H (Kc K7 (SC (Rd rfl (Rm rfl ?_))));clear H K7;intro a H;refine aG ?_;refine dh ((k+1,v,Lo)) (by exact (H).sub ⟨rfl,rfl,rfl,rfl,aB⟩) ?_ ?_
  ·(try dsimp only);exact ⟨by omega,by rw [N9,ah (by unfold Cg;rw [kN hk1,iU lC];decide),jA];exact hrw⟩
  first|omega|(dsimp only;omega)
 intro h8 a H
 try have p8:=dF h8
 refine dW ?_;refine K3 _ _ ?_;clear K3;refine kP H (SR fun _ aQ=>Rm rfl (Rm rfl (Rv fO rfl ?_)));clear H;intro a H;refine gX qY aH [_] [_] H wn rfl rfl rfl rfl rfl (by intro i q h;match i,h with|0,h=>exact h|n+1,h=>simp at h) rfl rfl ?_;clear H;intro b23 a w ahj H
 obtain rfl:k=s.size:=by omega
 refine oz (Li:=[_]) (Lo:=Lo) (news:=[vi s.size]) qY aH rfl rfl H wn rfl rfl hrw rfl (H.hp.dL 0 rfl rfl) rfl (by omega) (by omega) rfl ?_;clear H;intro v24 abg a w ail H;obtain ⟨Gr,hmr,hrep,H⟩:=St.um (Li:=[_]) (Lo:=abg) H ail (rows:=(vQ s).map fun x=>[li x]) (by simp [vQ]) (by have:=fB G (vQ s);unfold vQ at this ⊢;simpa using this);exact kH H (ak aQ rfl (LR results76 rfl fun H=>H.rt hrep))
theorem UL {G:GH} {l:List Int} {A:Option Addr} {n c k:Nat} {x:Int} (h:ay G (.sl 1 (l.map fun x=>[li x])) (.slice A n c)) (hk:l[k]?=some x):∃ b o,A=some ⟨b,o,none⟩∧aJ G b (o+k*1)=some (vi x):=by
 obtain ⟨b,o,cs,rfl,hcl,hrow,hr⟩:=h.at_ k [li x] (by rw [qm,hk];rfl);obtain ⟨v1,vs,rfl,⟨h1,-⟩,-⟩:=hr;subst h1;exact ⟨b,o,rfl,hrow 0 _ rfl⟩
theorem amf (G:GH) (w0:World) (hG:Hold G w0) (s:ByteArray) (hs:s.size≤1073741824) (hv:oC s=true) (h0:s.size=0∨¬ pz .and .u8 (gF s 0) 192=128) :
  Calls prog 50 #[.string s,vi 0,vi (mH s)] w0 (bq w0 G fun r G'=>r=.tuple #[.string s,vi 0]):=by
 have hcn:(tX s s.size).length=mH s:=by
  have:=UM s s.size 0 rfl (iB _);rw [this,show (tX s 0).length=0 from rfl,jh]
  unfold mH;rw [av hv]
 have hbl:(vQ s).length=mH s+1:=by simp [vQ,hcn]
 have hcz:=FH s
 have e0:(vQ s)[0]?=some 0:=by
  rcases h0 with h0|h0
  ·simp [vQ,tX,h0]
  by_cases hz:s.size=0
  ·simp [vQ,tX,hz]
  have:tX s s.size=0 :: ((List.range' 1 (s.size - 1)).filter (Cg s)):=by
   rw [tX,List.range_eq_range',show s.size=(s.size - 1)+1 by omega,List.range'_succ,List.filter_cons,av (by unfold Cg;exact aA h0)]
   simp
  simp [vQ,this]
 have en:(vQ s)[mH s]?=some (s.size:Int):=by
  unfold vQ
  rw [qm,tT (by omega),hcn,Nat.sub_self];rfl
 refine eN [(0,_),(1,_),(2,_)] func50 rfl ntmps50 rfl rfl hG ?_;intro a H;refine kP H (SR fun _ K1=>Ra rfl (ak K1 rfl (SQ fun _ K2=>SR fun _ K3=>Rm rfl ?_)));clear H K1;intro a H;refine s_call FK H wn rfl (Ht _ _ H.ro s (by omega)) rfl ?_;clear H;rintro v10 _ a w ⟨rfl,rfl⟩ - H;rw [hv] at H;refine kH H (Rn rfl (Kz K3 (Cd rfl ?_ ?_))) <;> clear H K3
 ·intro h11 a H
  exact absurd h11 (by decide)
 intro h11 a H
 try have nN:=dF h11
 refine kP H (Kc K2 (SR fun _ K4=>Rm rfl ?_));clear H K2;intro a H;refine s_call afe H wn rfl (abW _ _ H.ro s hs) rfl ?_;clear H;rintro v13 Dr a w Mi Cx H;obtain ⟨bA,bn,bc,rfl⟩:=Mi.form;have hbn:=Mi.len;rw [bV,hbl] at hbn;subst hbn;refine kH H (ak K4 rfl (SQ fun _ K5=>SR fun _ K6=>Rm rfl (Rc rfl (Rm rfl (Sp 16 rfl ?_ ?_))))) <;> clear H K4
 ·intro h16 a H
  try have p16:=dT h16
  exfalso;omega
 intro h16 a H
 try have p16:=dF h16
 refine kH H (YM h16 rfl (YM h16 rfl (YC h16 rfl (Pf h16 rfl (Rm rfl (Sp 21 rfl ?_ ?_)))))) <;> clear H
 ·intro h21 a H
  try have oN:=dT h21
  exfalso;omega
 intro h21 a H
 try have oN:=dF h21
 refine kH H (YM h21 rfl (YM h21 rfl (YL qY h21 rfl (YC h21 rfl (Pf h21 rfl (Kz K6 (Cd rfl ?_ ?_))))))) <;> clear H K6
 ·intro gM a H
  try have p26:=dT gM
  exfalso;omega
 intro gM a H
 try have p26:=dF gM
 refine fZ ?_;refine K5 _ _ ?_;clear K5;refine bK (fun _ K7=>?_);obtain ⟨lb,lo,rfl,gu⟩:=UL Mi e0;obtain ⟨_,_,e1,gv⟩:=UL Mi en
 injection e1 with e1;injection e1 with e2 e3;subst e2;subst e3
 refine dI hmx [[],[],[],[1,2],[1,2,3],[],[],[5,6],[5,6,7],(ra 0 9),(ra 0 10),(ra 0 11),(ra 0 12)] [11,12] (by kernel_rfl) [.string s,.slice (some ⟨lb,lo,none⟩) (mH s+1) bc,vi 0,(aI lb (lo+0*1)),vi 0,.slice (some ⟨lb,lo,none⟩) (mH s+1) bc,vi (mH s),(aI lb (lo+mH s*1)),vi s.size,.string s,.string s] H (aD ?_ ?_ ?_ ?_ (aD ?_ ?_ ?_ ?_ (aD ?_ ?_ ?_ (bN rfl) (aZ (bN rfl) cu)))) ?_
 ·intro aV a w G1 _ aX hc hG HT hv;have H:=HT;clear aX;have Hb:=H.full;have H:=Hb;clear hc;refine kH H (Rm rfl ?_);clear H;intro a H;refine aG ⟨rfl,?_⟩;exact gG (by kernel_rfl) (fun _ _ _ _ _ h=>h) rfl rfl HT Hb hG hv (fun _ _ h=>h) (rfl) H
 ·intro aV a w G1 _ aX hc hG HT hv;have H:=HT;clear aX;have Hb:=H.full;have H:=Hb;clear hc;refine kH H (Rm rfl ?_);clear H;intro a H;refine aG ⟨rfl,?_⟩;exact gG (by kernel_rfl) (fun _ _ _ _ _ h=>h) rfl rfl HT Hb hG hv (fun _ _ h=>h) (rfl) H
 ·intro aV a w G1 _ aX hc hG HT hv;have H:=HT;clear aX;have Hb:=H.full;have H:=Hb;clear hc;refine kH H (Rm rfl ?_);clear H;intro a H;refine aG ⟨rfl,?_⟩;exact gG (by kernel_rfl) (fun _ _ _ _ _ h=>h) rfl rfl HT Hb hG hv (fun _ _ h=>h) (rfl) H
 ·intro aV a w G1 _ aX hc hG HT hv;have H:=HT;clear aX;have H:=H.aP (hv 1 28 (hc 1 (by decide)) rfl) rfl;have H:=H.aP (hv 2 29 (hc 2 (by decide)) rfl) rfl;have Hb:=H.full;have H:=Hb;clear hc;refine vF qY aH 0 H wn rfl rfl rfl (by omega) rfl ?_;clear H;intro a H;refine aG ⟨rfl,?_⟩;exact gG (by kernel_rfl) (fun _ _ _ _ _ h=>h) rfl rfl HT Hb hG hv (fun _ _ h=>h) (rfl) H
 ·intro aV a w G1 _ aX hc hG HT hv;have H:=HT;clear aX;have H:=H.aP (hv 3 30 (hc 3 (by decide)) rfl) rfl;have Hb:=H.full;have H:=Hb;clear hc;refine kH H (Rg aH rfl (aO hG gu) ?_);clear H;intro a H;refine aG ⟨rfl,?_⟩;exact gG (by kernel_rfl) (fun _ _ _ _ _ h=>h) rfl rfl HT Hb hG hv (fun _ _ h=>h) (rfl) H
 ·intro aV a w G1 _ aX hc hG HT hv;have H:=HT;clear aX;have Hb:=H.full;have H:=Hb;clear hc;refine kH H (Rm rfl ?_);clear H;intro a H;refine aG ⟨rfl,?_⟩;exact gG (by kernel_rfl) (fun _ _ _ _ _ h=>h) rfl rfl HT Hb hG hv (fun _ _ h=>h) (rfl) H
 ·intro aV a w G1 _ aX hc hG HT hv;have H:=HT;clear aX;have Hb:=H.full;have H:=Hb;clear hc;refine kH H (Rm rfl ?_);clear H;intro a H;refine aG ⟨rfl,?_⟩;exact gG (by kernel_rfl) (fun _ _ _ _ _ h=>h) rfl rfl HT Hb hG hv (fun _ _ h=>h) (rfl) H
 ·intro aV a w G1 _ aX hc hG HT hv;have H:=HT;clear aX;have H:=H.aP (hv 5 32 (hc 5 (by decide)) rfl) rfl;have H:=H.aP (hv 6 33 (hc 6 (by decide)) rfl) rfl;have Hb:=H.full;have H:=Hb;clear hc;refine vF qY aH (mH s) H wn rfl rfl rfl (by omega) rfl ?_;clear H;intro a H;refine aG ⟨rfl,?_⟩;exact gG (by kernel_rfl) (fun _ _ _ _ _ h=>h) rfl rfl HT Hb hG hv (fun _ _ h=>h) (rfl) H
 ·intro aV a w G1 _ aX hc hG HT hv;have H:=HT;clear aX;have H:=H.aP (hv 7 34 (hc 7 (by decide)) rfl) rfl;have Hb:=H.full;have H:=Hb;clear hc;refine kH H (Rg aH rfl (aO hG gv) ?_);clear H;intro a H;refine aG ⟨rfl,?_⟩;exact gG (by kernel_rfl) (fun _ _ _ _ _ h=>h) rfl rfl HT Hb hG hv (fun _ _ h=>h) (rfl) H
 ·intro aV a w G1 _ aX hc hG HT hv;have H:=HT;clear aX;have H:=H.aP (hv 0 27 (hc 0 (by decide)) rfl) rfl;have H:=H.aP (hv 4 31 (hc 4 (by decide)) rfl) rfl;have H:=H.aP (hv 8 35 (hc 8 (by decide)) rfl) rfl;have Hb:=H.full;have H:=Hb;clear hc;refine alD 0 s.size fO H wn rfl rfl rfl rfl rfl (iB _) (bT _) rfl ?_;clear H;intro a H;rw [ByteArray.extract_zero_size] at H;refine aG ⟨rfl,?_⟩;exact gG (by kernel_rfl) (fun _ _ _ _ _ h=>h) rfl rfl HT Hb hG hv (fun _ _ h=>h) (rfl) H
 ·intro aV a w G1 _ aX hc hG HT hv;have H:=HT;clear aX;have H:=H.aP (hv 9 36 (hc 9 (by decide)) rfl) rfl;have Hb:=H.full;have H:=Hb;clear hc;refine s_call aff H wn rfl (alI _ _ H.ro _ hs) rfl ?_;clear H;rintro v37 Tt a w rfl agK H;refine aG ⟨rfl,?_⟩;exact gG (by kernel_rfl) (fun _ _ _ _ _ h=>h) rfl rfl HT Hb hG hv agK (rfl) H
 clear H;intro a w G iq H hv;have H:=H.aP (hv 10 37 rfl rfl) rfl;clear hv;refine kH H (Ra rfl (Ra rfl ?_));clear H;intro a H;refine aG ⟨rfl,?_⟩;refine K7 _ _ ?_;clear K7;refine cK ?_;refine (eG H results50 (.cons (aS H rfl) (.cons (aS H rfl) .nil)) ?_).1;exact H.rt rfl
end
section
open Go.RowKit
theorem OM:∀ args w,(callFunc 23 args).run prog w=.ok (.enter 23 args) w:=enters func23 rfl (by kernel_rfl)
mutual
def JD:au→List (Int × List au)
 | .mk k _ i _ _ f r=>(if k=6 then (i,f) :: iG f else [])++(if k=7 then wB r else [])
def iG:List au→List (Int × List au)
 | []=>[]
 | x :: l=>JD x++iG l
def wB:List bD→List (Int × List au)
 | []=>[]
 | x :: l=>JE x++wB l
def JE:bD→List (Int × List au)
 | .mk _ cs=>Bz cs
def Bz:List bF→List (Int × List au)
 | []=>[]
 | x :: l=>JC x++Bz l
def JC:bF→List (Int × List au)
 | .mk i _ f=>(i,f) :: iG f
end
theorem aiV {x:au} (h:wQ x):JD x=(if x.kind=6 then (x.id,x.flow) :: iG x.flow else [])++wB x.rows:=by
 have h0:=h.JQ
 cases x with
 | mk k c i tx hd f r =>
  rw [JD]
  by_cases h7:k=7
  ·rw [av h7];rfl
  show _=(if k=6 then (i,f) :: iG f else [])++wB r
  rw [ah h7,show r=[] from h0 h7,wB]
theorem aiW (x:bD):JE x=Bz x.cells:=by cases x;rw [JE];rfl
theorem aiU (x:bF):JC x=(x.id,x.flow) :: iG x.flow:=by cases x;rw [JC];rfl
abbrev CQ (F:jf):Int × List au:=(F.id,F.items)
mutual
theorem ajc (note:Bool) (t:Int):∀ x:au,(wL note t x).map CQ=JD x
 | .mk k c i tx h fl r=>by
  have hf:=Mt true t fl;have hr:=Yl note t r;rw [wL,JD]
  by_cases h6:k=6
  ·rw [av h6,av h6,ah (by omega),fu,hf,jA]
  rw [ah h6,ah h6]
  by_cases h7:k=7
  ·rw [av h7,av h7,hr,jP]
  rw [ah h7,ah h7];rfl
theorem Mt (note:Bool) (t:Int):∀ l:List au,(jd note t l).map CQ=iG l
 | []=>by rw [jd,iG];rfl
 | x :: l=>by rw [jd,iG,kL,ajc note t x,Mt note t l]
theorem ajd (note:Bool) (t:Int):∀ x:bD,(wM note t x).map CQ=JE x
 | .mk h cs=>by rw [wM,JE];exact Yk note t cs
theorem Yl (note:Bool) (t:Int):∀ l:List bD,(oQ note t l).map CQ=wB l
 | []=>by rw [oQ,wB];rfl
 | x :: l=>by rw [oQ,wB,kL,ajd note t x,Yl note t l]
theorem ajb (note:Bool) (t:Int):∀ x:bF,(wK note t x).map CQ=JC x
 | .mk i h fl=>by rw [wK,JC,fu,Mt note (t+1) fl]
theorem Yk (note:Bool) (t:Int):∀ l:List bF,(qg note t l).map CQ=Bz l
 | []=>by rw [qg,Bz];rfl
 | x :: l=>by rw [qg,Bz,kL,ajb note t x,Yk note t l]
end
def fK (L:List (Int × List au)) (id:Int):Option (List au):=(L.find? fun p=>decide (p.1=id)).map (·.2)
theorem Le (A B:List (Int × List au)) (id:Int):fK (A++B) id=(fK A id).or (fK B id):=by
 unfold fK
 rw [List.find?_append]
 cases A.find? fun p=>decide (p.1=id) <;> rfl
theorem Lf (id:Int):fK [] id=none:=rfl
theorem afJ {i id:Int} (h:i=id) (f:List au) (L:List (Int × List au)):fK ((i,f) :: L) id=some f:=by
 unfold fK;rw [List.find?_cons,jy h];rfl
theorem afI {i id:Int} (h:¬ i=id) (f:List au) (L:List (Int × List au)):fK ((i,f) :: L) id=fK L id:=by
 unfold fK;rw [List.find?_cons,iU h]
theorem afH (l:List au) (id:Int):fK ((0,l) :: iG l) id=qy l id:=by
 unfold fK qy
 rw [← Mt false 0 l,show ((0:Int),l) :: (jd false 0 l).map CQ=(AX l).map CQ from rfl,List.find?_map,Option.map_map]
 rfl
def NJ (m:Nat):Prop:=∀ (G:GH) (w0:World),Hold G w0→∀ (g id:Int) (l:List au) (u:aj),ay G (.sl 11 (l.map au.dat)) u→dQ l→bg l < m →
 Calls prog 23 #[u,vi g,vi id] w0 (bq w0 G fun r G'=>∃ v,r=.tuple #[v,.bool (fK ((g,l) :: iG l) id).isSome]∧ay G' (.sl 11 (((fK ((g,l) :: iG l) id).getD []).map au.dat)) v)
set_option maxHeartbeats 4000000 in
theorem ajC {m:Nat} (ih:NJ m) (hm:m≤1073741824):NJ (m+1):=by
 intro G w0 hG g id l u hu hok hz;obtain ⟨A,c,rfl,hc1,hc2,hgu⟩:=hu.slice;have hu1:=hu;rw [bV] at *;have hll:=Ak l;have hml:maxLen=9223372036854775807:=rfl;refine eN [(0,_),(1,_),(2,_)] func23 rfl ntmps23 rfl rfl hG ?_;intro a H;refine kP H (SR fun _ K1=>Ra rfl (ak K1 rfl (SQ fun _ K2=>SR fun _ K3=>Rm rfl (Rm rfl (Rc rfl (Kz K3 (Cd rfl ?_ ?_))))))) <;> clear H K1 K3
 ·intro h18 a H
  try have rV:=dT h18
  refine kP H (SR fun _ K4=>Rm rfl (Ra rfl (ak K4 rfl ?_)));clear H K4;intro a H;refine cK ?_;refine (eG H results23 (.cons (aS H rfl) (.cons (aS H rfl) .nil)) ?_).1;rw [afJ (by assumption)];exact H.rt ⟨_,rfl,hu1⟩
 intro h18 a H
 try have rV:=dF h18
 have hg0:¬ g=id:=by assumption
 obtain ⟨K,K0⟩:∃ K,fK ((g,l) :: iG l) id=K:=⟨_,rfl⟩
 have hK:K=fK (iG l) id:=by rw [← K0,afI hg0]
 refine kP H (Kc K2 (SQ fun _ K5=>SR fun _ K6=>ak K6 rfl (SB ?_)));clear H K2 K6;intro a H;skip;refine eU (ι:=Nat × GH) (Tc:=[(0,_),(2,_)]) (Lc:=[]) (fun gh=>[(8,vi gh.1)]) (fun gh=>[]) (fun gh=>gh.2) (fun gh=>gh.1≤l.length∧K=fK (iG (l.drop gh.1)) id∧dQ (l.drop gh.1)∧(∀ b o,G b=some o→gh.2 b=some o)) (fun gh=>l.length - gh.1) ((0,G)) (by exact (H).sub ⟨rfl,rfl,rfl,aB⟩) ?_ ?_
 ·exact ⟨iB _,hK,hok,fun _ _ h=>h⟩
 clear H;intro gh a w hI H;obtain ⟨k,g1⟩:=gh;dsimp only at hI H;obtain ⟨hk,hX,hok1,hg1⟩:=hI;dsimp only [lca,bG] at H;refine kP H (SQ fun _ K7=>SR fun _ K8=>Rm rfl (Rm rfl (Rl dZ rfl (Rc rfl (Kz K8 (Cd rfl ?_ ?_)))))) <;> clear H K8
 ·intro h23 a H
  try have sU:=dT h23
  have hk2:k < l.length:=by omega
  obtain ⟨b,o,pA,pn,pc,dA,dn,dc,yA,yn,yc,fA,fn,fc,rA,rn,rc,rfl,hrow,hhd,hfl,hrw⟩:=vY hk2 hgu;replace hrow:=fun j u hj=>aO hg1 (hrow j u hj);replace hfl:=hfl.mono hg1;replace hrw:=hrw.mono hg1;have hrn:=hrw.len;rw [bV] at hrn;subst hrn;have hzi:=oF l[k];have Gg:=Hu (iF hk2);rw [kZ hk2] at hX hok1;obtain ⟨hox,hok2⟩:=hok1.head;rw [iG,aiV hox,nE,Le,Le] at hX;obtain ⟨x,hx⟩:∃ x,x=l[k]:=⟨_,rfl⟩;rw [← hx] at hX hox hrow hhd hfl hrw hzi Gg;have hrl:=E9 x.rows;have GA:aJ g1 b (o+k*11+10)=some (.slice rA x.rows.length rc):=hrow 10 _ rfl;refine kP H (Kc K7 (SQ fun _ K9=>SB ?_));clear H K7;intro a H;refine pE (ι:=GH) (Tc:=[(0,_),(2,_),(8,_)]) (Lc:=[]) (fun gh=>[]) (fun gh=>[]) (fun gh=>gh) (fun gh=>K=(fK (wB x.rows) id).or (fK (iG (l.drop (k+1))) id)∧(∀ b o,g1 b=some o→gh b=some o)) (by exact (H).sub ⟨rfl,rfl,rfl,aB⟩) ?_ ?_
  ·skip;refine kP H (SR fun _ aQ=>Rm rfl (Rm rfl (Ri dZ bW rfl rfl (Rf gV rfl (Rg aH rfl (hrow 0 _ rfl) (Rc rfl (Kz aQ (Cd rfl ?_ ?_)))))))) <;> clear H aQ
   ·intro h31 a H
    try have p31:=dT h31
    refine bK (fun _ bH=>?_)
    have rR:∀ (bE:Nat) (v:aj) (G G':GH),(∀ k o,G k=some o→G' k=some o)→(fun (bE:Nat) (v:aj) (G:GH)=>match bE with|0=>v=.slice (some ⟨b,o,none⟩) l.length c|1=>v=vi k|2=>v=(aI b (o+k*11))|3=>v=(aI b (o+k*11+9))|4=>v=.slice fA fn fc|5=>v=.slice (some ⟨b,o,none⟩) l.length c|6=>v=vi k|7=>v=(aI b (o+k*11))|8=>v=(aI b (o+k*11+2))|9=>v=vi x.id|10=>v=vi id|11=>∃ y,v=.tuple #[y,.bool (fK ((x.id,x.flow) :: iG x.flow) id).isSome]∧ay G (.sl 11 (((fK ((x.id,x.flow) :: iG x.flow) id).getD []).map au.dat)) y|12=>∃ y,v=.tuple #[y,.bool (fK ((x.id,x.flow) :: iG x.flow) id).isSome]∧ay G (.sl 11 (((fK ((x.id,x.flow) :: iG x.flow) id).getD []).map au.dat)) y|13=>ay G (.sl 11 (((fK ((x.id,x.flow) :: iG x.flow) id).getD []).map au.dat)) v|14=>v=.bool (fK ((x.id,x.flow) :: iG x.flow) id).isSome|15=>ay G (.sl 11 (((fK ((x.id,x.flow) :: iG x.flow) id).getD []).map au.dat)) v|_=>True) bE v G→(fun (bE:Nat) (v:aj) (G:GH)=>match bE with|0=>v=.slice (some ⟨b,o,none⟩) l.length c|1=>v=vi k|2=>v=(aI b (o+k*11))|3=>v=(aI b (o+k*11+9))|4=>v=.slice fA fn fc|5=>v=.slice (some ⟨b,o,none⟩) l.length c|6=>v=vi k|7=>v=(aI b (o+k*11))|8=>v=(aI b (o+k*11+2))|9=>v=vi x.id|10=>v=vi id|11=>∃ y,v=.tuple #[y,.bool (fK ((x.id,x.flow) :: iG x.flow) id).isSome]∧ay G (.sl 11 (((fK ((x.id,x.flow) :: iG x.flow) id).getD []).map au.dat)) y|12=>∃ y,v=.tuple #[y,.bool (fK ((x.id,x.flow) :: iG x.flow) id).isSome]∧ay G (.sl 11 (((fK ((x.id,x.flow) :: iG x.flow) id).getD []).map au.dat)) y|13=>ay G (.sl 11 (((fK ((x.id,x.flow) :: iG x.flow) id).getD []).map au.dat)) v|14=>v=.bool (fK ((x.id,x.flow) :: iG x.flow) id).isSome|15=>ay G (.sl 11 (((fK ((x.id,x.flow) :: iG x.flow) id).getD []).map au.dat)) v|_=>True) bE v G':=by
     intro bE v G G' hm h
     match bE,h with
     | 0,h=>exact h
     | 1,h=>exact h
     | 2,h=>exact h
     | 3,h=>exact h
     | 4,h=>exact h
     | 5,h=>exact h
     | 6,h=>exact h
     | 7,h=>exact h
     | 8,h=>exact h
     | 9,h=>exact h
     | 10,h=>exact h
     | 11,h=>exact (by obtain ⟨x,h1,h2⟩:=h;exact ⟨x,h1,h2.mono hm⟩)
     | 12,h=>exact (by obtain ⟨x,h1,h2⟩:=h;exact ⟨x,h1,h2.mono hm⟩)
     | 13,h=>exact ay.mono hm h
     | 14,h=>exact h
     | 15,h=>exact ay.mono hm h
     | 16,h=>exact trivial
     | _+17,h=>exact trivial
    refine xZ (hmx) [[],[],[0,1],[0,1,2],(ra 0 4),[],[],[5,6],[5,6,7],(ra 5 4),[],(ra 0 11),(ra 0 12),(ra 0 13),(ra 0 13),(ra 0 14),(ra 0 16)] [16] (by kernel_rfl) (by kernel_rfl) (fun (bE:Nat) (v:aj) (G:GH)=>match bE with|0=>v=.slice (some ⟨b,o,none⟩) l.length c|1=>v=vi k|2=>v=(aI b (o+k*11))|3=>v=(aI b (o+k*11+9))|4=>v=.slice fA fn fc|5=>v=.slice (some ⟨b,o,none⟩) l.length c|6=>v=vi k|7=>v=(aI b (o+k*11))|8=>v=(aI b (o+k*11+2))|9=>v=vi x.id|10=>v=vi id|11=>∃ y,v=.tuple #[y,.bool (fK ((x.id,x.flow) :: iG x.flow) id).isSome]∧ay G (.sl 11 (((fK ((x.id,x.flow) :: iG x.flow) id).getD []).map au.dat)) y|12=>∃ y,v=.tuple #[y,.bool (fK ((x.id,x.flow) :: iG x.flow) id).isSome]∧ay G (.sl 11 (((fK ((x.id,x.flow) :: iG x.flow) id).getD []).map au.dat)) y|13=>ay G (.sl 11 (((fK ((x.id,x.flow) :: iG x.flow) id).getD []).map au.dat)) v|14=>v=.bool (fK ((x.id,x.flow) :: iG x.flow) id).isSome|15=>ay G (.sl 11 (((fK ((x.id,x.flow) :: iG x.flow) id).getD []).map au.dat)) v|_=>True) rR H ?_ ?_
    ·clear H;refine aD ?_ ?_ ?_ ?_ (aD ?_ ?_ ?_ ?_ (aD ?_ ?_ ?_ ?_ (aD ?_ ?_ ?_ ?_ (aZ (bN rfl) cu))))
     ·refine bX [] rfl trivial (by kernel_rfl) rR rfl rfl ?_;intro aV a w G1 hG HT H fin;exact kH H (Rm rfl fun _ H=>fin H iJ rfl)
     ·refine bX [] rfl trivial (by kernel_rfl) rR rfl rfl ?_;intro aV a w G1 hG HT H fin;exact kH H (Rm rfl fun _ H=>fin H iJ rfl)
     ·refine bX [(0,33,_),(1,34,_)] rfl ⟨fun _ _ h=>h,fun _ _ h=>h,aB⟩ (by kernel_rfl) rR rfl rfl ?_;intro aV a w G1 hG HT H fin;exact kH H (Ri dZ bW rfl rfl fun _ H=>fin H iJ rfl)
     ·refine bX [(2,35,_)] rfl ⟨fun _ _ h=>h,aB⟩ (by kernel_rfl) rR rfl rfl ?_;intro aV a w G1 hG HT H fin;exact kH H (Rf vX rfl fun _ H=>fin H iJ rfl)
     ·refine bX [(3,36,_)] rfl ⟨fun _ _ h=>h,aB⟩ (by kernel_rfl) rR rfl rfl ?_;intro aV a w G1 hG HT H fin;exact kH H (Rg gT rfl (aO hG (hrow 9 _ rfl)) fun _ H=>fin H iJ rfl)
     ·refine bX [] rfl trivial (by kernel_rfl) rR rfl rfl ?_;intro aV a w G1 hG HT H fin;exact kH H (Rm rfl fun _ H=>fin H iJ rfl)
     ·refine bX [] rfl trivial (by kernel_rfl) rR rfl rfl ?_;intro aV a w G1 hG HT H fin;exact kH H (Rm rfl fun _ H=>fin H iJ rfl)
     ·refine bX [(5,38,_),(6,39,_)] rfl ⟨fun _ _ h=>h,fun _ _ h=>h,aB⟩ (by kernel_rfl) rR rfl rfl ?_;intro aV a w G1 hG HT H fin;exact kH H (Ri dZ bW rfl rfl fun _ H=>fin H iJ rfl)
     ·refine bX [(7,40,_)] rfl ⟨fun _ _ h=>h,aB⟩ (by kernel_rfl) rR rfl rfl ?_;intro aV a w G1 hG HT H fin;exact kH H (Rf zL rfl fun _ H=>fin H iJ rfl)
     ·refine bX [(8,41,_)] rfl ⟨fun _ _ h=>h,aB⟩ (by kernel_rfl) rR rfl rfl ?_;intro aV a w G1 hG HT H fin;exact kH H (Rg aH rfl (aO hG (hrow 2 _ rfl)) fun _ H=>fin H iJ rfl)
     ·refine bX [] rfl trivial (by kernel_rfl) rR rfl rfl ?_;intro aV a w G1 hG HT H fin;exact kH H (Rm rfl fun _ H=>fin H iJ rfl)
     ·refine bX [(4,37,_),(9,42,_),(10,43,_)] rfl ⟨fun _ _ h=>h,fun _ _ h=>h,fun _ _ h=>h,aB⟩ (by kernel_rfl) rR rfl rfl ?_;intro aV a w G1 hG HT H fin;refine s_call OM H wn rfl (ih _ _ H.ro x.id id x.flow _ (hfl.mono hG) hox.fl (by omega)) rfl ?_;clear H;rintro v44 G44 a w ⟨x44,rfl,QM⟩ agN H;exact fin H agN (⟨_,rfl,QM⟩)
     ·intro aV a w G1 _ aX hc hG HT hv;have H:=HT;clear aX;obtain ⟨u44,aix,XB⟩:=hv 11 44 (hc 11 (by decide)) rfl;(try dsimp only at XB);obtain ⟨x44,rfl,QM⟩:=XB;have H:=H.iT aix;have Hb:=H.full;have H:=Hb;clear hc;refine kH H (Rm rfl ?_);clear H;intro a H;refine aG ⟨rfl,?_⟩;exact gG (by kernel_rfl) rR rfl rfl HT Hb hG hv (fun _ _ h=>h) (⟨_,rfl,QM⟩) H
     ·intro aV a w G1 _ aX hc hG HT hv;have H:=HT;clear aX;obtain ⟨u32,QI,Jj⟩:=hv 12 32 (hc 12 (by decide)) rfl;(try dsimp only at Jj);obtain ⟨x32,rfl,hx32⟩:=Jj;have H:=H.iT QI;have Hb:=H.full;have H:=Hb;clear hc;refine jc H wn rfl rfl rfl ?_;clear H;intro a H;refine aG ⟨rfl,?_⟩;exact gG (by kernel_rfl) rR rfl rfl HT Hb hG hv (fun _ _ h=>h) (hx32) H
     ·intro aV a w G1 _ aX hc hG HT hv;have H:=HT;clear aX;obtain ⟨u32,QI,Jj⟩:=hv 12 32 (hc 12 (by decide)) rfl;(try dsimp only at Jj);obtain ⟨x32,rfl,hx32⟩:=Jj;have H:=H.iT QI;have Hb:=H.full;have H:=Hb;clear hc;refine jc H wn rfl rfl rfl ?_;clear H;intro a H;refine aG ⟨rfl,?_⟩;exact gG (by kernel_rfl) rR rfl rfl HT Hb hG hv (fun _ _ h=>h) (rfl) H
     intro aV a w G1 _ aX hc hG HT hv;have H:=HT;clear aX;obtain ⟨u45,aiy,Gc⟩:=hv 13 45 (hc 13 (by decide)) rfl;(try dsimp only at Gc);have H:=H.iT aiy;have Hb:=H.full;have H:=Hb;clear hc;refine kH H (Ra rfl ?_);clear H;intro a H;refine aG ⟨rfl,?_⟩;exact gG (by kernel_rfl) rR rfl rfl HT Hb hG hv (fun _ _ h=>h) (Gc) H
    clear H;intro a w G vZ H hv;obtain ⟨u9,hu9,QB⟩:=hv 15 9 (by decide) rfl;(try dsimp only at QB);obtain ⟨A9,n9,c9,rfl⟩:=QB.form;have H:=H.iT hu9;have H:=H.aP (hv 14 46 rfl rfl) rfl;clear hv;refine kH H (Ra rfl ?_);clear H;intro a H;refine aG ⟨rfl,?_⟩;refine bH _ _ ?_;clear bH;refine kP H (SR fun _ bL=>Rm rfl (Kz bL (Cd rfl ?_ ?_))) <;> clear H bL
    ·intro h47 a H
     refine kP H (SR fun _ bR=>Rm rfl (Ra rfl (ak bR rfl ?_)));clear H bR;intro a H;refine cK ?_;refine (eG H results23 (.cons (aS H rfl) (.cons (aS H rfl) .nil)) ?_).1;obtain ⟨L,hL⟩:=Option.isSome_iff_exists.1 h47;rw [av p31,hL,Option.some_or] at hX;have XC:ay _ (.sl 11 (((fK ((x.id,x.flow) :: iG x.flow) id).getD []).map au.dat)) (.slice A9 n9 c9):=QB;rw [hL] at XC;exact H.rt ⟨_,by rw [K0,hX];rfl,by rw [K0,hX];exact XC⟩
    intro h47 a H
    refine fZ ?_;refine ⟨_,by exact (H).sub ⟨rfl,rfl,rfl,aB⟩,?_⟩;rw [av p31,show fK ((x.id,x.flow) :: iG x.flow) id=none from Option.not_isSome_iff_eq_none.1 (by simpa using h47),Option.none_or] at hX;exact ⟨hX,vZ⟩
   intro h31 a H
   try have p31:=dF h31
   refine fZ ?_;refine ⟨g1,by exact (H).sub ⟨rfl,rfl,rfl,aB⟩,?_⟩;rw [ah p31,Lf,Option.none_or] at hX;exact ⟨hX,fun _ _ h=>h⟩
  clear H;intro gh a w hI H;obtain ⟨g2,hgh⟩:∃ x,x=gh:=⟨_,rfl⟩;subst hgh;obtain ⟨hX2,hg2⟩:=hI;dsimp only [lca,bG] at H;refine kP H (SR fun _ bQ=>ak bQ rfl (SB ?_));clear H bQ;intro a H;skip;refine eU (ι:=Nat × GH) (Tc:=[(0,_),(2,_),(8,_)]) (Lc:=[]) (fun gh=>[(11,vi gh.1)]) (fun gh=>[]) (fun gh=>gh.2) (fun gh=>gh.1≤x.rows.length∧K=(fK (wB (x.rows.drop gh.1)) id).or (fK (iG (l.drop (k+1))) id)∧(∀ b o,g1 b=some o→gh.2 b=some o)) (fun gh=>x.rows.length - gh.1) ((0,g2)) (by exact (H).sub ⟨rfl,rfl,rfl,rfl,aB⟩) ?_ ?_
  ·exact ⟨iB _,hX2,hg2⟩
  clear H;intro gh a w hI H;obtain ⟨rk,g3⟩:=gh;dsimp only at hI H;obtain ⟨Jo,Ei,hg3⟩:=hI;have akK:=aO hg3 GA;dsimp only [lca,bG] at H;refine kP H (SQ fun _ dJ=>SR fun _ dO=>Rm rfl (Rm rfl (Rm rfl (Ri dZ bW rfl rfl (Rf nG rfl (Rg nU rfl akK (Rl lD rfl (Rc rfl (Kz dO (Cd rfl ?_ ?_)))))))))) <;> clear H dO
  ·intro PG a H
   try have p56:=dT PG
   have hk3:rk < x.rows.length:=by omega
   obtain ⟨b2,o2,qA,qn,qc,eA,en,ec,zA,zn,zc,cA,cn,cc,rfl,hrow2,yL,hcl⟩:=GJ hk3 (hrw.mono hg3).at_;have hcn:=hcl.len;rw [bV] at hcn;subst hcn;have r5:aJ g3 b2 (o2+rk*6+5)=some (.slice cA x.rows[rk].cells.length cc):=hrow2 5 _ rfl;have hsz2:=J9 hk3;have hcs:=E5 x.rows[rk].cells;have hoc:=hox.rw _ (iF hk3);rw [kZ hk3,wB,aiW,Le,Option.or_assoc] at Ei;obtain ⟨y,hy⟩:∃ y,y=x.rows[rk]:=⟨_,rfl⟩;rw [← hy] at r5 Ei hrow2 yL hcl hsz2 hcs hoc;refine kP H (Kc dJ (SQ fun _ dK=>SB (SR fun _ eO=>ak eO rfl (SB ?_))));clear H dJ eO;intro a H;skip;refine eU (ι:=Nat × GH) (Tc:=[(0,_),(2,_),(8,_),(11,_)]) (Lc:=[]) (fun gh=>[(12,vi gh.1)]) (fun gh=>[]) (fun gh=>gh.2) (fun gh=>gh.1≤y.cells.length∧K=(fK (Bz (y.cells.drop gh.1)) id).or ((fK (wB (x.rows.drop (rk+1))) id).or (fK (iG (l.drop (k+1))) id))∧(∀ b o,g1 b=some o→gh.2 b=some o)∧(∀ b o,g3 b=some o→gh.2 b=some o)) (fun gh=>y.cells.length - gh.1) ((0,g3)) (by exact (H).sub ⟨rfl,rfl,rfl,rfl,rfl,aB⟩) ?_ ?_
   ·exact ⟨iB _,Ei,hg3,fun _ _ h=>h⟩
   clear H;intro gh a w hI H;obtain ⟨ck,g4⟩:=gh;dsimp only at hI H;obtain ⟨hck,sN,hg4,Qq⟩:=hI;have Zo:=aO hg4 GA;have GD:=aO Qq r5;dsimp only [lca,bG] at H;refine kP H (SQ fun _ gH=>SR fun _ fE=>Rm rfl (Rm rfl (Rm rfl (Ri dZ bW rfl rfl (Rf nG rfl (Rg nU rfl Zo (Rm rfl (Ri lD jM rfl rfl (Rf sK rfl (Rg tH rfl GD (Rl oP rfl (Rc rfl (Kz fE (Cd rfl ?_ ?_)))))))))))))) <;> clear H fE
   ·intro rH a H
    try have p70:=dT rH
    have hk4:ck < y.cells.length:=by omega
    obtain ⟨b3,o3,sA,sn,sc,tA,tn,tc,uA,un,uc,gA,gn,gc,rfl,hrow3,hch,hcf⟩:=FC hk4 (hcl.mono Qq).at_;have Jt:=J7 hk4;have xC:=hoc _ (iF hk4);rw [kZ hk4,Bz,aiU,Le,Option.or_assoc] at sN;obtain ⟨z,hzy⟩:∃ z,z=y.cells[ck]:=⟨_,rfl⟩;rw [← hzy] at sN hrow3 hch hcf Jt xC;refine kP H (Kc gH (SQ fun _ gL=>SB (SR fun _ jl=>Rm rfl (Rm rfl (Ri dZ bW rfl rfl (Rf nG rfl (Rg nU rfl Zo (Rm rfl (Ri lD jM rfl rfl (Rf sK rfl (Rg tH rfl GD (Rm rfl (Ri oP ku rfl rfl ?_)))))))))))));clear H gH;intro a H;refine bJ ku (cs:=[vi z.id,.slice sA sn sc,vi z.head.marks.ins,vi z.head.marks.move,.slice tA tn tc,.slice uA un uc,.slice gA gn gc]) H wn rfl rfl (fun j v hj=>H.hp.aJ (hrow3 j v hj)) rfl ?_;clear H;intro a H;refine eB ku H wn rfl ?_;clear H;intro b13 a w LQ H;refine bM ku 0 (vs:=[_,_,_,_,_,_,_]) _ H wn rfl rfl rfl rfl rfl rfl rfl rfl ?_;clear H;intro w H;dsimp only [List.set,setRow] at H;refine jl _ _ ?_;clear jl;refine kP H (SR fun _ kC=>aT Cm gT 0 rfl rfl (aT D8 aH 0 rfl rfl (Rm rfl ?_)));clear H;intro a H;refine s_call OM H wn rfl (ih _ _ H.ro z.id id z.flow _ hcf xC (by omega)) rfl ?_;clear H;rintro v91 G91 a w ⟨x91,rfl,hx91⟩ Xq H;obtain ⟨A91,n91,c91,rfl⟩:=hx91.form;refine kH H (Rm rfl ?_);clear H;intro a H;(iterate 2 refine jc H wn rfl rfl rfl ?_;clear H;intro a H);refine kH H (Ra rfl (ak kC rfl (SR fun _ jY=>Rm rfl (Kz jY (Cd rfl ?_ ?_))))) <;> clear H kC jY
    ·intro LH a H
     refine kP H (SR fun _ jJ=>Rm rfl (Ra rfl (ak jJ rfl ?_)));clear H jJ;intro a H;refine cK ?_;refine (eG H results23 (.cons (aS H rfl) (.cons (aS H rfl) .nil)) ?_).1;obtain ⟨L,hL⟩:=Option.isSome_iff_exists.1 LH;rw [hL,Option.some_or] at sN;rw [hL] at hx91;exact H.rt ⟨_,by rw [K0,sN];rfl,by rw [K0,sN];exact hx91⟩
    intro LH a H
    try have p94:=dF LH
    refine kP H (Kc gL (SC (Rm rfl (Rd rfl (Ra rfl ?_)))));clear H gL;intro a H;refine aG ?_;refine dh ((ck+1,_)) (by exact (H.dP (Pl:=[_]) (dD:=[]) [] (by decide) rfl).sub ⟨rfl,rfl,rfl,rfl,rfl,aB⟩) ?_ ?_
    ·(try dsimp only);rw [show fK ((z.id,z.flow) :: iG z.flow) id=none from Option.not_isSome_iff_eq_none.1 (by simpa using LH),Option.none_or] at sN;exact ⟨by omega,sN,fun b o h=>Xq b o (hg4 b o h),fun b o h=>Xq b o (Qq b o h)⟩
    first|omega|(dsimp only;omega)
   intro rH a H
   try have p70:=dF rH
   refine dW ?_;refine dK _ _ ?_;clear dK;refine kP H (SC (Rm rfl (Rd rfl (Ra rfl ?_))));clear H;intro a H;refine aG ?_;refine dh ((rk+1,g4)) (by exact (H).sub ⟨rfl,rfl,rfl,rfl,aB⟩) ?_ ?_
   ·(try dsimp only);rw [ig (by omega),Bz,Lf,Option.none_or] at sN;exact ⟨by omega,sN,hg4⟩
   first|omega|(dsimp only;omega)
  intro PG a H
  try have p56:=dF PG
  refine dW ?_;refine K9 _ _ ?_;clear K9;refine kP H (SC (Rm rfl (Rd rfl (Ra rfl ?_))));clear H;intro a H;refine aG ?_;refine dh ((k+1,g3)) (by exact (H).sub ⟨rfl,rfl,rfl,aB⟩) ?_ ?_
  ·(try dsimp only);rw [ig (by omega),wB,Lf,Option.none_or] at Ei;exact ⟨by omega,Ei,hok2,fun b o h=>hg3 b o (hg1 b o h)⟩
  first|omega|(dsimp only;omega)
 intro h23 a H
 try have sU:=dF h23
 refine dW ?_;refine K5 _ _ ?_;clear K5;refine kP H (SR fun _ kJ=>Ra rfl (ak kJ rfl ?_));clear H kJ;intro a H;refine cK ?_;refine (eG H results23 (.cons (aS H rfl) (.cons (aS H rfl) .nil)) ?_).1;rw [ig (by omega),iG,Lf] at hX;exact H.rt ⟨_,by rw [K0,hX];rfl,by rw [K0,hX];exact ay.jH (A:=none) (n:=0) (c:=0) rfl (by decide)⟩
theorem YH:∀ m:Nat,m≤1073741825→NJ m
 | 0,_=>fun _ _ _ _ _ _ _ _ _ h=>absurd h (by omega)
 | m+1,hm=>ajC (YH m (by omega)) (by omega)
theorem ajD (G:GH) (w0:World) (hG:Hold G w0) (id:Int) (l:List au) (u:aj) (hu:ay G (.sl 11 (l.map au.dat)) u) (hok:dQ l) (hz:bg l≤1073741824) :
  Calls prog 23 #[u,vi 0,vi id] w0 (bq w0 G fun r G'=>∃ v,r=.tuple #[v,.bool (qy l id).isSome]∧ay G' (.sl 11 (((qy l id).getD []).map au.dat)) v):=by
 rw [← afH];exact YH 1073741825 (bT _) G w0 hG 0 id l u hu hok (by omega)
theorem Sq:∀ p q:List au,bY (p++q)=bY p+bY q
 | [],q=>by rw [jP,bY,jh]
 | x :: p,q=>by rw [mG,bY,bY,Sq p q,Nat.add_assoc]
theorem amA {l:List au} {k:Nat} (hk:k < l.length):bY (l.take (k+1))=bY (l.take k)+dG l[k]:=by
 rw [jg hk,Sq]
 simp [bY]
theorem M9 (l:List au) (k:Nat):bY (l.take k)≤bY l:=by
 have:=Sq (l.take k) (l.drop k);rw [List.take_append_drop] at this
 omega
end
section
open Go.RowKit
theorem aeS:∀ args w,(callFunc 50 args).run prog w=.ok (.enter 50 args) w:=enters func50 rfl (by kernel_rfl)
def oM (L:List au) (a b k:Nat):List au:=((L.take b).take k).drop a
theorem ajF {L:List au} {a b k:Nat} (hk:k < L.length) (hb:b≤L.length):oM L a b (k+1)=oM L a b k++if a≤k∧k < b then [L[k]] else []:=by
 unfold oM
 by_cases h:k < b
 ·have hl:k < (L.take b).length:=by rw [List.length_take];omega
  rw [jg hl,List.getElem_take]
  by_cases ha:a≤k
  ·rw [av ⟨ha,h⟩,List.drop_append_of_le_length (by simp only [List.length_take];omega)]
  rw [ah (fun h'=>ha h'.1),jA,ig (by simp only [iM,List.length_take,List.length_singleton];omega),ig (by simp only [List.length_take];omega)]
 have e1:(L.take b).take (k+1)=L.take b:=jF (by simp only [List.length_take];omega);have e2:(L.take b).take k=L.take b:=jF (by simp only [List.length_take];omega);rw [ah (fun h'=>h h'.2),jA,e1,e2]
theorem M8 (L:List au) {j k:Nat} (h:j≤k):bY (L.take j)≤bY (L.take k):=by
 have:=M9 (L.take k) j
 rwa [List.take_take,Nat.min_eq_left h] at this
theorem acw (l:List UInt8) (s:ByteArray):(⟨l.toArray⟩:ByteArray)++s=⟨(l++s.data.toList).toArray⟩:=by
 apply ByteArray.ext
 simp
theorem ajE (L:List au) (a b k:Nat):(ji (oM L a b k)).length≤jL L:=by
 have h1:=Oa (oM L a b k);have h2:=Ad (((L.take b).take k).take a) (oM L a b k)
 unfold oM at *
 rw [List.take_append_drop] at h2;have h3:=ES (L.take b) k;have h4:=ES L b
 omega
theorem ajJ (G:GH) (w0:World) (hG:Hold G w0) (L:List au) (ia ib:Nat) (hb:ib≤L.length) (v:aj) (hv:ay G (.sl 11 (L.map au.dat)) v) (hok:dQ L) (hz:bg L≤1073741824) :
  Calls prog 28 #[v,vi (bY (L.take ia):Nat),vi (bY (L.take ib):Nat)] w0 (bq w0 G fun u G'=>u=.string ⟨(ji ((L.take ib).drop ia)).toArray⟩):=by
 obtain ⟨A,c,rfl,hc1,hc2,hgu⟩:=hv.slice;rw [bV] at *;have hll:=Ak L;have hss:=Nat.le_trans (Sr L) (ER L);have htx:=ER L;have hsa:=M9 L ia;have hsb:=M9 L ib;have hml:maxLen=9223372036854775807:=rfl;refine eN [(0,_),(1,_),(2,_)] func28 rfl ntmps28 rfl rfl hG ?_;intro a H;refine kP H (SR fun _ K1=>ak K1 rfl (SR fun _ K2=>ak K2 rfl (SR fun _ K3=>ak K3 rfl (SQ fun _ K4=>SR fun _ K5=>Ra rfl ?_))));clear H K1 K2 K3;intro a H
 have e0:(⟨#[]⟩:ByteArray)=⟨(ji (oM L ia ib 0)).toArray⟩:=by unfold oM;rw [List.take_zero,List.drop_nil];rfl
 rw [e0] at H;refine K5 _ _ ?_;clear K5;refine xX ?_;skip;refine eU (ι:=Nat × GH) (Tc:=[(0,_),(1,_),(2,_)]) (Lc:=[]) (fun gh=>[(7,.string ⟨(ji (oM L ia ib gh.1)).toArray⟩),(8,vi (bY (L.take gh.1):Nat)),(9,vi gh.1)]) (fun gh=>[]) (fun gh=>gh.2) (fun gh=>gh.1≤L.length∧(∀ b o,G b=some o→gh.2 b=some o)) (fun gh=>L.length - gh.1) ((0,G)) (by exact (H).sub ⟨rfl,rfl,rfl,rfl,rfl,rfl,aB⟩) ?_ ?_
 ·exact ⟨iB _,fun _ _ h=>h⟩
 clear H;intro gh a w hI H;obtain ⟨k,g⟩:=gh;dsimp only at hI H;obtain ⟨hk,hgm⟩:=hI;dsimp only [lca,bG] at H;refine kP H (SQ fun _ K6=>SR fun _ K7=>Rm rfl (Rm rfl (Rl dZ rfl (Rc rfl (Kz K7 (Cd rfl ?_ ?_)))))) <;> clear H K7
 ·intro h18 a H
  try have rV:=dT h18
  have hk2:k < L.length:=by omega
  obtain ⟨bl,o,pA,pn,pc,dA,dn,dc,yA,yn,yc,fA,fn,fc,rA,rn,rc,rfl,hrow,-⟩:=vY hk2 hgu;replace hrow:=fun j u hj=>aO hgm (hrow j u hj);have hsn:=amA hk2;have hsk:=M9 L (k+1);have hui:=Nn hok (iF hk2);have hms:=ajF (a:=ia) hk2 hb;have hxk:=hok.mem (iF hk2);have hzi:=Ns hk2
  have hfb:L[k].text.size=0∨¬ pz .and .u8 (gF L[k].text 0) 192=128:=by
   by_cases h0:L[k].text.size=0
   ·exact .inl h0
   exact .inr (Wz hxk.txt (by omega))
  have hmt:=ajE L ia ib k;have hca:k < ia→bY (L.take (k+1))≤bY (L.take ia):=fun h=>M8 L h;have hcb:k < ib→bY (L.take (k+1))≤bY (L.take ib):=fun h=>M8 L h;have hda:ia≤k→bY (L.take ia)≤bY (L.take k):=fun h=>M8 L h;have hdb:ib≤k→bY (L.take ib)≤bY (L.take k):=fun h=>M8 L h;refine kP H (Kc K6 (SQ fun _ K8=>SB (SR fun _ K9=>Rm rfl (Rm rfl (Ri dZ bW rfl rfl ?_)))));clear H K6;intro a H;refine bJ bW (cs:=[_,_,_,_,_,_,_,_,_,_,_]) H wn rfl rfl (fun j v hj=>H.hp.aJ (hrow j v hj)) rfl ?_;clear H;intro a H;refine s_call VJ H wn rfl (aaw _ _ H.ro L[k] _ _ _ _ _ _ _ _ _ (by omega)) rfl ?_;clear H;rintro v25 Kk a w ⟨rfl,rfl⟩ sO H;refine kH H (ak K9 rfl (SQ fun _ aQ=>SR fun _ bH=>Rm rfl (Rm rfl (Rs rfl ?_))));clear H K9;intro a H;refine JU H wn rfl rfl rfl ?_;clear H;intro a H;refine kH H (Rm rfl (Rm rfl (Rs rfl (Rm rfl ?_))));clear H;intro a H;refine JV H wn rfl rfl rfl ?_;clear H;intro a H;refine kH H (Ra rfl (ak bH rfl (SR fun _ bL=>Rm rfl (Rm rfl (Ri dZ bW rfl rfl (Rf gV rfl (Rg aH rfl (hrow 0 _ rfl) (Rc rfl (Rm rfl (Sp 41 rfl ?_ ?_)))))))))) <;> clear H bH
  ·intro qO a H
   try have p41:=dT qO
   refine kH H (YM qO rfl (YM qO rfl (YC qO rfl (Pt qO rfl (Kz bL (Cd rfl ?_ ?_)))))) <;> clear H bL
   ·intro h45 a H
    try have p45:=dT h45
    refine bK (fun _ bR=>?_)
    have hin:ia≤k∧k < ib:=by omega
    have hcn:dG L[k]=mH L[k].text:=by unfold dG;rw [av p41]
    have e1:max ((bY (L.take ia):Int) - (bY (L.take k):Int)) 0=0:=by have:=hda hin.1;omega
    have e2:min ((bY (L.take ib):Int) - (bY (L.take k):Int)) (dG L[k]:Int)=(mH L[k].text:Int):=by have:=hcb hin.2;omega
    rw [e1,e2] at H;rw [av hin] at hms
    have FZ:ji (oM L ia ib (k+1))=ji (oM L ia ib k)++L[k].text.data.toList:=by rw [hms,zF,wV,av p41]
    refine kP H (SC (Rm rfl (Rm rfl (Ri dZ bW rfl rfl (Rf pG rfl (Rg fV rfl (hrow 3 _ rfl) (Rm rfl (Rm rfl ?_))))))));clear H;intro a H;refine s_call aeS H wn rfl (amf _ _ H.ro L[k].text (by omega) hxk.txt hfb) rfl ?_;clear H;rintro v54 Tw a w rfl Jb H;refine kH H (Rm rfl ?_);clear H;intro a H;(iterate 2 refine jc H wn rfl rfl rfl ?_;clear H;intro a H);refine kH H (Ra rfl (aU bR rfl (SC (Rm rfl (Rm rfl ?_)))));clear H bR;intro a H;refine ZJ H wn rfl rfl (by have e:(⟨(ji (oM L ia ib k)).toArray⟩:ByteArray).size=(ji (oM L ia ib k)).length:=List.size_toArray;omega) rfl ?_;clear H;intro a H;rw [acw,← FZ] at H;refine kH H (aU aQ rfl (SC (Rm rfl (Rm rfl (Rd rfl ?_)))));clear H aQ;intro a H
    first
     | rw [show ji (oM L ia ib k)=ji (oM L ia ib (k+1)) by
       rw [hms,zF]
       by_cases hin:ia≤k∧k < ib
       ·rw [av hin,wV,ah,jA];intro h1;have e1:=hda hin.1;have e2:=hcb hin.2
        first
         | exact p41 h1
         | omega
       rw [ah hin];exact (jA _).symm] at H
     |skip
    rw [← Int.natCast_add,← hsn] at H;refine kH H (aU K8 rfl (SC (Rm rfl (Rd rfl (Ra rfl ?_)))));clear H K8;intro a H;refine aG ?_;refine dh ((k+1,_)) (by exact (H).sub ⟨rfl,rfl,rfl,rfl,rfl,rfl,aB⟩) ?_ ?_
    ·try dsimp only
     first
     | exact ⟨by omega,fun b o h=>Jb b o (sO b o (hgm b o h))⟩
     | exact ⟨by omega,fun b o h=>sO b o (hgm b o h)⟩
    first|omega|(dsimp only;omega)
   intro h45 a H
   try have p45:=dF h45
   refine kP H (Kc aQ (SC (Rm rfl (Rm rfl (Rd rfl ?_)))));clear H aQ;intro a H
   first
    | rw [show ji (oM L ia ib k)=ji (oM L ia ib (k+1)) by
      rw [hms,zF]
      by_cases hin:ia≤k∧k < ib
      ·rw [av hin,wV,ah,jA];intro h1;have e1:=hda hin.1;have e2:=hcb hin.2
       first
        | exact p41 h1
        | omega
      rw [ah hin];exact (jA _).symm] at H
    |skip
   rw [← Int.natCast_add,← hsn] at H;refine kH H (aU K8 rfl (SC (Rm rfl (Rd rfl (Ra rfl ?_)))));clear H K8;intro a H;refine aG ?_;refine dh ((k+1,_)) (by exact (H).sub ⟨rfl,rfl,rfl,rfl,rfl,rfl,aB⟩) ?_ ?_
   ·try dsimp only
    first
    | exact ⟨by omega,fun b o h=>Jb b o (sO b o (hgm b o h))⟩
    | exact ⟨by omega,fun b o h=>sO b o (hgm b o h)⟩
   first|omega|(dsimp only;omega)
  intro qO a H
  try have p41:=dF qO
  refine kH H (bC qO rfl (Pf qO rfl (Kz bL (Cf rfl rfl (Kc aQ (SC (Rm rfl (Rm rfl (Rd rfl ?_)))))))));clear H bL aQ;intro a H
  first
   | rw [show ji (oM L ia ib k)=ji (oM L ia ib (k+1)) by
     rw [hms,zF]
     by_cases hin:ia≤k∧k < ib
     ·rw [av hin,wV,ah,jA];intro h1;have e1:=hda hin.1;have e2:=hcb hin.2
      first
       | exact p41 h1
       | omega
     rw [ah hin];exact (jA _).symm] at H
   |skip
  rw [← Int.natCast_add,← hsn] at H;refine kH H (aU K8 rfl (SC (Rm rfl (Rd rfl (Ra rfl ?_)))));clear H K8;intro a H;refine aG ?_;refine dh ((k+1,_)) (by exact (H).sub ⟨rfl,rfl,rfl,rfl,rfl,rfl,aB⟩) ?_ ?_
  ·try dsimp only
   first
   | exact ⟨by omega,fun b o h=>Jb b o (sO b o (hgm b o h))⟩
   | exact ⟨by omega,fun b o h=>sO b o (hgm b o h)⟩
  first|omega|(dsimp only;omega)
 intro h18 a H
 try have rV:=dF h18
 refine dW ?_;refine K4 _ _ ?_;clear K4;refine kP H (SR fun _ bQ=>Rm rfl (ak bQ rfl ?_));clear H bQ;intro a H;refine lr H results28 rfl ?_
 obtain rfl:k=L.length:=by omega
 exact H.rt (by unfold oM;rw [jF (by rw [List.length_take];omega)])
end
section
open Go.RowKit
theorem aeL:∀ args w,(callFunc 28 args).run prog w=.ok (.enter 28 args) w:=enters func28 rfl (by kernel_rfl)
def KF (l:List au) (s tx:ByteArray):Prop:=match uh l s with
 | none=>tx=⟨#[]⟩
 | some sp=>∃ p m q,qy l sp.ff=some (p++(m++q))∧dQ (p++(m++q))∧sp.fa=(bY p:Int)∧sp.ta=(bY (p++m):Int)∧tx=⟨(ji m).toArray⟩
theorem abO (G:GH) (w0:World) (hG:Hold G w0) (D:nA) (l:List au) (s:ByteArray) (hv:ay G (.sl 11 (l.map au.dat)) (fD D.f)) (hok:uI l) (hz:bg l≤1073741824) :
  Calls prog 27 #[D.val,.string s] w0 (bq w0 G fun u G'=>∃ tx,u=.tuple #[.string tx,.bool (uh l s).isSome]∧KF l s tx):=by
 cases hf:uh l s with
 | none=>exact (abM G w0 hG D l s hv hok hz hf).mono fun _ _ ⟨u,G',h1,h2,h3,h4⟩=>⟨u,G',h1,h2,h3,_,h4,by unfold KF;rw [hf]⟩
 | some sp =>
  obtain ⟨p,m,q,h1,h2,h3,h4⟩:=aac hok (List.mem_of_find?_eq_some hf);exact (abN G w0 hG D l s hv hok hz sp hf p m q h1 h2 h3 h4).mono fun _ _ ⟨u,G',g1,g2,g3,g4⟩=>⟨u,G',g1,g2,g3,_,g4,by unfold KF;rw [hf];exact ⟨p,m,q,h1,h2,h3,h4,rfl⟩⟩
theorem agu {l:List au} {s:ByteArray} {k:Nat} (hk:k < (nP (dX 0 0 l) 1).length) (h1:(nP (dX 0 0 l) 1)[k].name=s) (h2:∀ j (hj:j < k),¬ (nP (dX 0 0 l) 1)[j].name=s):uh l s=some (nP (dX 0 0 l) 1)[k]:=by
 unfold uh
 rw [List.find?_eq_some_iff_getElem];exact ⟨jy h1,k,hk,rfl,fun j hj=>by rw [iU (h2 j hj)];rfl⟩
theorem agv {l:List au} {s:ByteArray} (h2:∀ j (hj:j < (nP (dX 0 0 l) 1).length),¬ (nP (dX 0 0 l) 1)[j].name=s):uh l s=none:=by
 unfold uh
 rw [List.find?_eq_none];intro x hx;obtain ⟨j,hj,rfl⟩:=List.getElem_of_mem hx;rw [iU (h2 j hj)];decide
theorem ajI (G:GH) (w0:World) (hG:Hold G w0) (p m q:List au) (v:aj) (hv:ay G (.sl 11 ((p++(m++q)).map au.dat)) v) (hok:dQ (p++(m++q))) (hz:bg (p++(m++q))≤1073741824) :
  Calls prog 28 #[v,vi (bY p:Nat),vi (bY (p++m):Nat)] w0 (bq w0 G fun u G'=>u=.string ⟨(ji m).toArray⟩):=by
 have h:=ajJ G w0 hG (p++(m++q)) p.length (p++m).length (by simp only [iM];omega) v hv hok hz;have e1:(p++(m++q)).take p.length=p:=List.take_left' rfl
 have e2:(p++(m++q)).take (p++m).length=p++m:=by rw [← nE];exact List.take_left' rfl
 rw [e1,e2,List.drop_left' rfl] at h;exact h
set_option maxHeartbeats 2000000 in
theorem agl (G:GH) (w0:World) (hG:Hold G w0) (D:nA) (d:xO) (hR:Dq G D d) (hz:Ke d) (s:ByteArray) :
  Calls prog 7 #[D.val,.string s] w0 (bq w0 G fun u G'=>u=.bool true):=by
 have CK:=hz.fl;have aha:=Au 0 0 d.flow;refine eN [(0,_),(1,_)] func7 rfl ntmps7 rfl rfl hG ?_;intro a H;refine dH (fun _ K1=>?_);refine fC (cs:=[_,_,_,_,_,_,_,_,_,_,_]) H wn rfl rfl rfl ?_;clear H;intro b2 a w hb2 H;refine kH H (ak K1 rfl (SQ fun _ K2=>SQ fun _ K3=>?_));clear H K1;intro a H;obtain ⟨Ga,hma,hb1',H⟩:=H.eu;have hga:=fun j v hj=>zN hb1' 0 D.cells rfl j v hj;replace hR:=hR.mono hma;refine oH ?_;refine s_call O4 H wn rfl (QY _ _ H.ro) rfl ?_;clear H;rintro v13 Dr a w rfl Cx H;replace hR:=hR.mono Cx;replace hga:=fun j v hj=>aO Cx (hga j v hj);refine kH H (Rn rfl (Rm rfl (Sp 15 rfl ?_ ?_))) <;> clear H
 ·intro kV a H
  exact absurd kV (by decide)
 intro kV a H
 try have rU:=dF kV
 refine bJ rY (cs:=D.cells) H (wg H rfl rfl kV) rfl rfl (fun j v hj=>H.hp.aJ (hga j v hj)) rfl ?_;clear H;intro a H;refine s_call adR H (wg H rfl rfl kV) rfl (amg _ _ H.ro D d hR hz) rfl ?_;clear H;rintro v17 zw a w ⟨b17,rfl,Qj⟩ pQ H;replace hR:=hR.mono pQ;replace hga:=fun j v hj=>aO pQ (hga j v hj);refine kH H (YN kV rfl (Pf kV rfl (Rm rfl (Sp 20 rfl ?_ ?_)))) <;> clear H
 ·intro h20 a H
  try have BF:=dT h20
  refine kH H (bC h20 rfl (Pt h20 rfl (Kn K3 (Ct rfl rfl (SR fun _ K4=>?_)))));clear H K3;intro a H;refine s_call O4 H wn rfl (QY _ _ H.ro) rfl ?_;clear H;rintro v25 Kk a w rfl sO H;exact kH H (ak K4 rfl (LR results7 rfl fun H=>H.rt (by first|rfl|exact aF (beq_self_eq_true _))))
 intro h20 a H
 try have BF:=dF h20
 refine kH H (YM h20 rfl ?_);clear H;intro a H;refine BJ fO H (wg H rfl rfl h20) rfl rfl ?_;clear H;intro a H;refine kH H (YC h20 rfl (Pf h20 rfl (Kn K3 (Cd rfl ?_ ?_)))) <;> clear H K3
 ·intro dU a H
  try have kr:=dT dU
  refine dH (fun _ K5=>?_);refine s_call O4 H wn rfl (QY _ _ H.ro) rfl ?_;clear H;rintro v25 Kk a w rfl sO H;exact kH H (ak K5 rfl (LR results7 rfl fun H=>H.rt (by first|rfl|exact aF (beq_self_eq_true _))))
 intro dU a H
 try have kr:=dF dU
 refine fZ ?_;refine K2 _ _ ?_;clear K2;refine bK (fun _ K6=>?_)
 have hc:mY d=0:=by first|exact Qj (by assumption)|(simp_all;done)
 have hok:=ako hc;obtain ⟨l,hl⟩:∃ l,l=d.flow:=⟨_,rfl⟩;have hfl:=hR.fl;rw [← hl] at hok CK hfl aha;have hnd:=abI hok;have Ej:=Ih 0 0 l;have agZ:∀ a∈dX 0 0 l,0≤a.at_∧a.at_≤4294967296:=fun a ha=>⟨(Ej a ha).1,by have:=(Ej a ha).2;omega⟩;refine oH ?_;refine bJ rY (cs:=D.cells) H wn rfl rfl (fun j v hj=>H.hp.aJ (hga j v hj)) rfl ?_;clear H;intro a H;refine kH H (Rm rfl ?_);clear H;intro a H;refine s_call KZ H wn rfl (KG _ _ H.ro D l s hfl hok.ok (by omega)) rfl ?_;clear H;rintro v29 Kl a w rfl Mc H;replace hfl:=hfl.mono Mc;replace hga:=fun j v hj=>aO Mc (hga j v hj);refine kH H (Rm rfl ?_);clear H;intro a H;(iterate 2 refine jc H wn rfl rfl rfl ?_;clear H;intro a H);refine eB jD H wn rfl ?_;clear H;intro b5 a w hb5 H;refine bM jD 0 (vs:=[_,_,_,_,_,_]) _ H wn rfl rfl rfl rfl rfl rfl rfl rfl ?_;clear H;intro w H;dsimp only [List.set,setRow] at H;refine kH H (aU K6 rfl (SR fun _ K7=>?_));clear H K6;intro a H;refine bJ rY (cs:=D.cells) H wn rfl rfl (fun j v hj=>H.hp.aJ (hga j v hj)) rfl ?_;clear H;intro a H;refine kH H (Rm rfl ?_);clear H;intro a H;refine s_call VH H wn rfl (abO _ _ H.ro D l s hfl hok (by omega)) rfl ?_;clear H;rintro v35 Km a w ⟨tx,rfl,htx⟩ I9 H;replace hfl:=hfl.mono I9;replace hga:=fun j v hj=>aO I9 (hga j v hj);have hgf:aJ Km b2 0=some (fD D.f):=hga 0 _ rfl;refine kH H (Rm rfl ?_);clear H;intro a H;(iterate 2 refine jc H wn rfl rfl rfl ?_;clear H;intro a H);refine kH H (Ra rfl (ak K7 rfl (SR fun _ K8=>Rf Ci rfl (Rg gT rfl hgf ?_))));clear H K7;intro a H;refine s_call OH H wn rfl (YJ 1073741825 (bT _) _ _ H.ro 0 l _ hfl hok.ok (by omega)) rfl ?_;clear H;rintro v40 Nz a w aif Er H;replace hfl:=hfl.mono Er;replace hgf:=aO Er hgf;refine s_call aeH H wn rfl (ajH _ _ H.ro (dX 0 0 l) _ 1 aif (by omega) hnd agZ (by decide)) rfl ?_;clear H;rintro v41 HV a w Mg Ja H;replace hfl:=hfl.mono Ja;replace hgf:=aO Ja hgf;obtain ⟨R,hR0⟩:∃ R,R=nP (dX 0 0 l) 1:=⟨_,rfl⟩;have hRl:=amj (dX 0 0 l) 1;have hfa:=@agu l s;have hfn:=@agv l s;have hct:=fun sp=>@aac l hok 1 sp;rw [← hR0] at Mg hRl hfn hct
 simp only [← hR0] at hfa
 obtain ⟨A9,n9,c9,rfl⟩:=Mg.form;have Jf:=Mg.len;rw [bV] at Jf;subst Jf;obtain ⟨fo,hfo⟩:∃ fo,fo=uh l s:=⟨_,rfl⟩
 unfold KF at htx
 rw [← hfo] at H hfa hfn htx;refine kH H (ak K8 rfl (SQ fun _ K9=>SR fun _ aQ=>ak aQ rfl (SB ?_)));clear H K8 aQ;intro a H;skip;refine eU (ι:=Nat) (Tc:=[(1,_),(2,_),(5,_),(6,_),(7,_),(8,_),(9,_)]) (Lc:=[(_,_)]) (fun gh=>[(10,vi gh)]) (fun gh=>[]) (fun gh=>HV) (fun gh=>gh≤R.length∧∀ j (hj:j < gh) (hj2:j < R.length),¬ R[j].name=s) (fun gh=>R.length - gh) (0) (by exact (H).sub ⟨rfl,rfl,rfl,rfl,rfl,rfl,rfl,rfl,aB⟩) ?_ ?_
 ·exact ⟨iB _,fun j hj=>by omega⟩
 clear H;intro gh a w hI H;obtain ⟨k,hgh⟩:∃ x,x=gh:=⟨_,rfl⟩;subst hgh;obtain ⟨hk,hno⟩:=hI;dsimp only [lca,bG] at H;refine kP H (SQ fun _ bH=>SR fun _ bL=>Rm rfl (Rm rfl (Rl uF rfl (Rc rfl (Kz bL (Cd rfl ?_ ?_)))))) <;> clear H bL
 ·intro h45 a H
  try have p45:=dT h45
  have hk2:k < R.length:=by omega
  obtain ⟨b,o,rfl,hrow⟩:=M6 Mg hk2;refine kP H (Kc bH (SQ fun _ bR=>SB (SR fun _ bQ=>Rm rfl (Rm rfl (Ri uF jD rfl rfl (Rf Wt rfl (Rg fV rfl (hrow 1 _ rfl) (Rm rfl ?_))))))));clear H bH;intro a H;refine xI H wn rfl rfl rfl ?_;clear H;intro a H;rw [show (R[k].name.toList == s.toList)=decide (R[k].name=s) by rw [og,decide_eq_true_iff,beq_iff_eq];exact ⟨Oc,fun h=>by rw [h]⟩] at H;refine bQ _ _ ?_;clear bQ;refine kS H rfl ?_ ?_
  ·intro gW
   try have p54:=dT gW
   refine bK (fun _ dJ=>?_);have hf1:=hfa hk2 p54 (fun j hj=>hno j hj (by omega));rw [hf1] at H htx;dsimp only [Option.getD_some,Option.isSome_some] at H htx;obtain ⟨p,m,q,hq1,hq2,hq3,hq4,rfl⟩:=htx;have hLz:=Nat.le_trans (WG hq1) CK
   have vB:∀ (bE:Nat) (v:aj) (G G':GH),(∀ k o,G k=some o→G' k=some o)→(fun (bE:Nat) (v:aj) (G:GH)=>match bE with|0=>v=(aI b2 0)|1=>v=fD D.f|2=>v=.slice (some ⟨b,o,none⟩) R.length c9|3=>v=vi k|4=>v=(aI b (o+k*6))|5=>v=(aI b (o+k*6+2))|6=>v=(aI b (o+k*6+2+0))|7=>v=vi R[k].ff|8=>∃ v',v=.tuple #[v',.bool true]∧ay G (.sl 11 ((p++(m++q)).map au.dat)) v'|9=>∃ v',v=.tuple #[v',.bool true]∧ay G (.sl 11 ((p++(m++q)).map au.dat)) v'|10=>ay G (.sl 11 ((p++(m++q)).map au.dat)) v|11=>v=.bool true|12=>ay G (.sl 11 ((p++(m++q)).map au.dat)) v|_=>True) bE v G→(fun (bE:Nat) (v:aj) (G:GH)=>match bE with|0=>v=(aI b2 0)|1=>v=fD D.f|2=>v=.slice (some ⟨b,o,none⟩) R.length c9|3=>v=vi k|4=>v=(aI b (o+k*6))|5=>v=(aI b (o+k*6+2))|6=>v=(aI b (o+k*6+2+0))|7=>v=vi R[k].ff|8=>∃ v',v=.tuple #[v',.bool true]∧ay G (.sl 11 ((p++(m++q)).map au.dat)) v'|9=>∃ v',v=.tuple #[v',.bool true]∧ay G (.sl 11 ((p++(m++q)).map au.dat)) v'|10=>ay G (.sl 11 ((p++(m++q)).map au.dat)) v|11=>v=.bool true|12=>ay G (.sl 11 ((p++(m++q)).map au.dat)) v|_=>True) bE v G':=by
    intro bE v G G' hm h
    match bE,h with
    | 0,h=>exact h
    | 1,h=>exact h
    | 2,h=>exact h
    | 3,h=>exact h
    | 4,h=>exact h
    | 5,h=>exact h
    | 6,h=>exact h
    | 7,h=>exact h
    | 8,h=>exact let ⟨v',h1,h2⟩:=h;⟨v',h1,h2.mono hm⟩
    | 9,h=>exact let ⟨v',h1,h2⟩:=h;⟨v',h1,h2.mono hm⟩
    | 10,h=>exact ay.mono hm h
    | 11,h=>exact h
    | 12,h=>exact ay.mono hm h
    | 13,h=>exact trivial
    | _+14,h=>exact trivial
   refine xZ (hmx) [[],[0],[],[],[2,3],[2,3,4],(ra 2 4),(ra 2 5),(ra 0 8),(ra 0 9),(ra 0 10),(ra 0 10),(ra 0 11),(ra 0 13)] [13] (by kernel_rfl) (by kernel_rfl) (fun (bE:Nat) (v:aj) (G:GH)=>match bE with|0=>v=(aI b2 0)|1=>v=fD D.f|2=>v=.slice (some ⟨b,o,none⟩) R.length c9|3=>v=vi k|4=>v=(aI b (o+k*6))|5=>v=(aI b (o+k*6+2))|6=>v=(aI b (o+k*6+2+0))|7=>v=vi R[k].ff|8=>∃ v',v=.tuple #[v',.bool true]∧ay G (.sl 11 ((p++(m++q)).map au.dat)) v'|9=>∃ v',v=.tuple #[v',.bool true]∧ay G (.sl 11 ((p++(m++q)).map au.dat)) v'|10=>ay G (.sl 11 ((p++(m++q)).map au.dat)) v|11=>v=.bool true|12=>ay G (.sl 11 ((p++(m++q)).map au.dat)) v|_=>True) vB H ?_ ?_
   ·clear H;refine aD ?_ ?_ ?_ ?_ (aD ?_ ?_ ?_ ?_ (aD ?_ ?_ ?_ ?_ (aZ ?_ (aZ (bN rfl) cu))))
    ·refine bX [] rfl trivial (by kernel_rfl) vB rfl rfl ?_;intro aV a w G1 hG HT H fin;exact kH H (Rf Ci rfl fun _ H=>fin H iJ rfl)
    ·refine bX [(0,56,_)] rfl ⟨fun _ _ h=>h,aB⟩ (by kernel_rfl) vB rfl rfl ?_;intro aV a w G1 hG HT H fin;exact kH H (Rg gT rfl (aO hG hgf) fun _ H=>fin H iJ rfl)
    ·refine bX [] rfl trivial (by kernel_rfl) vB rfl rfl ?_;intro aV a w G1 hG HT H fin;exact kH H (Rm rfl fun _ H=>fin H iJ rfl)
    ·refine bX [] rfl trivial (by kernel_rfl) vB rfl rfl ?_;intro aV a w G1 hG HT H fin;exact kH H (Rm rfl fun _ H=>fin H iJ rfl)
    ·refine bX [(2,58,_),(3,59,_)] rfl ⟨fun _ _ h=>h,fun _ _ h=>h,aB⟩ (by kernel_rfl) vB rfl rfl ?_;intro aV a w G1 hG HT H fin;exact kH H (Ri uF jD rfl rfl fun _ H=>fin H iJ rfl)
    ·refine bX [(4,60,_)] rfl ⟨fun _ _ h=>h,aB⟩ (by kernel_rfl) vB rfl rfl ?_;intro aV a w G1 hG HT H fin;exact kH H (Rf uT rfl fun _ H=>fin H iJ rfl)
    ·refine bX [(5,61,_)] rfl ⟨fun _ _ h=>h,aB⟩ (by kernel_rfl) vB rfl rfl ?_;intro aV a w G1 hG HT H fin;exact kH H (Rf AU rfl fun _ H=>fin H iJ rfl)
    ·refine bX [(6,62,_)] rfl ⟨fun _ _ h=>h,aB⟩ (by kernel_rfl) vB rfl rfl ?_;intro aV a w G1 hG HT H fin;exact kH H (Rg aH rfl (aO hG (hrow 2 _ rfl)) fun _ H=>fin H iJ rfl)
    ·refine bX [(1,57,_),(7,63,_)] rfl ⟨fun _ _ h=>h,fun _ _ h=>h,aB⟩ (by kernel_rfl) vB rfl rfl ?_;intro aV a w G1 hG HT H fin;refine s_call OM H wn rfl (ajD _ _ H.ro R[k].ff l _ (hfl.mono hG) hok.ok (by omega)) rfl ?_;clear H;rintro v64 Tx a w Jm IW H;rw [hq1] at Jm;exact fin H IW (Jm)
    ·intro aV a w G1 _ aX hc hG HT hv;have H:=HT;clear aX;obtain ⟨u64,hu64,Jm⟩:=hv 8 64 (hc 8 (by decide)) rfl;(try dsimp only at Jm);obtain ⟨aor,rfl,aiG⟩:=Jm;have H:=H.iT hu64;have Hb:=H.full;have H:=Hb;clear hc;refine kH H (Rm rfl ?_);clear H;intro a H;refine aG ⟨rfl,?_⟩;exact gG (by kernel_rfl) vB rfl rfl HT Hb hG hv (fun _ _ h=>h) (⟨_,rfl,aiG⟩) H
    ·intro aV a w G1 _ aX hc hG HT hv;have H:=HT;clear aX;obtain ⟨u55,QJ,Jl⟩:=hv 9 55 (hc 9 (by decide)) rfl;(try dsimp only at Jl);obtain ⟨amT,rfl,XZ⟩:=Jl;have H:=H.iT QJ;have Hb:=H.full;have H:=Hb;clear hc;refine jc H wn rfl rfl rfl ?_;clear H;intro a H;refine aG ⟨rfl,?_⟩;exact gG (by kernel_rfl) vB rfl rfl HT Hb hG hv (fun _ _ h=>h) (XZ) H
    ·intro aV a w G1 _ aX hc hG HT hv;have H:=HT;clear aX;obtain ⟨u55,QJ,Jl⟩:=hv 9 55 (hc 9 (by decide)) rfl;(try dsimp only at Jl);obtain ⟨amT,rfl,XZ⟩:=Jl;have H:=H.iT QJ;have Hb:=H.full;have H:=Hb;clear hc;refine jc H wn rfl rfl rfl ?_;clear H;intro a H;refine aG ⟨rfl,?_⟩;exact gG (by kernel_rfl) vB rfl rfl HT Hb hG hv (fun _ _ h=>h) (rfl) H
    intro aV a w G1 _ aX hc hG HT hv;have H:=HT;clear aX;obtain ⟨u65,aiz,QA⟩:=hv 10 65 (hc 10 (by decide)) rfl;(try dsimp only at QA);obtain ⟨A65,n65,c65,rfl⟩:=QA.form;have H:=H.iT aiz;have Hb:=H.full;have H:=Hb;clear hc;refine kH H (Ra rfl ?_);clear H;intro a H;refine aG ⟨rfl,?_⟩;exact gG (by kernel_rfl) vB rfl rfl HT Hb hG hv (fun _ _ h=>h) (QA) H
   clear H;intro a w G kW H hv;obtain ⟨u11,QH,Bp⟩:=hv 12 11 (by decide) rfl;(try dsimp only at Bp);obtain ⟨Te,n11,c11,rfl⟩:=Bp.form;have H:=H.iT QH;have H:=H.aP (hv 11 66 rfl rfl) rfl;clear hv;refine kH H (Ra rfl ?_);clear H;intro a H;refine aG ⟨rfl,?_⟩;refine dJ _ _ ?_;clear dJ;refine bK (fun _ dO=>?_);refine dI hmx [[],[0],[0,1],[0,1,2],(ra 0 4),(ra 0 5),(ra 0 5),(ra 0 5),[0,1,2,3,4,6,7],[0,1,2,3,4,6,7,8],(ra 0 10),(ra 0 11),(ra 0 12),(ra 0 13),(ra 0 13),(ra 0 13),(ra 0 13),(ra 0 13++[15,16]),(ra 0 13++[15,16,17]),(ra 0 13++ra 15 4),(ra 0 13++ra 15 5),(ra 0 13),(ra 0 13),(ra 0 13++[21,22]),(ra 0 13++[21,22,23]),(ra 0 13++ra 21 4),(ra 0 13++ra 21 5),(ra 0 13++ra 14 13),(ra 0 28),(ra 0 29),(ra 0 30)] [30] (by kernel_rfl) [_,_,.bool true,_,_,.agg R[k].cells.toArray,.slice (some ⟨b,o,none⟩) R.length c9,vi k,(aI b (o+k*6)),.agg R[k].cells.toArray,.bool true,_,_,.string ⟨(ji m).toArray⟩,.slice Te n11 c11,.slice (some ⟨b,o,none⟩) R.length c9,vi k,(aI b (o+k*6)),(aI b (o+k*6+2)),(aI b (o+k*6+2+1)),vi R[k].fa,.slice (some ⟨b,o,none⟩) R.length c9,vi k,(aI b (o+k*6)),(aI b (o+k*6+4)),(aI b (o+k*6+4+1)),vi R[k].ta,.string ⟨(ji m).toArray⟩,.bool true,_] H (aD (Z0 rfl (Rm rfl)) (Z1 0 67 rfl (Rm rfl)) ?_ (Z2 1 68 2 69 rfl (Pt rfl rfl)) (aD (Z1 3 70 rfl (Rm rfl)) ?_ ?_ ?_ (aD ?_ ?_ ?_ (Z2 4 71 10 77 rfl (Pt rfl rfl)) (aD (Z1 11 78 rfl (Rm rfl)) ?_ ?_ ?_ (aD ?_ ?_ ?_ ?_ (aD ?_ ?_ ?_ ?_ (aD ?_ ?_ ?_ ?_ (aZ ?_ (aZ (Z2 12 79 28 95 rfl (Pt rfl rfl)) (aZ (bN rfl) cu)))))))))) ?_
   ·refine dB 1 68 rfl rfl fun _ a w G1 hG HT H fin=>?_;refine uE H (wg H rfl rfl rfl) rfl rfl ?_;clear H;intro a H;exact fin H iJ rfl
   ·refine dB 4 71 rfl rfl fun _ a w G1 hG HT H fin=>?_;refine bJ jD (cs:=[_,_,_,_,_,_]) H (wg H rfl rfl rfl) rfl rfl (H.hp.dL 0 rfl rfl) rfl ?_;clear H;intro a H;exact fin H iJ rfl
   ·refine dB 4 71 rfl rfl fun _ a w G1 hG HT H fin=>?_;refine uE H (wg H rfl rfl rfl) rfl rfl ?_;clear H;intro a H;exact fin H iJ rfl
   ·refine dB 4 71 rfl rfl fun _ a w G1 hG HT H fin=>?_;refine uE H (wg H rfl rfl rfl) rfl rfl ?_;clear H;intro a H;exact fin H iJ rfl
   ·refine nD 6 73 7 74 4 71 rfl rfl fun _ a w G1 hG HT H fin=>?_;refine vF uF jD _ H (wg H rfl rfl rfl) rfl rfl rfl (by first|assumption|omega) rfl ?_;clear H;intro a H;exact fin H iJ rfl
   ·refine bZ 8 75 4 71 rfl rfl fun _ a w G1 hG HT H fin=>?_;refine bJ jD (cs:=R[k].cells) H (wg H rfl rfl rfl) rfl rfl (fun j v hj=>H.hp.aJ (aO hG (aO kW (hrow j v hj)))) rfl ?_;clear H;intro a H;exact fin H iJ rfl
   ·refine nD 5 72 9 76 4 71 rfl rfl fun _ a w G1 hG HT H fin=>?_;refine R6 O5 H (wg H rfl rfl rfl) rfl rfl rfl rfl ?_;clear H;intro a H;exact fin H iJ (aF (by simp [jG,jQ]))
   ·refine dB 12 79 rfl rfl fun _ a w G1 hG HT H fin=>?_;refine uE H (wg H rfl rfl rfl) rfl rfl ?_;clear H;intro a H;exact fin H iJ rfl
   ·refine dB 12 79 rfl rfl fun _ a w G1 hG HT H fin=>?_;refine uE H (wg H rfl rfl rfl) rfl rfl ?_;clear H;intro a H;exact fin H iJ rfl
   ·refine dB 12 79 rfl rfl fun _ a w G1 hG HT H fin=>?_;refine uE H (wg H rfl rfl rfl) rfl rfl ?_;clear H;intro a H;exact fin H iJ rfl
   ·refine dB 12 79 rfl rfl fun _ a w G1 hG HT H fin=>?_;refine uE H (wg H rfl rfl rfl) rfl rfl ?_;clear H;intro a H;exact fin H iJ rfl
   ·refine nD 15 82 16 83 12 79 rfl rfl fun _ a w G1 hG HT H fin=>?_;refine vF uF jD _ H (wg H rfl rfl rfl) rfl rfl rfl (by first|assumption|omega) rfl ?_;clear H;intro a H;exact fin H iJ rfl
   ·refine bZ 17 84 12 79 rfl rfl fun _ a w G1 hG HT H fin=>?_;refine zY uT H (wg H rfl rfl rfl) rfl rfl ?_;clear H;intro a H;exact fin H iJ rfl
   ·refine bZ 18 85 12 79 rfl rfl fun _ a w G1 hG HT H fin=>?_;refine zY sJ H (wg H rfl rfl rfl) rfl rfl ?_;clear H;intro a H;exact fin H iJ rfl
   ·refine bZ 19 86 12 79 rfl rfl fun _ a w G1 hG HT H fin=>?_;refine pX aH H (wg H rfl rfl rfl) rfl (H.hp.aJ (aO hG (aO kW (hrow 3 _ rfl)))) rfl ?_;clear H;intro a H;exact fin H iJ rfl
   ·refine dB 12 79 rfl rfl fun _ a w G1 hG HT H fin=>?_;refine uE H (wg H rfl rfl rfl) rfl rfl ?_;clear H;intro a H;exact fin H iJ rfl
   ·refine dB 12 79 rfl rfl fun _ a w G1 hG HT H fin=>?_;refine uE H (wg H rfl rfl rfl) rfl rfl ?_;clear H;intro a H;exact fin H iJ rfl
   ·refine nD 21 88 22 89 12 79 rfl rfl fun _ a w G1 hG HT H fin=>?_;refine vF uF jD _ H (wg H rfl rfl rfl) rfl rfl rfl (by first|assumption|omega) rfl ?_;clear H;intro a H;exact fin H iJ rfl
   ·refine bZ 23 90 12 79 rfl rfl fun _ a w G1 hG HT H fin=>?_;refine zY Ck H (wg H rfl rfl rfl) rfl rfl ?_;clear H;intro a H;exact fin H iJ rfl
   ·refine bZ 24 91 12 79 rfl rfl fun _ a w G1 hG HT H fin=>?_;refine zY sJ H (wg H rfl rfl rfl) rfl rfl ?_;clear H;intro a H;exact fin H iJ rfl
   ·refine bZ 25 92 12 79 rfl rfl fun _ a w G1 hG HT H fin=>?_;refine pX aH H (wg H rfl rfl rfl) rfl (H.hp.aJ (aO hG (aO kW (hrow 5 _ rfl)))) rfl ?_;clear H;intro a H;exact fin H iJ rfl
   ·refine bX [(14,81,_),(20,87,_),(26,93,_),(12,79,_)] rfl ⟨fun _ _ h=>h,fun _ _ h=>h,fun _ _ h=>h,fun _ _ h=>h,aB⟩ (by kernel_rfl) (fun _ _ _ _ _ h=>h) rfl rfl ?_;intro aV a w G1 hG HT H fin;refine s_call aeL H (wg H rfl rfl rfl) (by rw [hq3,hq4];rfl) (ajI _ _ H.ro p m q _ (Bp.mono hG) hq2 (by omega)) rfl ?_;clear H;rintro v94 G94 a w rfl agR H;exact fin H agR (rfl)
   ·refine nD 13 80 27 94 12 79 rfl rfl fun _ a w G1 hG HT H fin=>?_;refine xI H (wg H rfl rfl rfl) rfl rfl rfl ?_;clear H;intro a H;exact fin H iJ (aF (beq_self_eq_true _))
   clear H;intro a w G iN H hv;have H:=H.aP (hv 29 96 rfl rfl) rfl;clear hv;refine kH H (Ra rfl ?_);clear H;intro a H;refine aG ⟨rfl,?_⟩;refine dO _ _ ?_;clear dO;refine lr H results7 rfl ?_;exact H.rt (by first|rfl|exact aF (beq_self_eq_true _))
  intro gW
  try have p54:=dF gW
  refine kP H (Kc bR (SC (Rm rfl (Rd rfl (Ra rfl ?_)))));clear H bR;intro a H;refine aG ?_;refine dh (k+1) (by exact (H).sub ⟨rfl,rfl,rfl,rfl,rfl,rfl,rfl,rfl,aB⟩) ?_ ?_
  ·exact ⟨by omega,fun j hj hj2=>by
   by_cases e:j=k
   ·subst e;exact fun e'=>p54 e'
   exact hno j (by omega) hj2⟩
  first|omega|(dsimp only;omega)
 intro h45 a H
 try have p45:=dF h45
 obtain rfl:k=R.length:=by omega
 have hf1:=hfn fun j hj=>hno j hj hj;rw [hf1] at H htx;dsimp only [Option.getD_none,Option.isSome_none] at H htx;subst htx;refine dW ?_;refine K9 _ _ ?_;clear K9;refine kP H (SR fun _ dK=>Rm rfl (Rn rfl (Rm rfl (Sp 99 rfl ?_ ?_)))) <;> clear H
 ·intro sM a H
  try have Zi:=dT sM
  refine kH H (YM sM rfl (YN sM rfl (Pt sM rfl (Rm rfl (Sp 103 rfl ?_ ?_))))) <;> clear H
  ·intro Ea a H
   try have aoh:=dT Ea
   refine bJ jD (cs:=[_,_,_,_,_,_]) H (wg H rfl rfl Ea) rfl rfl (H.hp.dL 0 rfl rfl) rfl ?_;clear H;intro a H;refine jR JX [_,_,_,_,_,_] H (wg H rfl rfl Ea) rfl rfl rfl rfl ?_;clear H;intro a H;refine R6 O5 H (wg H rfl rfl Ea) rfl rfl rfl rfl ?_;clear H;intro a H;refine kH H (Pt Ea rfl (Rm rfl (Sp 108 rfl ?_ ?_))) <;> clear H
   ·intro FR a H
    try have aoi:=dT FR
    refine kH H (YM FR rfl ?_);clear H;intro a H;refine xI H (wg H rfl rfl FR) rfl rfl rfl ?_;clear H;intro a H;exact kH H (Pt FR rfl (ak dK rfl (LR results7 rfl fun H=>H.rt (by first|rfl|exact aF (beq_self_eq_true _)))))
   intro FR a H
   exact absurd FR (by simp [jG,jQ,aaZ])
  intro Ea a H
  exact absurd Ea (by decide)
 intro sM a H
 exact absurd sM (by decide)
end
section
open Go.ChangeShapes Go.RowKit Go.Deep
abbrev pK (W:World):GH:=fun k=>W.heap[k]?
theorem agB {W:World} {b o:Nat} {v:aj} (h:W.cell? ⟨b,o,none⟩=some v):aJ (pK W) b o=some v:=by
 unfold World.cell? at h
 unfold aJ pK
 split at h
 ·rename_i c e f hh
  simp only at hh
  rw [hh];simpa using h
 cases h
theorem Yq {α:Type} {p:Nat→α→Prop}:∀ n:Nat,(∀ i,i < n→∃ x,p i x)→∃ l:List α,l.length=n∧∀ i x,l[i]?=some x→p i x
 | 0,_=>⟨[],rfl,fun i x h=>by simp at h⟩
 | n+1,h=>by
  obtain ⟨l,hl,hp⟩:=Yq n (fun i hi=>h i (by omega));obtain ⟨x,hx⟩:=h n (by omega);refine ⟨l++[x],by simp [hl],fun i y hy=>?_⟩
  by_cases hi:i < l.length
  ·exact hp i y (by rwa [uL hi] at hy)
  rw [tT (by omega)] at hy
  have hin:i - l.length=0:=by
   have:=(jm.1 hy).1
   simp at this;omega
  rw [hin] at hy
  simp only [Cc,nY] at hy
  subst hy;rw [show i=n by omega];exact hx
theorem ace {H:Type} (d:DataW H):1≤Rows.uptoBulk d:=by
 cases d <;> (try simp only [Rows.uptoBulk]) <;> (try omega)
 rename_i x;cases x <;> simp only [Rows.uptoBulk] <;> omega
theorem UR {H ρ:Type} {dat:ρ→List Dat}:∀ (rs:List ρ) (D:Nat→DataW H),(∀ i r,rs[i]?=some r→dx (dat r)+1≤8*Rows.uptoBulk (D i))→eZ (rs.map dat)≤8*Rows.uptoBulkAll ((List.range rs.length).map D)
 | [],D,_=>iB _
 | r :: rs,D,h=>by
  have h0:=h 0 r rfl;have hp:=ace (D 0);have ih:=UR rs (fun i=>D (i+1)) (fun i r hr=>h (i+1) r (by simpa using hr));rw [nZ,List.range_succ_eq_map]
  simp only [fu,List.map_map,eZ,Rows.uptoBulkAll]
  have e:(List.map (D ∘ Nat.succ) (List.range rs.length))=(List.map (fun i=>D (i+1)) (List.range rs.length)):=rfl;rw [e];omega
theorem UQ {H:Type} {D:Nat→DataW H}:∀ {n i:Nat},i < n→Rows.uptoBulk (D i)≤Rows.uptoBulkAll ((List.range n).map D)
 | 0,i,h=>absurd h (by omega)
 | n+1,i,h=>by
  have key:∀ (l m:List (DataW H)),Rows.uptoBulkAll (l++m)=Rows.uptoBulkAll l+Rows.uptoBulkAll m:=by
   intro l m
   induction l with
   | nil=>simp [Rows.uptoBulkAll]
   | cons x l ih=>simp only [mG,Rows.uptoBulkAll,ih];omega
  rw [List.range_succ,kL,key]
  by_cases hi:i < n
  ·have:=UQ (D:=D) hi;omega
  have:i=n:=by omega
  subst this
  simp only [fu,qL,Rows.uptoBulkAll];omega
section
variable {H:Type} {enc:TypeId × aj→H} {P:Program} {W:World} {base:Nat} {spare:Nat→Bool} {held:Bool}
theorem uz {ρ:Type} {dat:ρ→List Dat} {t e:TypeId} {sz:Nat} (hsz:0 < sz) {fuel:Nat} {cs:List aj} {x:DataW H × List MemPlace} (ht:P.underlying t=some (.slice e)) (hc:P.cellsOf e=sz) (h:DataW.trod enc P W base spare held fuel t cs=some x)
  (row:∀ n cs' D Pl,DataW.trod enc P W base spare held n e cs'=some (D,Pl)→Rows.uptoBulk D < Rows.uptoBulk x.1→∃ r:ρ,aY (pK W) (dat r) cs'∧dx (dat r)+1≤8*Rows.uptoBulk D) :
  ∃ (rs:List ρ) (v:aj),cs=[v]∧ay (pK W) (.sl sz (rs.map dat)) v∧eZ (rs.map dat)+8≤8*Rows.uptoBulk x.1:=by
 rcases open_slice ht h with ⟨rfl,rfl⟩|⟨a,len,cap,m,n,D,Pl,rfl,hb,hl,hm,hmm,rfl,hx⟩
 ·exact ⟨[],_,rfl,ay.jH rfl (by decide),by simp [eZ,Rows.uptoBulk]⟩
 obtain ⟨rs,hrl,hrs⟩:=Yq (p:=fun i (r:ρ)=>∃ cs',W.cells? base (a.add (i*sz)) sz=some cs'∧aY (pK W) (dat r) cs'∧dx (dat r)+1≤8*Rows.uptoBulk (D i)) len (fun i hi=>by
  have him:i < m:=by rw [hmm];split <;> omega
  obtain ⟨cs',h1,h2⟩:=hx i him;rw [hc] at h1;have hb1:=UQ (D:=D) hi;obtain ⟨r,hr1,hr2⟩:=row n cs' (D i) (Pl i) h2 (by simp only [Rows.uptoBulk];omega)
  exact ⟨r,cs',h1,hr1,hr2⟩)
 refine ⟨rs,_,rfl,?_,?_⟩
 ·simp only [ay,bV]
  refine ⟨some a,cap,by rw [hrl],by omega,hm,fun hne=>?_⟩;obtain ⟨b,off,spot⟩:=a
  have hlen:0 < rs.length:=by cases rs with|nil=>simp at hne|cons _ _=>simp
  obtain ⟨cs0,h1,-,-⟩:=hrs 0 rs[0] (iA hlen);obtain ⟨-,hl0,hg0⟩:=World.cells?_some h1
  have hspot:spot=none:=by
   have h3:=hg0 0 hsz;rw [iA (by omega)] at h3
   simpa [Addr.add] using World.cell?_spot h3
  subst hspot;refine ⟨b,off,rfl,lG.mk fun k r hk=>?_⟩;rw [qm] at hk;obtain ⟨y,hy,rfl⟩:=lY.1 hk;obtain ⟨cs',h2,h3,-⟩:=hrs k y hy;obtain ⟨-,hl1,hg1⟩:=World.cells?_some h2;refine ⟨cs',hl1,fun j u hj=>agB ?_,h3⟩
  have hj2:j < sz:=by rw [← hl1];exact (jm.1 hj).1
  have:=hg1 j hj2;rw [add_add,Go.WideShapes.add_plain] at this;rw [show off+k*sz+j=off+(k*sz+j) by omega,this];exact hj
 have:=UR rs D (fun i r hr=>(hrs i r hr).choose_spec.2.2);rw [hrl] at this
 simp only [Rows.uptoBulk];omega
end
structure rD (P:Program) (t:TypeId) (sz:Nat) (fs:List (TypeId × Nat × Nat)):Prop where
 und:P.underlying t=some (.struct (P.fieldsOf t))
 cells:P.cellsOf t=sz
 uX:(P.fieldsOf t).toList.map (fun f=>(f.type,f.offset,P.cellsOf f.type))=fs
theorem sV {P:Program} {H:Type} {enc:TypeId × aj→H} {W:World} {base:Nat} {spare:Nat→Bool} {held:Bool} {t:TypeId} {sz fuel:Nat} {fs:List (TypeId × Nat × Nat)} {cs:List aj} {x:DataW H × List MemPlace} (hs:rD P t sz fs) (h:DataW.trod enc P W base spare held fuel t cs=some x) :
  ∃ (xs:List (DataW H × List MemPlace)) (n:Nat),x.1=.agg (xs.map (·.1))∧cs.length=sz∧xs.length=fs.length∧∀ (i:Nat) (ti:TypeId) (off k:Nat),fs[i]?=some (ti,off,k)→DataW.trod enc P W base spare held n ti ((cs.drop off).take k)=xs[i]?:=by
 obtain ⟨xs,n,-,rfl,hl,hxl,hf⟩:=DataW.trod_struct hs.und h;refine ⟨xs,n,rfl,by rw [hl,hs.cells],by rw [hxl,← hs.uX];simp,fun i ti off k hi=>?_⟩;rw [← hs.uX,qm] at hi;obtain ⟨f,hf1,hf2⟩:=lY.1 hi
 simp only [gU] at hf2
 obtain ⟨rfl,rfl,rfl⟩:=hf2;exact hf i f (by simpa using hf1)
section
variable {H:Type} {enc:TypeId × aj→H} {W:World} {base:Nat} {spare:Nat→Bool} {held:Bool}
theorem alV:rD prog 187 2 [(3,0,1),(3,1,1)]:=⟨by kernel_rfl,by kernel_rfl,by kernel_rfl⟩
theorem Zu {n:Nat} {cs:List aj} {D:DataW H} {Pl:List MemPlace} (h:DataW.trod enc prog W base spare held n 187 cs=some (D,Pl)):∃ r:iL,aY (pK W) r.dat cs∧dx r.dat+1≤8*Rows.uptoBulk D:=by
 obtain ⟨xs,m,hx,hl,hxl,hf⟩:=sV alV h
 match cs,hl,xs,hxl with
 | [c0,c1],_,[y0,y1],_ =>
  have h0:=hf 0 _ _ _ rfl;have h1:=hf 1 _ _ _ rfl;obtain ⟨k0,e0,d0,-⟩:=DataW.trod_int underlying3 h0;obtain ⟨k1,e1,d1,-⟩:=DataW.trod_int underlying3 h1
  simp at e0 e1
  subst e0 e1
  simp only at hx
  refine ⟨⟨k0,k1⟩,?_,?_⟩
  ·simp [aY,iL.dat,ay,Value.oneCell']
  rw [hx];simp [d0,d1,iL.dat,dx,qb,Rows.uptoBulk,Rows.uptoBulkAll]
theorem alO:rD prog 190 2 [(3,0,1),(3,1,1)]:=⟨by kernel_rfl,by kernel_rfl,by kernel_rfl⟩
theorem akN {n:Nat} {cs:List aj} {D:DataW H} {Pl:List MemPlace} (h:DataW.trod enc prog W base spare held n 190 cs=some (D,Pl)):∃ r:jN,aY (pK W) r.dat cs∧dx r.dat+1≤8*Rows.uptoBulk D:=by
 obtain ⟨xs,m,hx,hl,hxl,hf⟩:=sV alO h
 match cs,hl,xs,hxl with
 | [c0,c1],_,[y0,y1],_ =>
  have h0:=hf 0 _ _ _ rfl;have h1:=hf 1 _ _ _ rfl;obtain ⟨k0,e0,d0,-⟩:=DataW.trod_int underlying3 h0;obtain ⟨k1,e1,d1,-⟩:=DataW.trod_int underlying3 h1
  simp at e0 e1
  subst e0 e1
  simp only at hx
  refine ⟨⟨k0,k1⟩,?_,?_⟩
  ·simp [aY,jN.dat,ay,Value.oneCell']
  rw [hx];simp [d0,d1,jN.dat,dx,qb,Rows.uptoBulk,Rows.uptoBulkAll]
theorem alR:rD prog 199 4 [(3,0,1),(3,1,1),(3,2,1),(4,3,1)]:=⟨by kernel_rfl,by kernel_rfl,by kernel_rfl⟩
theorem akQ {n:Nat} {cs:List aj} {D:DataW H} {Pl:List MemPlace} (h:DataW.trod enc prog W base spare held n 199 cs=some (D,Pl)):∃ r:jw,aY (pK W) r.dat cs∧dx r.dat+1≤8*Rows.uptoBulk D:=by
 obtain ⟨xs,m,hx,hl,hxl,hf⟩:=sV alR h
 match cs,hl,xs,hxl with
 | [c0,c1,c2,c3],_,[y0,y1,y2,y3],_ =>
  have h0:=hf 0 _ _ _ rfl;have h1:=hf 1 _ _ _ rfl;have h2:=hf 2 _ _ _ rfl;have h3:=hf 3 _ _ _ rfl;obtain ⟨k0,e0,d0,-⟩:=DataW.trod_int underlying3 h0;obtain ⟨k1,e1,d1,-⟩:=DataW.trod_int underlying3 h1;obtain ⟨k2,e2,d2,-⟩:=DataW.trod_int underlying3 h2;obtain ⟨k3,e3,d3⟩:=DataW.trod_bool underlying4 h3
  simp at e0 e1 e2 e3
  subst e0 e1 e2 e3
  simp only at hx
  refine ⟨⟨k0,k1,k2,k3⟩,?_,?_⟩
  ·simp [aY,jw.dat,ay,Value.oneCell']
  rw [hx];simp [d0,d1,d2,d3,jw.dat,dx,qb,Rows.uptoBulk,Rows.uptoBulkAll]
theorem alU:rD prog 27 4 [(3,0,1),(3,1,1),(24,2,1),(25,3,1)]:=⟨by kernel_rfl,by kernel_rfl,by kernel_rfl⟩
theorem alP:rD prog 29 5 [(23,0,1),(27,1,4)]:=⟨by kernel_rfl,by kernel_rfl,by kernel_rfl⟩
theorem U3:prog.cellsOf 187=2:=by kernel_rfl
theorem acA:prog.cellsOf 190=2:=by kernel_rfl
theorem acB:prog.cellsOf 199=4:=by kernel_rfl
theorem MS {n:Nat} {cs:List aj} {x:DataW H × List MemPlace} (h:DataW.trod enc prog W base spare held n 29 cs=some x):∃ (r:iE) (p d l:aj),cs=[p,vi r.marks.ins,vi r.marks.move,d,l]∧iR (pK W) r p d l∧qG r+15≤8*Rows.uptoBulk x.1:=by
 obtain ⟨xs,m,hx,hl,hxl,hf⟩:=sV alP h
 match cs,hl,xs,hxl with
 | [c0,c1,c2,c3,c4],_,[y0,y1],_ =>
  have h0:=hf 0 _ _ _ rfl;have h1:=hf 1 _ _ _ rfl;obtain ⟨ps,pv,e0,rp,sp⟩:=uz (dat:=iL.dat) (sz:=2) (by omega) underlying23 U3 h0 (fun n cs' D Pl hh _=>Zu hh);obtain ⟨zs,m2,hz,hzl,hzx,CK⟩:=sV alU h1
  match zs,hzx with
  | [z0,z1,z2,z3],_ =>
   have g0:=CK 0 _ _ _ rfl;have g1:=CK 1 _ _ _ rfl;have g2:=CK 2 _ _ _ rfl;have g3:=CK 3 _ _ _ rfl;obtain ⟨k0,e1,d0,-⟩:=DataW.trod_int underlying3 g0;obtain ⟨k1,e2,d1,-⟩:=DataW.trod_int underlying3 g1;obtain ⟨ds,dv,e3,rd,sd⟩:=uz (dat:=jN.dat) (sz:=2) (by omega) underlying24 acA g2 (fun n cs' D Pl hh _=>akN hh);obtain ⟨ls,lv,e4,rl,sl⟩:=uz (dat:=jw.dat) (sz:=4) (by omega) underlying25 acB g3 (fun n cs' D Pl hh _=>akQ hh)
   simp at e0 e1 e2 e3 e4
   subst e0 e1 e2 e3 e4;refine ⟨⟨ps,⟨k0,k1,ds,ls⟩⟩,_,_,_,rfl,⟨rp,rd,rl⟩,?_⟩;have hzh:=J8 ⟨ps,⟨k0,k1,ds,ls⟩⟩
   simp only at hzh
   rw [hx]
   simp only [fu,qL,Rows.uptoBulk,Rows.uptoBulkAll,hz,d0,d1]
   omega
theorem alQ:rD prog 63 11 [(3,0,1),(3,1,1),(3,2,1),(9,3,1),(29,4,5),(22,9,1),(61,10,1)]:=⟨by kernel_rfl,by kernel_rfl,by kernel_rfl⟩
theorem alW:rD prog 96 6 [(29,0,5),(94,5,1)]:=⟨by kernel_rfl,by kernel_rfl,by kernel_rfl⟩
theorem alM:rD prog 98 7 [(3,0,1),(29,1,5),(22,6,1)]:=⟨by kernel_rfl,by kernel_rfl,by kernel_rfl⟩
theorem Oh:prog.cellsOf 63=11:=by kernel_rfl
theorem acE:prog.cellsOf 96=6:=by kernel_rfl
theorem acy:prog.cellsOf 98=7:=by kernel_rfl
theorem Zt:∀ (N:Nat) (n:Nat) (cs:List aj) (D:DataW H) (Pl:List MemPlace),DataW.trod enc prog W base spare held n 63 cs=some (D,Pl)→Rows.uptoBulk D < N→∃ r:au,aY (pK W) r.dat cs∧dx r.dat+1≤8*Rows.uptoBulk D
 | 0,_,_,_,_,_,hN=>absurd hN (by omega)
 | N+1,n,cs,D,Pl,h,hN=>by
  have ih:=Zt N;obtain ⟨xs,m,hx,hl,hxl,hf⟩:=sV alQ h
  match cs,hl,xs,hxl with
  | [c0,c1,c2,c3,c4,c5,c6,c7,c8,c9,c10],_,[y0,y1,y2,y3,y4,y5,y6],_ =>
   have h0:=hf 0 _ _ _ rfl;have h1:=hf 1 _ _ _ rfl;have h2:=hf 2 _ _ _ rfl;have h3:=hf 3 _ _ _ rfl;have h4:=hf 4 _ _ _ rfl;have h5:=hf 5 _ _ _ rfl;have h6:=hf 6 _ _ _ rfl
   simp only at hx
   have hD:Rows.uptoBulk D=Rows.uptoBulk y0.1+(Rows.uptoBulk y1.1+(Rows.uptoBulk y2.1+(Rows.uptoBulk y3.1+(Rows.uptoBulk y4.1+(Rows.uptoBulk y5.1+(Rows.uptoBulk y6.1+0))))))+1:=by
    rw [hx];simp only [fu,qL,Rows.uptoBulk,Rows.uptoBulkAll]
   obtain ⟨k0,e0,d0,-⟩:=DataW.trod_int underlying3 h0;obtain ⟨k1,e1,d1,-⟩:=DataW.trod_int underlying3 h1;obtain ⟨k2,e2,d2,-⟩:=DataW.trod_int underlying3 h2;obtain ⟨s,e3,d3,-⟩:=DataW.trod_string underlying9 h3;obtain ⟨hd,p,d,l,e4,rh,sh⟩:=MS h4;obtain ⟨fl,fv,e5,rf,sf⟩:=uz (dat:=au.dat) (sz:=11) (by omega) underlying22 Oh h5 (fun n cs' D' dD hh hlt=>ih n cs' D' dD hh (by omega))
   obtain ⟨rs,rv,e6,rr,sr⟩:=uz (dat:=bD.dat) (sz:=6) (by omega) underlying61 acE h6 (fun n cs' D' dD hh hlt=>by
    obtain ⟨xs,m,hx,hl,hxl,hf⟩:=sV alW hh
    match cs',hl,xs,hxl with
    | [a0,a1,a2,a3,a4,a5],_,[w0,w1],_ =>
     have g0:=hf 0 _ _ _ rfl;have g1:=hf 1 _ _ _ rfl
     simp only at hx
     have hD':Rows.uptoBulk D'=Rows.uptoBulk w0.1+(Rows.uptoBulk w1.1+0)+1:=by
      rw [hx];simp only [fu,qL,Rows.uptoBulk,Rows.uptoBulkAll]
     obtain ⟨hd2,p2,d2',l2,q0,rh2,sh2⟩:=MS g0
     obtain ⟨cl,cv,q1,rc,sc⟩:=uz (dat:=bF.dat) (sz:=7) (by omega) underlying94 acy g1 (fun n cs'' D'' anl hh2 hlt2=>by
      obtain ⟨xs,m,hx2,hl2,aiH,hf2⟩:=sV alM hh2
      match cs'',hl2,xs,aiH with
      | [b0,b1,b2,b3,b4,b5,b6],_,[v0,v1,v2],_ =>
       have u0:=hf2 0 _ _ _ rfl;have u1:=hf2 1 _ _ _ rfl;have u2:=hf2 2 _ _ _ rfl
       simp only at hx2
       have anr:Rows.uptoBulk D''=Rows.uptoBulk v0.1+(Rows.uptoBulk v1.1+(Rows.uptoBulk v2.1+0))+1:=by
        rw [hx2];simp only [fu,qL,Rows.uptoBulk,Rows.uptoBulkAll]
       obtain ⟨j0,t0,z0,-⟩:=DataW.trod_int underlying3 u0;obtain ⟨hd3,p3,d3',l3,t1,rh3,sh3⟩:=MS u1;obtain ⟨Pp,fv3,t2,rf3,sf3⟩:=uz (dat:=au.dat) (sz:=11) (by omega) underlying22 Oh u2 (fun n cs3 D3 Pl3 hh3 hlt3=>ih n cs3 D3 Pl3 hh3 (by omega))
       simp at t0 t1 t2
       obtain ⟨rfl,rfl,rfl,rfl,rfl⟩:=t1;subst t0 t2;have hz:=Aj (bF.mk j0 hd3 Pp)
       simp only [bF.head,bF.flow] at hz
       have bz:Rows.uptoBulk v0.1=1:=by rw [z0];rfl
       exact ⟨bF.mk j0 hd3 Pp,aY.Q9 (x:=bF.mk j0 hd3 Pp) rh3 rf3,by simp only [bg] at hz;omega⟩)
     simp at q0 q1
     obtain ⟨rfl,rfl,rfl,rfl,rfl⟩:=q0;subst q1;have hz:=Al (bD.mk hd2 cl)
     simp only [bD.head,bD.cells] at hz
     exact ⟨bD.mk hd2 cl,aY.Rh (x:=bD.mk hd2 cl) rh2 rc,by simp only [jI] at hz;omega⟩)
   simp at e0 e1 e2 e3 e4 e5 e6
   obtain ⟨rfl,rfl,rfl,rfl,rfl⟩:=e4;subst e0 e1 e2 e3 e5 e6;have hz:=oF (au.mk k0 k1 k2 s hd fl rs)
   simp only [au.text,au.head,au.flow,au.rows] at hz
   have b0:Rows.uptoBulk y0.1=1:=by rw [d0];rfl
   have b1:Rows.uptoBulk y1.1=1:=by rw [d1];rfl
   have b2:Rows.uptoBulk y2.1=1:=by rw [d2];rfl
   have b3:Rows.uptoBulk y3.1=s.size+1:=by rw [d3];show s.data.toList.length+1=s.data.size+1;rw [sD]
   exact ⟨au.mk k0 k1 k2 s hd fl rs,aY.mkItem (x:=au.mk k0 k1 k2 s hd fl rs) rh rf rr,by simp only [bg,iD] at hz;omega⟩
theorem akP {n:Nat} {cs:List aj} {x:DataW H × List MemPlace} (h:DataW.trod enc prog W base spare held n 22 cs=some x):∃ (l:List au) (v:aj),cs=[v]∧ay (pK W) (.sl 11 (l.map au.dat)) v∧bg l+8≤8*Rows.uptoBulk x.1 :=
 uz (dat:=au.dat) (sz:=11) (by omega) underlying22 Oh h (fun n cs' D' dD hh _=>Zt _ n cs' D' dD hh (Nat.lt_succ_self _))
end
end
section
open Go.ChangeShapes Go.RowKit Go.Deep
theorem EP {ρ:Type} {dat:ρ→List Dat}:∀ {l:List ρ} {x:ρ},x∈l→dx (dat x)+1≤eZ (l.map dat)
 | y :: l,x,h=>by
  rw [fu,eZ]
  rcases kK.1 h with rfl|h
  ·omega
  have:=EP (dat:=dat) h;omega
section
variable {H:Type} {enc:TypeId × aj→H} {W:World} {base:Nat} {spare:Nat→Bool} {held:Bool}
theorem alZ:rD prog 181 6 [(3,0,1),(3,1,1),(9,2,1),(3,3,1),(3,4,1),(23,5,1)]:=⟨by kernel_rfl,by kernel_rfl,by kernel_rfl⟩
theorem acG:prog.cellsOf 181=6:=by kernel_rfl
theorem akV {n:Nat} {cs:List aj} {D:DataW H} {Pl:List MemPlace} (h:DataW.trod enc prog W base spare held n 181 cs=some (D,Pl)):∃ r:bU,aY (pK W) r.dat cs∧dx r.dat+1≤8*Rows.uptoBulk D:=by
 obtain ⟨xs,m,hx,hl,hxl,hf⟩:=sV alZ h
 match cs,hl,xs,hxl with
 | [c0,c1,c2,c3,c4,c5],_,[y0,y1,y2,y3,y4,y5],_ =>
  have h0:=hf 0 _ _ _ rfl;have h1:=hf 1 _ _ _ rfl;have h2:=hf 2 _ _ _ rfl;have h3:=hf 3 _ _ _ rfl;have h4:=hf 4 _ _ _ rfl;have h5:=hf 5 _ _ _ rfl
  simp only at hx
  have hD:Rows.uptoBulk D=Rows.uptoBulk y0.1+(Rows.uptoBulk y1.1+(Rows.uptoBulk y2.1+(Rows.uptoBulk y3.1+(Rows.uptoBulk y4.1+(Rows.uptoBulk y5.1+0)))))+1:=by rw [hx];simp only [fu,qL,Rows.uptoBulk,Rows.uptoBulkAll]
  obtain ⟨k0,e0,d0,-⟩:=DataW.trod_int underlying3 h0;obtain ⟨k1,e1,d1,-⟩:=DataW.trod_int underlying3 h1;obtain ⟨k2,e2,d2,-⟩:=DataW.trod_string underlying9 h2;obtain ⟨k3,e3,d3,-⟩:=DataW.trod_int underlying3 h3;obtain ⟨k4,e4,d4,-⟩:=DataW.trod_int underlying3 h4;obtain ⟨k5,q5,e5,r5,d5⟩:=uz (dat:=iL.dat) (sz:=2) (by omega) underlying23 U3 h5 (fun n cs' D Pl hh _=>Zu hh)
  simp at e0 e1 e2 e3 e4 e5
  subst e0 e1 e2 e3 e4 e5
  have b0:Rows.uptoBulk y0.1=1:=by rw [d0];rfl
  have b1:Rows.uptoBulk y1.1=1:=by rw [d1];rfl
  have b2:Rows.uptoBulk y2.1=k2.size+1:=by rw [d2];show k2.data.toList.length+1=k2.data.size+1;rw [sD]
  have b3:Rows.uptoBulk y3.1=1:=by rw [d3];rfl
  have b4:Rows.uptoBulk y4.1=1:=by rw [d4];rfl
  refine ⟨⟨k0,k1,k2,k3,k4,k5⟩,?_,?_⟩
  ·exact ⟨_,_,rfl,(by simp [ay,Value.oneCell']),⟨_,_,rfl,(by simp [ay,Value.oneCell']),⟨_,_,rfl,(by simp [ay,Value.oneCell']),⟨_,_,rfl,(by simp [ay,Value.oneCell']),⟨_,_,rfl,(by simp [ay,Value.oneCell']),⟨_,_,rfl,r5,rfl⟩⟩⟩⟩⟩⟩
  simp only [bU.dat,dx,qb];omega
theorem alT:rD prog 230 4 [(3,0,1),(3,1,1),(9,2,1),(3,3,1)]:=⟨by kernel_rfl,by kernel_rfl,by kernel_rfl⟩
theorem acD:prog.cellsOf 230=4:=by kernel_rfl
theorem akR {n:Nat} {cs:List aj} {D:DataW H} {Pl:List MemPlace} (h:DataW.trod enc prog W base spare held n 230 cs=some (D,Pl)):∃ r:oW,aY (pK W) r.dat cs∧dx r.dat+1≤8*Rows.uptoBulk D:=by
 obtain ⟨xs,m,hx,hl,hxl,hf⟩:=sV alT h
 match cs,hl,xs,hxl with
 | [c0,c1,c2,c3],_,[y0,y1,y2,y3],_ =>
  have h0:=hf 0 _ _ _ rfl;have h1:=hf 1 _ _ _ rfl;have h2:=hf 2 _ _ _ rfl;have h3:=hf 3 _ _ _ rfl
  simp only at hx
  have hD:Rows.uptoBulk D=Rows.uptoBulk y0.1+(Rows.uptoBulk y1.1+(Rows.uptoBulk y2.1+(Rows.uptoBulk y3.1+0)))+1:=by rw [hx];simp only [fu,qL,Rows.uptoBulk,Rows.uptoBulkAll]
  obtain ⟨k0,e0,d0,-⟩:=DataW.trod_int underlying3 h0;obtain ⟨k1,e1,d1,-⟩:=DataW.trod_int underlying3 h1;obtain ⟨k2,e2,d2,-⟩:=DataW.trod_string underlying9 h2;obtain ⟨k3,e3,d3,-⟩:=DataW.trod_int underlying3 h3
  simp at e0 e1 e2 e3
  subst e0 e1 e2 e3
  have b0:Rows.uptoBulk y0.1=1:=by rw [d0];rfl
  have b1:Rows.uptoBulk y1.1=1:=by rw [d1];rfl
  have b2:Rows.uptoBulk y2.1=k2.size+1:=by rw [d2];show k2.data.toList.length+1=k2.data.size+1;rw [sD]
  have b3:Rows.uptoBulk y3.1=1:=by rw [d3];rfl
  refine ⟨⟨k0,k1,k2,k3⟩,?_,?_⟩
  ·exact ⟨_,_,rfl,(by simp [ay,Value.oneCell']),⟨_,_,rfl,(by simp [ay,Value.oneCell']),⟨_,_,rfl,(by simp [ay,Value.oneCell']),⟨_,_,rfl,(by simp [ay,Value.oneCell']),rfl⟩⟩⟩⟩
  simp only [oW.dat,dx,qb];omega
theorem alS:rD prog 184 2 [(3,0,1),(182,1,1)]:=⟨by kernel_rfl,by kernel_rfl,by kernel_rfl⟩
theorem acC:prog.cellsOf 184=2:=by kernel_rfl
theorem akS {n:Nat} {cs:List aj} {D:DataW H} {Pl:List MemPlace} (h:DataW.trod enc prog W base spare held n 184 cs=some (D,Pl)):∃ r:gq,aY (pK W) r.dat cs∧dx r.dat+1≤8*Rows.uptoBulk D:=by
 obtain ⟨xs,m,hx,hl,hxl,hf⟩:=sV alS h
 match cs,hl,xs,hxl with
 | [c0,c1],_,[y0,y1],_ =>
  have h0:=hf 0 _ _ _ rfl;have h1:=hf 1 _ _ _ rfl
  simp only at hx
  have hD:Rows.uptoBulk D=Rows.uptoBulk y0.1+(Rows.uptoBulk y1.1+0)+1:=by rw [hx];simp only [fu,qL,Rows.uptoBulk,Rows.uptoBulkAll]
  obtain ⟨k0,e0,d0,-⟩:=DataW.trod_int underlying3 h0;obtain ⟨k1,q1,e1,r1,d1⟩:=uz (dat:=oW.dat) (sz:=4) (by omega) underlying182 acD h1 (fun n cs' D Pl hh _=>akR hh)
  simp at e0 e1
  subst e0 e1
  have b0:Rows.uptoBulk y0.1=1:=by rw [d0];rfl
  refine ⟨⟨k0,k1⟩,?_,?_⟩
  ·exact ⟨_,_,rfl,(by simp [ay,Value.oneCell']),⟨_,_,rfl,r1,rfl⟩⟩
  simp only [gq.dat,dx,qb];omega
theorem alN:rD prog 67 6 [(3,0,1),(3,1,1),(9,2,1),(3,3,1),(9,4,1),(4,5,1)]:=⟨by kernel_rfl,by kernel_rfl,by kernel_rfl⟩
theorem acz:prog.cellsOf 67=6:=by kernel_rfl
theorem akM {n:Nat} {cs:List aj} {D:DataW H} {Pl:List MemPlace} (h:DataW.trod enc prog W base spare held n 67 cs=some (D,Pl)):∃ r:iQ,aY (pK W) r.dat cs∧dx r.dat+1≤8*Rows.uptoBulk D:=by
 obtain ⟨xs,m,hx,hl,hxl,hf⟩:=sV alN h
 match cs,hl,xs,hxl with
 | [c0,c1,c2,c3,c4,c5],_,[y0,y1,y2,y3,y4,y5],_ =>
  have h0:=hf 0 _ _ _ rfl;have h1:=hf 1 _ _ _ rfl;have h2:=hf 2 _ _ _ rfl;have h3:=hf 3 _ _ _ rfl;have h4:=hf 4 _ _ _ rfl;have h5:=hf 5 _ _ _ rfl
  simp only at hx
  have hD:Rows.uptoBulk D=Rows.uptoBulk y0.1+(Rows.uptoBulk y1.1+(Rows.uptoBulk y2.1+(Rows.uptoBulk y3.1+(Rows.uptoBulk y4.1+(Rows.uptoBulk y5.1+0)))))+1:=by rw [hx];simp only [fu,qL,Rows.uptoBulk,Rows.uptoBulkAll]
  obtain ⟨k0,e0,d0,-⟩:=DataW.trod_int underlying3 h0;obtain ⟨k1,e1,d1,-⟩:=DataW.trod_int underlying3 h1;obtain ⟨k2,e2,d2,-⟩:=DataW.trod_string underlying9 h2;obtain ⟨k3,e3,d3,-⟩:=DataW.trod_int underlying3 h3;obtain ⟨k4,e4,d4,-⟩:=DataW.trod_string underlying9 h4;obtain ⟨k5,e5,d5⟩:=DataW.trod_bool underlying4 h5
  simp at e0 e1 e2 e3 e4 e5
  subst e0 e1 e2 e3 e4 e5
  have b0:Rows.uptoBulk y0.1=1:=by rw [d0];rfl
  have b1:Rows.uptoBulk y1.1=1:=by rw [d1];rfl
  have b2:Rows.uptoBulk y2.1=k2.size+1:=by rw [d2];show k2.data.toList.length+1=k2.data.size+1;rw [sD]
  have b3:Rows.uptoBulk y3.1=1:=by rw [d3];rfl
  have b4:Rows.uptoBulk y4.1=k4.size+1:=by rw [d4];show k4.data.toList.length+1=k4.data.size+1;rw [sD]
  have b5:Rows.uptoBulk y5.1=1:=by rw [d5];rfl
  refine ⟨⟨k0,k1,k2,k3,k4,k5⟩,?_,?_⟩
  ·exact ⟨_,_,rfl,(by simp [ay,Value.oneCell']),⟨_,_,rfl,(by simp [ay,Value.oneCell']),⟨_,_,rfl,(by simp [ay,Value.oneCell']),⟨_,_,rfl,(by simp [ay,Value.oneCell']),⟨_,_,rfl,(by simp [ay,Value.oneCell']),⟨_,_,rfl,(by simp [ay,Value.oneCell']),rfl⟩⟩⟩⟩⟩⟩
  simp only [iQ.dat,dx,qb];omega
theorem ama:rD prog 219 2 [(9,0,1),(9,1,1)]:=⟨by kernel_rfl,by kernel_rfl,by kernel_rfl⟩
theorem acH:prog.cellsOf 219=2:=by kernel_rfl
theorem akW {n:Nat} {cs:List aj} {D:DataW H} {Pl:List MemPlace} (h:DataW.trod enc prog W base spare held n 219 cs=some (D,Pl)):∃ r:mF,aY (pK W) r.dat cs∧dx r.dat+1≤8*Rows.uptoBulk D:=by
 obtain ⟨xs,m,hx,hl,hxl,hf⟩:=sV ama h
 match cs,hl,xs,hxl with
 | [c0,c1],_,[y0,y1],_ =>
  have h0:=hf 0 _ _ _ rfl;have h1:=hf 1 _ _ _ rfl
  simp only at hx
  have hD:Rows.uptoBulk D=Rows.uptoBulk y0.1+(Rows.uptoBulk y1.1+0)+1:=by rw [hx];simp only [fu,qL,Rows.uptoBulk,Rows.uptoBulkAll]
  obtain ⟨k0,e0,d0,-⟩:=DataW.trod_string underlying9 h0;obtain ⟨k1,e1,d1,-⟩:=DataW.trod_string underlying9 h1
  simp at e0 e1
  subst e0 e1
  have b0:Rows.uptoBulk y0.1=k0.size+1:=by rw [d0];show k0.data.toList.length+1=k0.data.size+1;rw [sD]
  have b1:Rows.uptoBulk y1.1=k1.size+1:=by rw [d1];show k1.data.toList.length+1=k1.data.size+1;rw [sD]
  refine ⟨⟨k0,k1⟩,?_,?_⟩
  ·exact ⟨_,_,rfl,(by simp [ay,Value.oneCell']),⟨_,_,rfl,(by simp [ay,Value.oneCell']),rfl⟩⟩
  simp only [mF.dat,dx,qb];omega
theorem alX:rD prog 176 3 [(3,0,1),(9,1,1),(3,2,1)]:=⟨by kernel_rfl,by kernel_rfl,by kernel_rfl⟩
theorem acF:prog.cellsOf 176=3:=by kernel_rfl
theorem akT {n:Nat} {cs:List aj} {D:DataW H} {Pl:List MemPlace} (h:DataW.trod enc prog W base spare held n 176 cs=some (D,Pl)):∃ r:fI,aY (pK W) r.dat cs∧dx r.dat+1≤8*Rows.uptoBulk D:=by
 obtain ⟨xs,m,hx,hl,hxl,hf⟩:=sV alX h
 match cs,hl,xs,hxl with
 | [c0,c1,c2],_,[y0,y1,y2],_ =>
  have h0:=hf 0 _ _ _ rfl;have h1:=hf 1 _ _ _ rfl;have h2:=hf 2 _ _ _ rfl
  simp only at hx
  have hD:Rows.uptoBulk D=Rows.uptoBulk y0.1+(Rows.uptoBulk y1.1+(Rows.uptoBulk y2.1+0))+1:=by rw [hx];simp only [fu,qL,Rows.uptoBulk,Rows.uptoBulkAll]
  obtain ⟨k0,e0,d0,-⟩:=DataW.trod_int underlying3 h0;obtain ⟨k1,e1,d1,-⟩:=DataW.trod_string underlying9 h1;obtain ⟨k2,e2,d2,-⟩:=DataW.trod_int underlying3 h2
  simp at e0 e1 e2
  subst e0 e1 e2
  have b0:Rows.uptoBulk y0.1=1:=by rw [d0];rfl
  have b1:Rows.uptoBulk y1.1=k1.size+1:=by rw [d1];show k1.data.toList.length+1=k1.data.size+1;rw [sD]
  have b2:Rows.uptoBulk y2.1=1:=by rw [d2];rfl
  refine ⟨⟨k0,k1,k2⟩,?_,?_⟩
  ·exact ⟨_,_,rfl,(by simp [ay,Value.oneCell']),⟨_,_,rfl,(by simp [ay,Value.oneCell']),⟨_,_,rfl,(by simp [ay,Value.oneCell']),rfl⟩⟩⟩
  simp only [fI.dat,dx,qb];omega
theorem alY:rD prog 36 4 [(31,0,1),(32,1,1),(33,2,1),(34,3,1)]:=⟨by kernel_rfl,by kernel_rfl,by kernel_rfl⟩
structure NQ (s:Ar) (n:Nat):Prop where
 st:eZ (s.styles.map bU.dat)≤n
 li:eZ (s.lists.map gq.dat)≤n
 cm:eZ (s.comments.map iQ.dat)≤n
 va:eZ (s.vars.map mF.dat)≤n
theorem NQ.zn {s:Ar} {n:Nat} (h:NQ s n) (hn:n≤4294967296):NR s∧s.styles.length≤4294967296:=by
 obtain ⟨h1,h2,h3,h4⟩:=h;have l1:=tu (s.styles.map bU.dat);have l2:=tu (s.lists.map gq.dat);have l3:=tu (s.comments.map iQ.dat);have l4:=tu (s.vars.map mF.dat);rw [bV] at l1 l2 l3 l4;refine ⟨⟨fun x hx=>?_,by omega,fun x hx y hy=>?_,by omega,fun x hx=>?_,by omega,fun x hx=>?_⟩,by omega⟩
 ·have:=EP (dat:=bU.dat) hx
  simp only [bU.dat,dx,qb] at this;omega
 ·have:=EP (dat:=gq.dat) hx
  simp only [gq.dat,dx,qb] at this
  have h5:=EP (dat:=oW.dat) hy
  simp only [oW.dat,dx,qb] at h5;omega
 ·have:=EP (dat:=iQ.dat) hx
  simp only [iQ.dat,dx,qb] at this;omega
 have:=EP (dat:=mF.dat) hx
 simp only [mF.dat,dx,qb] at this;omega
theorem akU {n:Nat} {cs:List aj} {x:DataW H × List MemPlace} (h:DataW.trod enc prog W base spare held n 36 cs=some x):∃ (s:Ar) (a b c d:aj),cs=[a,b,c,d]∧Fu (pK W) s a b c d∧NQ s (8*Rows.uptoBulk x.1):=by
 obtain ⟨xs,m,hx,hl,hxl,hf⟩:=sV alY h
 match cs,hl,xs,hxl with
 | [c0,c1,c2,c3],_,[y0,y1,y2,y3],_ =>
  have h0:=hf 0 _ _ _ rfl;have h1:=hf 1 _ _ _ rfl;have h2:=hf 2 _ _ _ rfl;have h3:=hf 3 _ _ _ rfl;obtain ⟨k0,q0,e0,r0,d0⟩:=uz (dat:=bU.dat) (sz:=6) (by omega) underlying31 acG h0 (fun n cs' D Pl hh _=>akV hh);obtain ⟨k1,q1,e1,r1,d1⟩:=uz (dat:=gq.dat) (sz:=2) (by omega) underlying32 acC h1 (fun n cs' D Pl hh _=>akS hh);obtain ⟨k2,q2,e2,r2,d2⟩:=uz (dat:=iQ.dat) (sz:=6) (by omega) underlying33 acz h2 (fun n cs' D Pl hh _=>akM hh);obtain ⟨k3,q3,e3,r3,d3⟩:=uz (dat:=mF.dat) (sz:=2) (by omega) underlying34 acH h3 (fun n cs' D Pl hh _=>akW hh)
  simp at e0 e1 e2 e3
  subst e0 e1 e2 e3
  have hD:Rows.uptoBulk x.1=Rows.uptoBulk y0.1+(Rows.uptoBulk y1.1+(Rows.uptoBulk y2.1+(Rows.uptoBulk y3.1+0)))+1:=by rw [hx];simp only [fu,qL,Rows.uptoBulk,Rows.uptoBulkAll]
  exact ⟨⟨k0,k1,k2,k3⟩,_,_,_,_,rfl,⟨r0,r1,r2,r3⟩,⟨by show eZ (k0.map _)≤_;omega,by show eZ (k1.map _)≤_;omega,by show eZ (k2.map _)≤_;omega,by show eZ (k3.map _)≤_;omega⟩⟩
theorem ZY:rD prog 38 11 [(22,0,1),(29,1,5),(30,6,1),(36,7,4)]:=⟨by kernel_rfl,by kernel_rfl,by kernel_rfl⟩
theorem BL {G:GH} {sz:Nat} {rs:List (List Dat)} {v:aj} (h:ay G (.sl sz rs) v):∃ x,v=fD x:=by
 obtain ⟨a,n,c,rfl⟩:=h.form;exact ⟨(a,n,c),rfl⟩
theorem akO {n:Nat} {cs:List aj} {x:DataW H × List MemPlace} (h:DataW.trod enc prog W base spare held n 38 cs=some x) (hb:Rows.uptoBulk x.1≤1048576):∃ (D:nA) (d:xO),cs=D.cells∧Dq (pK W) D d∧Ke d:=by
 obtain ⟨xs,m,hx,hl,hxl,hf⟩:=sV ZY h
 match cs,hl,xs,hxl with
 | [c0,c1,c2,c3,c4,c5,c6,c7,c8,c9,c10],_,[y0,y1,y2,y3],_ =>
  have h0:=hf 0 _ _ _ rfl;have h1:=hf 1 _ _ _ rfl;have h2:=hf 2 _ _ _ rfl;have h3:=hf 3 _ _ _ rfl;obtain ⟨l,q0,e0,r0,d0⟩:=akP h0;obtain ⟨hd,p,dd,ll,e1,r1,d1⟩:=MS h1;obtain ⟨rv,q2,e2,r2,d2⟩:=uz (dat:=fI.dat) (sz:=3) (by omega) underlying30 acF h2 (fun n cs' D Pl hh _=>akT hh);obtain ⟨s,a,b,c,d,e3,r3,d3⟩:=akU h3
  simp at e0 e1 e2 e3
  obtain ⟨rfl,rfl,rfl,rfl,rfl⟩:=e1;obtain ⟨rfl,rfl,rfl,rfl⟩:=e3;subst e0 e2
  have hD:Rows.uptoBulk x.1=Rows.uptoBulk y0.1+(Rows.uptoBulk y1.1+(Rows.uptoBulk y2.1+(Rows.uptoBulk y3.1+0)))+1:=by rw [hx];simp only [fu,qL,Rows.uptoBulk,Rows.uptoBulkAll]
  obtain ⟨x0,rfl⟩:=BL r0;obtain ⟨x1,rfl⟩:=BL r1.props;obtain ⟨x2,rfl⟩:=BL r1.dw;obtain ⟨x3,rfl⟩:=BL r1.layers;obtain ⟨x4,rfl⟩:=BL r2;obtain ⟨x5,rfl⟩:=BL r3.st;obtain ⟨x6,rfl⟩:=BL r3.li;obtain ⟨x7,rfl⟩:=BL r3.cm;obtain ⟨x8,rfl⟩:=BL r3.va;obtain ⟨hz1,hz2⟩:=d3.zn (by omega);have l2:=tu (rv.map fI.dat);rw [bV] at l2;refine ⟨⟨x0,x1,x2,x3,x4,x5,x6,x7,x8,hd.marks.ins,hd.marks.move⟩,⟨l,hd,rv,s⟩,rfl,⟨r0,r1,rfl,rfl,r2,r3⟩,⟨by show bg l≤_;omega,by show qG hd≤_;omega,by show rv.length≤_;omega,fun x hx=>?_,hz2,hz1⟩⟩;have:=EP (dat:=fI.dat) hx
  simp only [fI.dat,dx,qb] at this
  omega
end
end
end Go.Proofs.YteopmoocmoigcaaGreat
