/-
  What the claim stands on, part 4: Hea Frm Itc Vis Okd Ubf Av16 Mz Vn15 Sp16 Avi16 Gco Lst16 Rmv16 En Spn16 Ml16 Dn Ms16 Fd16 Frs Add16.
-/
import Derived.Test.YtdgnnpjijhafaaaGreatWbc
namespace Go.Proofs.YtdgnnpjijhafaaaGreat
set_option linter.all false
open Go.Proofs.Tryz
open Go.RowKit
section
theorem OC:Ty prog 96 1 8 [.pointer none] false:=⟨V,V⟩
theorem axn:aW 125:=aX func125 M
theorem Oz:Ty prog 27 4 64 [.int .i64 0,.int .i64 0,.slice none 0 0,.slice none 0 0] true:=⟨V,V⟩
theorem MQ:dG prog 188 0 0:=⟨V⟩
theorem akN:dG prog 188 1 1:=⟨V⟩
theorem axl:aW 124:=aX func124 M
variable{us:List Int}
theorem aEv{G:GH}{st:List dh}{li:List fV}{rv:List dJ}{b ms ml mr mb mu:Nat}{n:Int}(hck:yE us G st li rv ms ml mr mu)(hb:G b=some (iV b ms ml mr mb mu n).2)
  {x3 x4 x11:Nat}{e:Int}{l:List ku}{v:aj}(h3:aJ G x3 0=some (aK b 0))(h4:aJ G x4 0=some (vi e))(h11:aJ G x11 3=some v)(hv:av G (.sl 4<|l.map ku.dat) v) :
  wz (.func (.func 124) #[] #[aK x3 0,aK x4 0,aK x11 0]) G l.length (Db (bS us st li rv) e l):=by
 intro k hk G1 w0 hm hG;refine kJ (caps:=[aK x3 0,aK x4 0,aK x11 0]) axl ?_;replace h3:=aH hm h3;replace h4:=aH hm h4;replace h11:=aH hm h11;replace hv:=hv.mono hm;obtain⟨vA,vn,vc,rfl⟩:=hv.form;refine eN [(0,_),(1,_),(2,_),(3,_)] func124 M ntmps124 M M hG (SR fun _ K1=>ak K1 M (SR fun _ K2=>Rg OC M (by assumption) (Rg aF M (by assumption) (Rf Hz M (Rg IV M (by assumption)<|Rm M fun a H=>s_call axn H wn M (aEw _ _ H.ro st li rv b ms ml mr mb mu n (hck.mono hm) (hm _ _ hb) e l _ hv k hk) M ?_)))));rintro v11 DN a w rfl QM H;exact kH H<|ak K2 M<|LR results124 M fun H=>H.rt M
def zu(C:bG)(l:List jy):Int:=fD (l.map fun p=>BL C.st C.oq p.key p.value)
def ou(C:bG)(m:zG):Int:=if m.ins≠0∧m.ins∉C.mP then 22 else if¬(0<=m.move∧m.move<=1073741824)∨(m.move≠0∧m.ins=0)then 21 else if 16<(m.dQ.length:Int)then 9 else 0
def Bg(C:bG)(k:Nat)(x:kS)(pr:Int):Int:=if x.rev∉C.mP then 22 else if 0<k∧x.rev<=pr then 6 else if¬(0<=x.move∧x.move<=1073741824)then 21 else 0
def xM(C:bG)(l:List kS)(k:Nat):Int:=match l[k]? with|some x=>Bg C k x ((l[k-1]?.map kS.rev).getD 0)|none=>0
def iX(C:bG)(e:Int)(h:fI):Int:=fD [sU e h.props,zu C h.props,ou C h.marks,kW (xM C h.marks.dQ) h.marks.dQ.length,dX (decide (64<(h.marks.layers.length:Int))) 9,kW (Db C e h.marks.layers) h.marks.layers.length]
theorem aCa{C:bG}{e:Int}{h:fI}(h1:sU e h.props≠0):iX C e h=sU e h.props:=by simp[iX,fD,h1]
theorem aCb{C:bG}{e:Int}{h:fI}(h1:sU e h.props=0)(h2:zu C h.props≠0):iX C e h=zu C h.props:=by simp[iX,fD,h1,h2]
theorem QD{C:bG}{e:Int}{h:fI}(h1:sU e h.props=0)(h2:zu C h.props=0)(h3:ou C h.marks≠0):iX C e h=ou C h.marks:=by simp[iX,fD,h1,h2,h3]
theorem aCc{C:bG}{e:Int}{h:fI}(h1:sU e h.props=0)(h2:zu C h.props=0)(h3:ou C h.marks=0)(h4:kW (xM C h.marks.dQ) h.marks.dQ.length≠0):iX C e h=kW (xM C h.marks.dQ) h.marks.dQ.length:=by simp[iX,fD,h1,h2,h3,h4]
theorem aCd{C:bG}{e:Int}{h:fI}(h1:sU e h.props=0)(h2:zu C h.props=0)(h3:ou C h.marks=0)(h4:kW (xM C h.marks.dQ) h.marks.dQ.length=0)(h5:64<(h.marks.layers.length:Int)):iX C e h=9:=by simp[iX,fD,h1,h2,h3,h4,dX,h5]
theorem aCe{C:bG}{e:Int}{h:fI}(h1:sU e h.props=0)(h2:zu C h.props=0)(h3:ou C h.marks=0)(h4:kW (xM C h.marks.dQ) h.marks.dQ.length=0)(h5:¬64<(h.marks.layers.length:Int)):iX C e h=kW (Db C e h.marks.layers) h.marks.layers.length:=by simp[iX,fD,h1,h2,h3,h4,dX,h5];exact Eq.symm
theorem apJ{C:bG}{l:List jy}{k:Nat}(h:k<l.length):fD ((l.map fun p=>BL C.st C.oq p.key p.value).drop k)=if BL C.st C.oq l[k].key l[k].value≠0 then BL C.st C.oq l[k].key l[k].value else fD ((l.map fun p=>BL C.st C.oq p.key p.value).drop<|k+1):=by
 rw[UR (by simpa using h)];simp
theorem auD {p:Prop} (h:p:=by
 exact fin H iJ (by show _=_;first|rfl|exact iN decide_not.symm)):p:=h
theorem TF {p:Prop} (h:p:=by
 exact kP H (SC (bZ K1 M (LR results49 M fun H=>H.rt (by rw [hE]))))):p:=h
theorem agk {p:Prop} (h:p:=by
 exact kP H (SC (bZ K2 M (LR results49 M fun H=>H.rt (by rw [hE]))))):p:=h
theorem Y1 {p:Prop} (h:p:=by
 exact kP H (SC (bZ K4 M (LR results49 M fun H=>H.rt (by rw [hE]))))):p:=h
theorem agl {p:Prop} (h:p:=by
 exact ⟨O,by rw [Pb hk2,au (by rw [hde];simpa using amk)] at heq;exact heq,hGk⟩):p:=h
theorem aiv {p:Prop} (h:p:=by
 intro h63 a H
 try have p63:=dT h63
 refine kH H (YF Bl h63 M (YR aF h63 M (by assumption) ?_));clear H;intro a H;refine kH H (YC h63 M (PT jv h63 M (Pf jv M (bZ K1 M (Cd M ?_ ?_)))))<;>clear H K1
 ·intro lT a H
  try have p54:=dT lT
  refine bU (fun _ K1=>?_)
  have e3:ou (bS us st li rv) h.marks=21:=by unfold ou;rw[au hno,ay (by first|(simp_all;done)|(simp_all;omega))]
  have hE:=(QD (C:=bS us st li rv) (e:=e) (h:=h) e1 e2 (by rw[e3];decide)).trans e3;exact TF
 intro lT a H
 try have p54:=dF lT
 refine bU (fun _ K1=>?_)
 have hn2:¬(¬(0<=h.marks.move∧h.marks.move<=1073741824)∨(h.marks.move≠0∧h.marks.ins=0)):=by first|(simp_all;done)|(simp_all;omega)
 refine kP H (SC (Rf Bn M (Rg BR M (by assumption) ?_)));clear H;intro a H;refine kH H (Rl uM M (Rc M (bZ K1 M (Cd M ?_ ?_))))<;>clear H K1
 ·intro nN a H
  refine bU (fun _ K1=>?_)
  have e3:ou (bS us st li rv) h.marks=9:=by unfold ou;rw[au hno,au hn2,ay (by simpa using nN)]
  have hE:=(QD (C:=bS us st li rv) (e:=e) (h:=h) e1 e2 (by rw[e3];decide)).trans e3;exact TF
 intro nN a H
 have e3:ou (bS us st li rv) h.marks=0:=by unfold ou;rw[au hno,au hn2,au (by simpa using nN)]
 refine fU ?_;refine ⟨_,by exact H.sub ⟨M,M,M,aC⟩,?_⟩;exact ⟨e3,pI⟩):p:=h
theorem ahL {p:Prop} (h:p:=by
 intro nN a H
 refine bU (fun _ K1=>?_)
 have e3:ou (bS us st li rv) h.marks=9:=by unfold ou;rw[au hno,au hn2,ay (by simpa using nN)]
 have hE:=(QD (C:=bS us st li rv) (e:=e) (h:=h) e1 e2 (by rw [e3];decide)).trans e3;exact TF):p:=h
theorem ahT {p:Prop} (h:p:=by
 intro jv a H
 try have p59:=dT jv
 refine kH H (aU jv M (aU jv M (Ku M (Ku M (Ku M (Ks jv M (Pt jv M (bZ K1 M (Ct M M (SQ fun _ K2=>?_))))))))));clear H K1;intro a H
 have e3:ou (bS us st li rv) h.marks=21:=by unfold ou;rw[au hno,ay (by first|(simp_all;done)|(simp_all;omega))]
 have hE:=(QD (C:=bS us st li rv) (e:=e) (h:=h) e1 e2 (by rw [e3];decide)).trans e3;exact agk):p:=h
theorem aib {p:Prop} (h:p:=by
 refine xC 7 48 9 50 3 44 M M fun _ a w G1 hG HT H fin=>?_;refine KY (zv:=.bool false) AL oU V H (wg H M M (aG c0)) M M (H.ro _ _ (hG _ _ hck.rev)) M ?_;clear H;intro a H;rw [KM] at H;exact Jv):p:=h
theorem ais {p:Prop} (h:p:=by
 intro H8 a H
 try have aps:=dT H8
 refine bU (fun _ K4=>?_);have hE:=hX 21 (by unfold Bg;rw [au Vw,au hz,ay (by have h0:=H8;simp at h0;omega)]) Z;exact Y1):p:=h
theorem agQ {p:Prop} (h:p:=by
 refine fu 10 51 3 44 M M fun _ a w G1 hG HT H fin=>?_;refine kH H (YN (aG c0) M ?_);clear H;intro a H;exact auD):p:=h
theorem Zf {p:Prop} (h:p:=by
 refine EH _ H (wg H M M (aG c3)) M M M O O M ?_;exact T9):p:=h
theorem aCf(G:GH)(w0:World)(hG:Hold G w0)(st:List dh)(li:List fV)(rv:List dJ)(b ms ml mr mb mu:Nat)(n:Int)(hck:yE us G st li rv ms ml mr mu)(hb:G b=some (iV b ms ml mr mb mu n).2)
  (e:Int)(h:fI)(p d l:aj)(hh:kr G h p d l)(hz:oF h<=4294967296) :
  Calls prog 49 #[aK b 0,vi e,wN h p d l] w0 (bD w0 G fun u G'=>u=vi (iX (bS us st li rv) e h)):=by
 obtain⟨pA,pc,rfl,-,-,-⟩:=hh.props.slice;obtain⟨dA,dc,rfl,-,-,-⟩:=hh.dQ.slice;obtain⟨lA,lc,rfl,-,-,-⟩:=hh.layers.slice;have hml:maxLen=9223372036854775807:=rfl;have hzz:=Sy h;have hz1:=vB<|h.props.map jy.dat;have hz2:=vB<|h.marks.dQ.map kS.dat;have hz3:=vB<|h.marks.layers.map ku.dat
 simp only[bM]at hh hz1 hz2 hz3|-
 generalize oF h=zz at hz hzz
 refine eN [(0,_),(1,_),(2,_)] func49 M ntmps49 M M hG ?_;intro a H;refine dw<|fun _ K1=>?_;refine eD (cs:=[_]) H wn M M M ?_;clear H;intro b3 a w hb3 H;refine eD (cs:=[_]) H wn M M M ?_;clear H;intro b4 a w hb4 H;refine eD (cs:=[_,_,_,_,_]) H wn M M M ?_;clear H;intro b5 a w hb5 H;refine kH H<|ak K1 M<|SQ fun _ K2=>SQ fun _ K3=>?_;clear H K1;intro a H;obtain⟨Ga5,Vz,rE,H⟩:=H.eX;obtain⟨Ga4,Np,Ai,H⟩:=H.eX;obtain⟨Ga,Ih,uq,H⟩:=H.eX;replace rE:=Ih _ _<|Np _ _ rE;replace Ai:=Ih _ _ Ai;have hma:∀b o,G b=some o->Ga b=some o:=fun b o h=>Ih _ _<|Np _ _<|Vz _ _ h;clear Ih Np Vz;replace hck:=hck.mono hma;replace hb:=hma _ _ hb;replace hh:=hh.mono hma
 have g3:aJ Ga b3 0=some (aK b 0):=by unfold aJ;rw[uq];rfl
 have g4:aJ Ga b4 0=some (vi e):=by unfold aJ;rw[Ai];rfl
 have g50:aJ Ga b5 0=some (.slice pA h.props.length pc):=by unfold aJ;rw[rE];rfl
 have g51:∀(j:Nat)(u:aj),[vi h.marks.ins,vi h.marks.move,.slice dA h.marks.dQ.length dc,.slice lA h.marks.layers.length lc][j]?=some u->aJ Ga b5 (1+j)=some u:=by
  intro j u hj
  unfold aJ;rw[rE]
  match j,hj with
  |0,hj=>exact hj
  |1,hj=>exact hj
  |2,hj=>exact hj
  |3,hj=>exact hj
  |n+4,hj=>simp at hj
 have hc2:aJ Ga b 2=some (.map<|some mr):=by unfold aJ;rw[hb];rfl
 refine kP H (SC<|Rg aF M (by assumption) ?_);clear H;intro a H;refine kH H (Rf JO M<|Rg Dy M (by assumption) ?_);clear H;intro a H;refine s_call akr H wn M (afx<|apB _ _ H.ro e h.props _ hh.props) M ?_;clear H;rintro v17 _ a w ⟨⟨_,rfl⟩,rfl⟩-H;refine kH H (bZ K3 M<|SR fun _ K1=>Rm M<|Rc M<|Kz K1<|Cd M ?_ ?_)<;>clear H K3 K1
 ·intro h19 a H
  try have vQ:=dT h19
  refine bU<|fun _ K1=>?_;have hE:=aCa (C:=bS us st li rv) (e:=e) (h:=h) vQ;exact kP H (SC<|Rm M<|bZ K1 M<|LR results49 M fun H=>H.rt (by rw[hE]))
 intro h19 a H
 try have vQ:=dF h19
 have e1:sU e h.props=0:=by simpa using vQ
 refine kP H (Kc K2<|SQ fun _ K1=>SR fun _ K3=>Rf JO M<|Rg Dy M (by assumption) ?_);clear H K2;intro a H;refine kH H<|Rl tT M<|Rm M<|Kz K3<|SB ?_;clear H K3;intro a H;skip;refine dY (ι:=Nat) (Tc:=[(3,_),(4,_),(5,_),(22,_),(23,_)]) (Lc:=[]) (fun gh=>[(24,vi gh)]) (fun gh=>[]) (fun gh=>Ga) (fun gh=>gh<=h.props.length∧fD ((h.props.map fun p=>BL st (li.map fV.id) p.key p.value).drop gh)=zu (bS us st li rv) h.props) (fun gh=>h.props.length-gh) (0) (by exact H.sub ⟨M,M,M,M,M,M,aC⟩) ?_ ?_
 ·exact Mk
 clear H;intro k a w hI H;obtain⟨hk,heq⟩:=hI;dsimp only[lca,bq]at H;refine kP H (SR fun _ K2=>Rc M<|Kz K2<|SQ fun _ K3=>Cd M ?_ ?_)<;>clear H K2
 ·intro oK a H
  try have p25:=dT oK
  have hk2:k<h.props.length:=by omega
  obtain⟨xb,xo,rfl,hrow⟩:=WH hh.props hk2;refine kP H<|Kc K3<|SQ fun _ K2=>SB<|SR fun _ K4=>Ri tT qR M M ?_;clear H K3;intro a H;refine aY qR (cs:=[_,_]) H wn M M (fun j v hj=>H.hp.aJ<|hrow j v hj) M ?_;clear H;intro a H;refine dK qR H wn M ?_;clear H;intro b9 a w yY H;refine bH qR 0 (vs:=[_,_]) H wn M ?_;clear H;intro w H;refine K4 _ _ ?_;clear K4;refine kP H (SR fun _ K3=>Rg OC M (by assumption) ?_);clear H;intro a H;refine kH H<|aV zZ aF 0 M M<|aV akM aF 0 M M ?_;clear H;intro a H;refine s_call ajM H wn M (aiV _ _ H.ro st li rv b ms ml mr mb mu n h.props[k].key h.props[k].value hck hb) M ?_;clear H;rintro v33 _ a w ⟨rfl,rfl⟩-H;refine kH H (ak K3 M<|SR fun _ K4=>Rm M<|Rc M<|Kz K4<|Cd M ?_ ?_)<;>clear H K3 K4
  ·intro jr a H
   try have p35:=dT jr
   refine bU<|fun _ K3=>?_
   have hr:zu (bS us st li rv) h.props=BL st (li.map fV.id) h.props[k].key h.props[k].value:=by rw[<-heq];exact(apJ (C:=bS us st li rv) hk2).trans<|ay p35
   have hE:=(aCb (C:=bS us st li rv) (e:=e) (h:=h) e1 (by rw[hr];exact p35)).trans hr;exact kP H (SC<|Rm M<|bZ K3 M<|LR results49 M fun H=>H.rt (by rw[hE]))
  intro jr a H
  try have p35:=dF jr
  refine kP H<|Kc K2<|SC<|Rd M<|Rm M ?_;clear H K2;intro a H;refine aI ?_;refine dO ((k+1)) (by exact(H.dR (Pl:=[_]) (dH:=[]) [] Z M).sub ⟨M,M,M,M,M,M,aC⟩) ?_
  exact⟨O,by rw[apJ (C:=bS us st li rv) hk2,au (by simpa using p35)]at heq;exact heq⟩
 intro oK a H
 try have p25:=dF oK
 refine dS ?_;refine K1 _ _ ?_;clear K1;refine bU<|fun _ K1=>?_
 have e2:zu (bS us st li rv) h.props=0:=by rw[<-heq,mh (by rw[bM];omega)];rfl
 refine kP H<|SC<|Rf xP M ?_;clear H;intro a H;refine aY Oz (cs:=[vi h.marks.ins,vi h.marks.move,.slice dA h.marks.dQ.length dc,.slice lA h.marks.layers.length lc]) H wn M M (fun j v hj=>H.hp.aJ<|g51 j v hj) M ?_;clear H;intro a H;refine dK Oz H wn M ?_;clear H;intro b11 a w Qx H;refine bH Oz 0 (vs:=[_,_,_,_]) H wn M ?_;clear H;intro w H;obtain⟨Gb,hmb,Ng,H⟩:=H.eX;replace hck:=hck.mono hmb;replace hb:=hmb _ _ hb;replace hh:=hh.mono hmb;replace g3:=aH hmb g3;replace g4:=aH hmb g4;replace hc2:=aH hmb hc2
 have q0:aJ Gb b11 0=some (vi h.marks.ins):=by unfold aJ;rw[Ng];rfl
 have q1:aJ Gb b11 1=some (vi h.marks.move):=by unfold aJ;rw[Ng];rfl
 have q2:aJ Gb b11 2=some (.slice dA h.marks.dQ.length dc):=by unfold aJ;rw[Ng];rfl
 have q3:aJ Gb b11 3=some (.slice lA h.marks.layers.length lc):=by unfold aJ;rw[Ng];rfl
 have hcb:=aEv hck hb g3 g4 q3 hh.layers;refine aI ?_;refine K1 _ _ ?_;clear K1;refine rQ (ι:=GH) (Tc:=[(3,_),(4,_),(11,_)]) (Lc:=[]) (fun gh=>[]) (fun gh=>[]) (fun gh=>gh) (fun gh=>ou (bS us st li rv) h.marks=0∧(∀b o,Gb b=some o->gh b=some o)) (by exact H.sub ⟨M,M,M,aC⟩) ?_ ?_
 ·skip;refine xK ?_;refine bU<|fun _ K1=>?_
  by_cases c0:h.marks.ins≠0
  ·skip
   by_cases c1:h.marks.ins∉rv.map dJ.id
   ·skip;refine dI hmx [[],[0],[0,1],[0,1,2],ra 0 4,ra 0 5,ra 0 6,ra 0 7,ra 0 4,[0,1,2,3,8],ra 0 10,ra 0 11,ra 0 12,ra 0 13] [13] V [_,_,_,_,_,aK b 0,_,_,_,_,.bool (decide<|h.marks.ins∈rv.map dJ.id),.bool (decide<|h.marks.ins∉rv.map dJ.id),_] H (aD (Z0 M<|Rf Bl M) (X1 0 41 M fun hG=>Rg aF M<|aH hG q0) (Z1 1 42 M<|Rc M) (Z1 2 43 M<|Rm M)<|aD (X1 3 44 M fun hG=>YR OC (aG c0) M<|aH hG g3) ?_ (Z2 5 46 3 44 M<|YF Qi (aG c0) M) (X2 6 47 3 44 M fun hG=>YR vY (aG c0) M<|aH hG hc2)<|aD (Z1 3 44 M<|YF Bl (aG c0) M) (X2 8 49 3 44 M fun hG=>YR aF (aG c0) M<|aH hG q0) ?_ ?_<|bE (Z2 3 44 11 52 M<|Pt (aG c0) M)<|bE (bX M) dz) ?_
    ·refine fu 4 45 3 44 M M fun _ a w G1 hG HT H fin=>?_;exact TU
    ·exact aib
    ·exact agQ
    clear H;intro a w G pI H hv;have H:=H.aQ (hv 12 53 M M) M;clear hv;refine kH H<|Ra M ?_;clear H;intro a H;refine aI ⟨M,?_⟩;refine K1 _ _ ?_;clear K1;refine zR H M (aG c1) ?_;refine bU<|fun _ K1=>?_;have e3:ou (bS us st li rv) h.marks=22:=ay ⟨c0,c1⟩;have hE:=(QD (C:=bS us st li rv) (e:=e) (h:=h) e1 e2 (by rw[e3];decide)).trans e3;exact TF
   skip;refine dI hmx [[],[0],[0,1],[0,1,2],ra 0 4,ra 0 5,ra 0 6,ra 0 7,ra 0 4,[0,1,2,3,8],ra 0 10,ra 0 11,ra 0 12,ra 0 13] [13] V [_,_,_,_,_,aK b 0,_,_,_,_,.bool (decide<|h.marks.ins∈rv.map dJ.id),.bool (decide<|h.marks.ins∉rv.map dJ.id),_] H (aD (Z0 M<|Rf Bl M) (X1 0 41 M fun hG=>Rg aF M<|aH hG q0) (Z1 1 42 M<|Rc M) (Z1 2 43 M<|Rm M)<|aD (X1 3 44 M fun hG=>YR OC (aG c0) M<|aH hG g3) ?_ (Z2 5 46 3 44 M<|YF Qi (aG c0) M) (X2 6 47 3 44 M fun hG=>YR vY (aG c0) M<|aH hG hc2)<|aD (Z1 3 44 M<|YF Bl (aG c0) M) (X2 8 49 3 44 M fun hG=>YR aF (aG c0) M<|aH hG q0) ?_ ?_<|bE (Z2 3 44 11 52 M<|Pt (aG c0) M)<|bE (bX M) dz) ?_
   ·refine fu 4 45 3 44 M M fun _ a w G1 hG HT H fin=>?_;exact TU
   ·exact aib
   ·exact agQ
   clear H;intro a w G pI H hv;have H:=H.aQ (hv 12 53 M M) M;clear hv;refine kH H<|Ra M ?_;clear H;intro a H;refine aI ⟨M,?_⟩;refine K1 _ _ ?_;clear K1;refine oJ H M (aO c1) ?_;refine bU<|fun _ K1=>?_
   have hno:¬(h.marks.ins≠0∧h.marks.ins∉(bS us st li rv).mP):=by first|exact fun h=>c1 h.2|exact fun h=>c0 h.1
   replace q0:=aH pI q0;replace q1:=aH pI q1;replace q2:=aH pI q2;refine kP H (SC<|Rf Hy M<|Rg aF M (by assumption) ?_);clear H;intro a H;refine s_call zX H wn M (Aq _ _ H.ro h.marks.move 0 1073741824) M ?_;clear H;rintro v57 _ a w ⟨rfl,rfl⟩-H;refine kH H (Rn M<|Rm M<|Sp 59 M ?_ ?_)<;>clear H
   ·exact ahT
   intro jv a H
   try have p59:=dF jv
   refine kH H (YF Hy jv M<|YR aF jv M (by assumption) ?_);clear H;intro a H;refine kH H (YC jv M<|YM jv M<|Sp 63 M ?_ ?_)<;>clear H
   ·exact aiv
   intro h63 a H
   try have p63:=dF h63
   refine kH H<|bJ h63 M<|PF jv h63 M<|Pf jv M<|bZ K1 M<|Cf M M<|SQ fun _ K2=>?_;clear H K1;intro a H
   have hn2:¬(¬(0<=h.marks.move∧h.marks.move<=1073741824)∨(h.marks.move≠0∧h.marks.ins=0)):=by first|(simp_all;done)|(simp_all;omega)
   refine kP H (SC<|Rf Bn M<|Rg BR M (by assumption) ?_);clear H;intro a H;refine kH H (Rl uM M<|Rc M<|bZ K2 M<|Cd M ?_ ?_)<;>clear H K2
   ·exact ahL
   intro nN a H
   have e3:ou (bS us st li rv) h.marks=0:=by unfold ou;rw[au hno,au hn2,au (by simpa using nN)]
   refine fU ?_;refine⟨_,by exact H.sub ⟨M,M,M,aC⟩,?_⟩;exact⟨e3,pI⟩
  skip;refine dI hmx [[],[0],[0,1],[0,1,2],ra 0 4,ra 0 5,ra 0 6,ra 0 7,ra 0 4,[0,1,2,3,8],ra 0 10,ra 0 11,ra 0 12,ra 0 13] [13] V [_,_,_,_,undef,undef,undef,undef,undef,undef,undef,undef,_] H (aD (Z0 M<|Rf Bl M) (X1 0 41 M fun hG=>Rg aF M<|aH hG q0) (Z1 1 42 M<|Rc M) (Z1 2 43 M<|Rm M)<|aD (aL 3 (aO c0) M M) (aL 3 (aO c0) M M) (aL 3 (aO c0) M M) (aL 3 (aO c0) M M)<|aD (aL 3 (aO c0) M M) (aL 3 (aO c0) M M) (aL 3 (aO c0) M M) (aL 3 (aO c0) M M)<|bE (Z2 3 44 11 52 M<|Pf (aO c0) M)<|bE (bX M) dz) ?_
  clear H;intro a w G pI H hv;have H:=H.aQ (hv 12 53 M M) M;clear hv;refine kH H<|Ra M ?_;clear H;intro a H;refine aI ⟨M,?_⟩;refine K1 _ _ ?_;clear K1;refine oJ H M M ?_;refine bU<|fun _ K1=>?_
  have hno:¬(h.marks.ins≠0∧h.marks.ins∉(bS us st li rv).mP):=by first|exact fun h=>c1 h.2|exact fun h=>c0 h.1
  replace q0:=aH pI q0;replace q1:=aH pI q1;replace q2:=aH pI q2;refine kP H (SC<|Rf Hy M<|Rg aF M (by assumption) ?_);clear H;intro a H;refine s_call zX H wn M (Aq _ _ H.ro h.marks.move 0 1073741824) M ?_;clear H;rintro v57 _ a w ⟨rfl,rfl⟩-H;refine kH H (Rn M<|Rm M<|Sp 59 M ?_ ?_)<;>clear H
  ·exact ahT
  intro jv a H
  try have p59:=dF jv
  refine kH H (YF Hy jv M<|YR aF jv M (by assumption) ?_);clear H;intro a H;refine kH H (YC jv M<|YM jv M<|Sp 63 M ?_ ?_)<;>clear H
  ·exact aiv
  intro h63 a H
  try have p63:=dF h63
  refine kH H<|bJ h63 M<|PF jv h63 M<|Pf jv M<|bZ K1 M<|Cf M M<|SQ fun _ K2=>?_;clear H K1;intro a H
  have hn2:¬(¬(0<=h.marks.move∧h.marks.move<=1073741824)∨(h.marks.move≠0∧h.marks.ins=0)):=by first|(simp_all;done)|(simp_all;omega)
  refine kP H (SC<|Rf Bn M<|Rg BR M (by assumption) ?_);clear H;intro a H;refine kH H (Rl uM M<|Rc M<|bZ K2 M<|Cd M ?_ ?_)<;>clear H K2
  ·exact ahL
  intro nN a H
  have e3:ou (bS us st li rv) h.marks=0:=by unfold ou;rw[au hno,au hn2,au (by simpa using nN)]
  refine fU ?_;refine⟨_,by exact H.sub ⟨M,M,M,aC⟩,?_⟩;exact⟨e3,pI⟩
 clear H;intro g a w hI H;obtain⟨e3,Al⟩:=hI;replace hck:=hck.mono Al;replace hb:=Al _ _ hb;replace hh:=hh.mono Al;replace g3:=aH Al g3;replace q2:=aH Al q2;replace q3:=aH Al q3;replace hc2:=aH Al hc2;replace hcb:=hcb.mono Al;dsimp only[lca,bq]at H;refine kP H (SQ fun _ K1=>SR fun _ K2=>Rf Bn M<|Rg BR M (by assumption) ?_);clear H;intro a H;refine kH H<|Rl uM M<|Rm M<|Kz K2<|SB ?_;clear H K2;intro a H;skip;refine dY (ι:=Nat×GH) (Tc:=[(3,_),(4,_),(11,_),(75,_),(76,_)]) (Lc:=[]) (fun gh=>[(77,vi gh.1)]) (fun gh=>[]) (fun gh=>gh.2) (fun gh=>gh.1<=h.marks.dQ.length∧fD (((List.range h.marks.dQ.length).map<|xM (bS us st li rv) h.marks.dQ).drop gh.1)=kW (xM (bS us st li rv) h.marks.dQ) h.marks.dQ.length∧(∀b o,g b=some o->gh.2 b=some o)) (fun gh=>h.marks.dQ.length-gh.1) ((0,g)) (by exact H.sub ⟨M,M,M,M,M,M,aC⟩) ?_ ?_
 ·exact Fb
 clear H;rintro⟨k,g2⟩ a w hI H;dsimp only at hI H;obtain⟨hk,heq,hgm⟩:=hI;dsimp only[lca,bq]at H;refine kP H (SR fun _ K2=>Rc M<|Kz K2<|SQ fun _ K4=>Cd M ?_ ?_)<;>clear H K2
 ·intro rD a H
  try have p78:=dT rD
  have hk2:k<h.marks.dQ.length:=by omega
  have hd2:=hh.dQ.mono hgm;obtain⟨xb,xo,rfl,hrow⟩:=aai hd2 hk2
  have hk1:k-1<h.marks.dQ.length:=by omega
  obtain⟨b',o',he',hrow'⟩:=aai hd2 hk1
  injection he' with he'
  injection he' with e1 e2
  subst e1;subst e2
  have hde:xM (bS us st li rv) h.marks.dQ k=Bg (bS us st li rv) k h.marks.dQ[k] h.marks.dQ[k-1].rev:=by unfold xM;rw[gF hk2,gF hk1];rfl
  have hX:∀v,Bg (bS us st li rv) k h.marks.dQ[k] h.marks.dQ[k-1].rev=v->v≠0->iX (bS us st li rv) e h=v:=fun v h1 h2=>by
   have h4:kW (xM (bS us st li rv) h.marks.dQ) h.marks.dQ.length=v:=by rw[<-heq,Pb hk2,hde,h1,ay h2]
   exact(aCc e1 e2 e3 (by rw[h4];exact h2)).trans h4
  have hp:=hrow' 0 _ M;have g3':=aH hgm g3;have hc2':=aH hgm hc2;have q2':=aH hgm q2;refine kP H<|Kc K4<|SQ fun _ K2=>SB<|SR fun _ K5=>Rm M<|Ri uM vZ M M ?_;clear H K4;intro a H;refine aY vZ (cs:=h.marks.dQ[k].cells) H wn M M (fun j v hj=>H.hp.aJ<|hrow j v hj) M ?_;clear H;intro a H;refine dK vZ H wn M ?_;clear H;intro b13 a w Qy H;refine kH H<|Ra M ?_;clear H;intro a H;refine bH vZ 0 (vs:=[_,_]) H wn M ?_;clear H;intro w H;refine K5 _ _ ?_;clear K5;refine xK ?_;refine bU<|fun _ K4=>?_;refine dI hmx [[],[0],[0,1],[0,1,2],[],[4],ra 0 6,ra 0 7,ra 0 8] [8] V [_,_,_,_,_,vi h.marks.dQ[k].rev,.bool (decide<|h.marks.dQ[k].rev∈rv.map dJ.id),_] H (aD (X0 M fun hG=>Rg OC M<|aH hG g3') (Z1 0 83 M<|Rk M) (Z1 1 84 M<|Rf Qi M) (X1 2 85 M fun hG=>Rg vY M<|aH hG hc2')<|aD (Z0 M<|Rf MQ M) (Z1 4 87 M<|Ro aF 0 M) ?_ (Z1 6 89 M<|Rn M)<|bE (bX M) dz) ?_
  ·refine fu 3 86 5 88 M M fun _ a w G1 hG HT H fin=>?_;refine KY (zv:=.bool false) AL oU V H wn M M (H.ro _ _<|hG _ _<|hgm _ _ hck.rev) M ?_;clear H;intro a H;rw[KM]at H;exact Jv
  clear H;intro a w G M8 H hv;have H:=H.aQ (hv 7 90 M M) M;clear hv;refine kH H<|Ra M ?_;clear H;intro a H;refine aI ⟨M,?_⟩;refine K4 _ _ ?_;clear K4;refine jU H M ?_ ?_
  ·intro yV
   refine bU<|fun _ K4=>?_;have hE:=hX 22 (by unfold Bg;rw[ay (by simpa using yV)]) Z;exact Y1
  intro yV
  try have p82:=dF yV
  have Vw:¬(h.marks.dQ[k].rev∉(bS us st li rv).mP):=by simpa using yV
  refine bU<|fun _ K4=>?_;replace hp:=aH M8 hp;replace q2':=aH M8 q2'
  by_cases c3:0<(k:Int)
  ·skip
   by_cases c4:h.marks.dQ[k].rev<=h.marks.dQ[k-1].rev
   ·skip;refine dI hmx [[],[0],[0,1],[0,1,2],ra 0 4,[0,1,2],[0,1,2,5],[0,1,2],[0,1,2,7],[0,1,2,5,6,7,8],[0,1,2,5,6,7,8,9],([0,1,2]++ra 5 6),ra 0 12,ra 0 13,ra 0 14] [14] V [_,_,_,_,vi h.marks.dQ[k].rev,_,_,_,vi ((k-1:Nat):Int),_,_,_,_,_] H (aD (Z0 M<|Rm M) (Z1 0 92 M<|Rc M) (Z1 1 93 M<|Rm M) (Z1 2 94 M<|YF MQ (aG c3) M)<|aD (Z2 3 95 2 94 M<|YO aF 0 (aG c3) M) (Z1 2 94 M<|YF Bn (aG c3) M) (X2 5 97 2 94 M fun hG=>YR BR (aG c3) M<|aH hG q2') (Z1 2 94 M<|YM (aG c3) M)<|aD ?_ (Z3 6 98 8 100 2 94 M<|YI uM vZ (aG c3) M M) (Z2 9 101 2 94 M<|YF MQ (aG c3) M) (X2 10 102 2 94 M fun hG=>YR aF (aG c3) M<|aH hG hp)<|bE (Z3 4 96 11 103 2 94 M<|YC (aG c3) M)<|bE (Z2 2 94 12 104 M<|Pt (aG c3) M)<|bE (bX M) dz) ?_
    ·refine fu 7 99 2 94 M M fun _ a w G1 hG HT H fin=>?_;exact Zf
    clear H;intro a w G Vd H hv;have H:=H.aQ (hv 13 105 M M) M;clear hv;refine kH H<|Ra M ?_;clear H;intro a H;refine aI ⟨M,?_⟩;refine K4 _ _ ?_;clear K4;refine zR H M (aG c4) ?_;refine bU<|fun _ K4=>?_;have hz:0<k∧h.marks.dQ[k].rev<=h.marks.dQ[k-1].rev:=⟨O,c4⟩;have hE:=hX 6 (by unfold Bg;rw[au Vw,ay hz]) Z;exact Y1
   skip;refine dI hmx [[],[0],[0,1],[0,1,2],ra 0 4,[0,1,2],[0,1,2,5],[0,1,2],[0,1,2,7],[0,1,2,5,6,7,8],[0,1,2,5,6,7,8,9],([0,1,2]++ra 5 6),ra 0 12,ra 0 13,ra 0 14] [14] V [_,_,_,_,vi h.marks.dQ[k].rev,_,_,_,vi ((k-1:Nat):Int),_,_,_,_,_] H (aD (Z0 M<|Rm M) (Z1 0 92 M<|Rc M) (Z1 1 93 M<|Rm M) (Z1 2 94 M<|YF MQ (aG c3) M)<|aD (Z2 3 95 2 94 M<|YO aF 0 (aG c3) M) (Z1 2 94 M<|YF Bn (aG c3) M) (X2 5 97 2 94 M fun hG=>YR BR (aG c3) M<|aH hG q2') (Z1 2 94 M<|YM (aG c3) M)<|aD ?_ (Z3 6 98 8 100 2 94 M<|YI uM vZ (aG c3) M M) (Z2 9 101 2 94 M<|YF MQ (aG c3) M) (X2 10 102 2 94 M fun hG=>YR aF (aG c3) M<|aH hG hp)<|bE (Z3 4 96 11 103 2 94 M<|YC (aG c3) M)<|bE (Z2 2 94 12 104 M<|Pt (aG c3) M)<|bE (bX M) dz) ?_
   ·refine fu 7 99 2 94 M M fun _ a w G1 hG HT H fin=>?_;exact Zf
   clear H;intro a w G Vd H hv;have H:=H.aQ (hv 13 105 M M) M;clear hv;refine kH H<|Ra M ?_;clear H;intro a H;refine aI ⟨M,?_⟩;refine K4 _ _ ?_;clear K4;refine oJ H M (aO c4) ?_;refine bU<|fun _ K4=>?_
   have hz:¬(0<k∧h.marks.dQ[k].rev<=h.marks.dQ[k-1].rev):=by first|exact fun h=>c4 h.2|exact fun h=>c3 O
   refine kP H<|SC<|aV akN aF 0 M M ?_;clear H;intro a H;refine s_call zX H wn M (Aq _ _ H.ro h.marks.dQ[k].move 0 1073741824) M ?_;clear H;rintro v109 _ a w ⟨rfl,rfl⟩-H;refine kH H (Rn M<|bZ K4 M<|Cd M ?_ ?_)<;>clear H K4
   ·exact ais
   intro H8 a H
   try have aps:=dF H8
   have amk:Bg (bS us st li rv) k h.marks.dQ[k] h.marks.dQ[k-1].rev=0:=by unfold Bg;rw[au Vw,au hz,au (by have h0:=H8;simp at h0;omega)]
   have hGk:=fun b o h=>Vd b o<|M8 b o<|hgm b o h;refine kP H<|Kc K2<|SC<|Rd M<|Rm M ?_;clear H K2;intro a H;refine aI ?_;refine dO ((k+1,G)) (by exact(H.dR (Pl:=[_]) (dH:=[]) [] Z M).sub ⟨M,M,M,M,M,M,aC⟩) ?_
   (try dsimp only);exact agl
  skip;refine dI hmx [[],[0],[0,1],[0,1,2],ra 0 4,[0,1,2],[0,1,2,5],[0,1,2],[0,1,2,7],[0,1,2,5,6,7,8],[0,1,2,5,6,7,8,9],([0,1,2]++ra 5 6),ra 0 12,ra 0 13,ra 0 14] [14] V [_,_,_,undef,undef,undef,undef,undef,undef,undef,undef,undef,undef,_] H (aD (Z0 M<|Rm M) (Z1 0 92 M<|Rc M) (Z1 1 93 M<|Rm M) (aL 2 (aO c3) M M)<|aD (aL 2 (aO c3) M M) (aL 2 (aO c3) M M) (aL 2 (aO c3) M M) (aL 2 (aO c3) M M)<|aD (aL 2 (aO c3) M M) (aL 2 (aO c3) M M) (aL 2 (aO c3) M M) (aL 2 (aO c3) M M)<|bE (aL 2 (aO c3) M M)<|bE (Z2 2 94 12 104 M<|Pf (aO c3) M)<|bE (bX M) dz) ?_
  clear H;intro a w G Vd H hv;have H:=H.aQ (hv 13 105 M M) M;clear hv;refine kH H<|Ra M ?_;clear H;intro a H;refine aI ⟨M,?_⟩;refine K4 _ _ ?_;clear K4;refine oJ H M M ?_;refine bU<|fun _ K4=>?_
  have hz:¬(0<k∧h.marks.dQ[k].rev<=h.marks.dQ[k-1].rev):=by first|exact fun h=>c4 h.2|exact fun h=>c3 O
  refine kP H<|SC<|aV akN aF 0 M M ?_;clear H;intro a H;refine s_call zX H wn M (Aq _ _ H.ro h.marks.dQ[k].move 0 1073741824) M ?_;clear H;rintro v109 _ a w ⟨rfl,rfl⟩-H;refine kH H (Rn M<|bZ K4 M<|Cd M ?_ ?_)<;>clear H K4
  ·exact ais
  intro H8 a H
  try have aps:=dF H8
  have amk:Bg (bS us st li rv) k h.marks.dQ[k] h.marks.dQ[k-1].rev=0:=by unfold Bg;rw[au Vw,au hz,au (by have h0:=H8;simp at h0;omega)]
  have hGk:=fun b o h=>Vd b o<|M8 b o<|hgm b o h;refine kP H<|Kc K2<|SC<|Rd M<|Rm M ?_;clear H K2;intro a H;refine aI ?_;refine dO ((k+1,G)) (by exact(H.dR (Pl:=[_]) (dH:=[]) [] Z M).sub ⟨M,M,M,M,M,M,aC⟩) ?_
  (try dsimp only);exact agl
 intro rD a H
 try have p78:=dF rD
 refine dS ?_;refine K1 _ _ ?_;clear K1;refine bU<|fun _ K1=>?_;refine bU<|fun _ K2=>?_
 have e4:kW (xM (bS us st li rv) h.marks.dQ) h.marks.dQ.length=0:=by rw[<-heq,mh (by simp;omega)];rfl
 replace q3:=aH hgm q3;refine kP H (SC<|Rf Hz M<|Rg IV M (by assumption) ?_);clear H;intro a H;refine kH H (Rl wZ M<|Rc M<|Kn K2<|Cd M ?_ ?_)<;>clear H K2
 ·intro Ec a H
  try have Wy:=dT Ec
  refine bU<|fun _ K2=>?_;have hE:=aCd (C:=bS us st li rv) (e:=e) (h:=h) e1 e2 e3 e4 Wy;exact agk
 intro Ec a H
 try have Wy:=dF Ec
 refine fU ?_;refine K1 _ _ ?_;clear K1;refine bU<|fun _ K1=>?_;have hE:=aCe (C:=bS us st li rv) (e:=e) (h:=h) e1 e2 e3 e4 Wy;refine kP H (SC<|Rf Hz M<|Rg IV M (by assumption) ?_);clear H;intro a H;refine kH H<|Rl wZ M ?_;clear H;intro a H;refine wU H wn M M ?_;clear H;intro a H;refine s_call MJ H wn M (Pg _ _ H.ro h.marks.layers.length (Db (bS us st li rv) e h.marks.layers) _ O<|hcb.mono hgm) M ?_;clear H;rintro aIL asL a w rfl aJI H;exact kH H (bZ K1 M<|LR results49 M fun H=>H.rt (by rw[hE]))
end
def codeOk(x:ah):Bool:=if x.kind=4 then decide (1<=x.code∧x.code<=3)else if x.kind=6 then decide (1<=x.code∧x.code<=2)else if x.kind=8 then decide (1<=x.code∧x.code<=4)else true
def vw(x:ah):Bool:=decide (x.kind=8∧x.code=1)
def vC(x:ah):Bool:=decide (x.kind=1∨x.kind=5)||vw x
def tH(x:ah):Bool:=decide (x.kind=6∨x.kind=7∨x.kind=8)
def sV(x:ah):Bool:=decide (x.kind=4∨x.kind=6∨x.kind=8)
def rz(s:ByteArray):Bool:=s.toList==(⟨#[]⟩:ByteArray).toList
def um(x:ah):Bool:=!sV x&&decide (x.code≠0)||!tH x&&decide (x.id≠0)||!vC x&&!rz x.text||decide (x.kind≠6)&&decide (0<(x.flow.length:Int))||decide (x.kind≠7)&&decide (0<(x.rows.length:Int))
def iP(x:ah):Int :=
 if(!decide (1<=x.kind∧x.kind<=8)||!codeOk x)=true then 3 else if um x=true then 15 else if iI x.text=false then 12 else if(decide (x.kind=1∨x.kind=5)&&rz x.text)=true then 11
 else if(decide (x.kind=5)&&decide (1024<(x.text.size:Int)))=true then 10 else if(vw x&&!pq x.text)=true then 13 else 0
theorem zP {p:Prop} (h:p:=by
 first|(simp_all;done)):p:=h
theorem Ms {p:Prop} (h:p:=by
 exact kP H (SC (bZ K2 M (LR results195 M fun H=>H.rt ⟨by rw [e],M⟩)))):p:=h
theorem Jz {p:Prop} (h:p:=by
 clear hst hwd hnm hck hcd;(try clear hq1);(try clear hq2);(try clear hq3);(try clear hq0);(try clear hq4);(try clear Nw);(try clear Ny);(try clear Nz);simp_all):p:=h
theorem auM {p:Prop} (h:p:=by
 (try clear hq1);(try clear hq2);(try clear hq3);(try clear hq0);(try clear hq4);(try clear Nw);(try clear Ny);(try clear Nz);simp_all):p:=h
theorem ahI {p:Prop} (h:p:=by
 clear hst hwd hnm hck hcd;(try clear hq1);(try clear hq2);(try clear hq3);(try clear hq0);(try clear hq4);(try clear Nw);(try clear Ny);(try clear Nz);simp_all [rz]):p:=h
theorem ahN {p:Prop} (h:p:=by
 (try clear hq1);(try clear hq2);(try clear hq3);(try clear hq0);(try clear hq4);(try clear Nw);(try clear Ny);(try clear Nz);simp_all [rz]):p:=h
theorem ZF {p:Prop} (h:p:=by
 refine kH H (Ra M ?_);clear H;intro a H;refine aI ?_;refine⟨_,by exact H.sub ⟨M,M,M,M,M,aC⟩,?_⟩
 unfold codeOk;exact zP):p:=h
theorem Jy {p:Prop} (h:p:=by
 clear hst hwd hnm hck hcd;exact auM):p:=h
theorem ahv {p:Prop} (h:p:=by
 clear H;intro a H;refine alY (_) _ _ ?_ (by exact H.sub ⟨M,M,M,aC⟩);rw [<- hwd];clear hst hwd hnm hck hcd;exact ahN):p:=h
theorem ahw {p:Prop} (h:p:=by
 clear H;intro a H;refine amc (_) _ _ ?_ (by exact H.sub ⟨M,M,M,aC⟩);clear hst hwd hnm hck hcd;exact ahN):p:=h
theorem ahD {p:Prop} (h:p:=by
 clear H;intro a H;refine ama (_) _ _ ?_ (by exact H.sub ⟨M,M,M,aC⟩);rw [show um x=(q4 || decide (x.kind≠7) && decide (0 < (x.rows.length:Int))) by rw [hq4,hq3,hq2,hq1];rfl];clear hq4;exact Jy):p:=h
theorem ahF {p:Prop} (h:p:=by
 clear H;intro a H;refine amb (_) _ _ ?_ (by exact H.sub ⟨M,M,M,M,aC⟩);rw [<- hnm];exact Jy):p:=h
theorem ahG {p:Prop} (h:p:=by
 clear H;intro a H;refine alZ (_) _ _ ?_ (by exact H.sub ⟨M,M,M,aC⟩);exact Jy):p:=h
theorem aAv(G:GH)(w0:World)(hG:Hold G w0)(x:ah)(p d l:aj)(fA rA:Option Addr)(fc rc:Nat)(hs:x.text.size<4611686018427387904) :
  Calls prog 195 #[.agg #[vi x.kind,vi x.code,vi x.id,.string x.text,p,vi x.head.marks.ins,vi x.head.marks.move,d,l,.slice fA x.flow.length fc,.slice rA x.rows.length rc]] w0 (bD w0 G fun u G'=>u=vi (iP x)∧G=G'):=by
 refine eN [(0,_)] func195 M ntmps195 M M hG fun a H=>dw (fun _ K1=>eD (cs:=[_,_,_,_,_,_,_,_,_,_,_]) H wn M M M fun b1 a w hb1 H=>kH H (ak K1 M fun a H=>rQ (ι:=Bool) (Tc:=[(1,_)]) (Lc:=[(_,_)]) (fun gh=>[(3,.bool gh)]) (fun gh=>[]) (fun gh=>G) (fun gh=>gh=vw x) (by exact H.sub ⟨M,aC⟩) ?_ ?_))
 ·skip;refine kP H (SC<|aV iW aF 0 M M<|Rc M<|Rm M<|Sp 11 M ?_ ?_)<;>clear H
  ·intro h11 a H
   try have pR:=dT h11
   refine kH H (YF Fy h11 M<|YO aF 0 h11 M<|YC h11 M<|Pt h11 M<|Ra M fun a H=>aI ⟨_,by exact H.sub ⟨M,M,aC⟩,?_⟩)
   unfold vw;exact zP
  refine fun h11=>bJ h11 M (Pf h11 M<|Ra M fun a H=>aI ⟨_,by exact H.sub ⟨M,M,aC⟩,?_⟩)
  unfold vw;exact zP
 clear H;intro st a w hI H;have hst:=hI;dsimp only[lca,bq]at H;refine rQ (ι:=Bool) (Tc:=[(1,_),(3,_)]) (Lc:=[(_,_)]) (fun gh=>[(4,.bool gh)]) (fun gh=>[]) (fun gh=>G) (fun gh=>gh=vC x) (by exact H.sub ⟨M,M,aC⟩) ?_ ?_
 ·skip;refine kP H (SC<|aV iW aF 0 M M<|Rc M<|Rm M<|Sp 19 M ?_ ?_)<;>clear H
  ·intro h19 a H
   try have vQ:=dT h19
   refine kH H (bJ h19 M<|Pt h19 M<|Rm M<|Ks M M<|Pt M M<|Ra M fun a H=>aI ⟨_,by exact H.sub ⟨M,M,M,aC⟩,?_⟩)
   unfold vC;exact zP
  refine fun h19=>YF iW h19 M<|YO aF 0 h19 M<|YC h19 M<|Pf h19 M<|Rm M<|Sp 24 M ?_ ?_
  ·intro eY a H
   try have pW:=dT eY
   refine kH H (Ks eY M<|Pt eY M<|Ra M fun a H=>aI ⟨_,by exact H.sub ⟨M,M,M,aC⟩,?_⟩)
   unfold vC;exact zP
  refine fun eY=>YM eY M (Pf eY M<|Ra M fun a H=>aI ⟨_,by exact H.sub ⟨M,M,M,aC⟩,?_⟩)
  unfold vC;exact zP
 clear H;intro wd a w hI H;have hwd:=hI;dsimp only[lca,bq]at H;refine rQ (ι:=Bool) (Tc:=[(1,_),(3,_),(4,_)]) (Lc:=[(_,_)]) (fun gh=>[(5,.bool gh)]) (fun gh=>[]) (fun gh=>G) (fun gh=>gh=tH x) (by exact H.sub ⟨M,M,M,aC⟩) ?_ ?_
 ·skip;refine kP H (SC<|aV iW aF 0 M M<|Rc M<|Rm M<|Sp 30 M ?_ ?_)<;>clear H
  ·intro kK a H
   try have p30:=dT kK
   refine kH H (bJ kK M<|Pt kK M<|Rm M<|bJ M M<|Pt M M<|Ra M fun a H=>aI ⟨_,by exact H.sub ⟨M,M,M,M,aC⟩,?_⟩)
   unfold tH;exact zP
  refine fun kK=>YF iW kK M<|YO aF 0 kK M<|YC kK M<|Pf kK M<|Rm M<|Sp 35 M ?_ ?_
  ·intro jr a H
   try have p35:=dT jr
   refine kH H (bJ jr M<|Pt jr M<|Ra M fun a H=>aI ⟨_,by exact H.sub ⟨M,M,M,M,aC⟩,?_⟩)
   unfold tH;exact zP
  refine fun jr=>YF iW jr M (YO aF 0 jr M<|YC jr M<|Pf jr M<|Ra M fun a H=>aI ⟨_,by exact H.sub ⟨M,M,M,M,aC⟩,?_⟩)
  unfold tH;exact zP
 clear H;intro nm a w hI H;have hnm:=hI;dsimp only[lca,bq]at H;refine kP H (SR fun _ K1=>ak K1 M fun a H=>rQ (ι:=Bool) (Tc:=[(1,_),(3,_),(4,_),(5,_)]) (Lc:=[(_,_)]) (fun gh=>[(6,.bool gh)]) (fun gh=>[]) (fun gh=>G) (fun gh=>gh=codeOk x) (by exact H.sub ⟨M,M,M,M,aC⟩) ?_ ?_)
 ·skip;refine kP H (SR fun _ K1=>aV iW aF 0 M M<|Kz K1<|SB<|SR fun _ K2=>Rc M<|ak K2 M<|Cd M ?_ ?_)<;>clear H K1 K2
  ·intro jP a H
   try have p42:=dT jP
   refine kP H<|SC<|aV Fy aF 0 M M fun a H=>s_call zX H wn M (Aq _ _ H.ro x.code 1 3) M ?_;rintro v46 _ a w ⟨rfl,rfl⟩-H;exact ZF
  refine fun jP=>SR fun _ K1=>Rc M (ak K1 M<|Cd M ?_ ?_)<;>clear K1
  ·intro h47 a H
   try have p47:=dT h47
   refine kP H<|SC<|aV Fy aF 0 M M fun a H=>s_call zX H wn M (Aq _ _ H.ro x.code 1 2) M ?_;rintro v51 _ a w ⟨rfl,rfl⟩-H;exact ZF
  refine fun h47=>SR fun _ K1=>Rc M (ak K1 M<|Cd M ?_ ?_)<;>clear K1
  ·intro kE a H
   try have p52:=dT kE
   refine kP H<|SC<|aV Fy aF 0 M M fun a H=>s_call zX H wn M (Aq _ _ H.ro x.code 1 4) M ?_;rintro v56 _ a w ⟨rfl,rfl⟩-H;exact ZF
  intro kE a H;refine fU ⟨_,by exact H.sub ⟨M,M,M,M,M,aC⟩,?_⟩
  unfold codeOk;exact zP
 clear H;intro ck a w hI H;have hck:=hI;dsimp only[lca,bq]at H;refine rQ (ι:=Bool) (Tc:=[(1,_),(3,_),(4,_),(5,_),(6,_)]) (Lc:=[(_,_)]) (fun gh=>[(7,.bool gh)]) (fun gh=>[]) (fun gh=>G) (fun gh=>gh=sV x) (by exact H.sub ⟨M,M,M,M,M,aC⟩) ?_ ?_
 ·skip;refine kP H (SC<|aV iW aF 0 M M<|Rc M<|Rm M<|Sp 60 M ?_ ?_)<;>clear H
  ·intro oL a H
   try have p60:=dT oL
   refine kH H (bJ oL M<|Pt oL M<|Rm M<|bJ M M<|Pt M M<|Ra M fun a H=>aI ⟨_,by exact H.sub ⟨M,M,M,M,M,M,aC⟩,?_⟩)
   unfold sV;exact zP
  refine fun oL=>YF iW oL M<|YO aF 0 oL M<|YC oL M<|Pf oL M<|Rm M<|Sp 65 M ?_ ?_
  ·intro vJ a H
   try have p65:=dT vJ
   refine kH H (bJ vJ M<|Pt vJ M<|Ra M fun a H=>aI ⟨_,by exact H.sub ⟨M,M,M,M,M,M,aC⟩,?_⟩)
   unfold sV;exact zP
  refine fun vJ=>YF iW vJ M (YO aF 0 vJ M<|YC vJ M<|Pf vJ M<|Ra M fun a H=>aI ⟨_,by exact H.sub ⟨M,M,M,M,M,M,aC⟩,?_⟩)
  unfold sV;exact zP
 clear H;intro cd a w hI H;have hcd:=hI;dsimp only[lca,bq]at H;refine kP H (SQ fun _ K1=>SB (SR fun _ K2=>fun a H=>GD (ι:=Bool) (Tc:=[(1,_),(3,_),(4,_),(5,_),(7,_)]) 8 (fun(q0:Bool)=>[(78,.bool q0)]) (fun(q0:Bool)=>q0=(!decide (1<=x.kind∧x.kind<=8)||!codeOk x)) (by exact H.sub ⟨M,M,M,M,M,aC⟩) ?_ ?_))
 ·intro alW;refine kH H<|aV iW aF 0 M M fun a H=>s_call zX H wn M (Aq _ _ H.ro x.kind 1 8) M ?_;rintro v73 _ a w ⟨rfl,rfl⟩-H;refine kH H (Rn M<|Rm M<|Sp 75 M ?_ ?_)<;>clear H
  ·intro Ib a H
   try have p75:=dT Ib
   refine kH H (aU Ib M<|Pt Ib M fun a H=>alW (_) _ _ ?_ (by exact H.sub ⟨M,M,M,M,M,M,aC⟩));rw[<-hck];exact Jy
  refine fun Ib=>YM Ib M (YN Ib M<|Pf Ib M fun a H=>alW (_) _ _ ?_ (by exact H.sub ⟨M,M,M,M,M,M,aC⟩));rw[<-hck];exact Jz
 clear H;intro q0 a w hI H;dsimp only[lca,bq]at H;simp only[E8,xI];have hq0:=hI;refine kH H (ak K2 M<|Cd M ?_ ?_)<;>clear H K2
 ·intro yU a H;refine bU<|fun _ K2=>?_
  have e:iP x=3:=by unfold iP;rw[ay (by rw[<-hq0];exact yU)]
  exact Ms
 intro yU a H
 have f0:¬(!decide (1<=x.kind∧x.kind<=8)||!codeOk x)=true:=by rw[<-hq0,yU];decide
 refine dw (fun _ K2=>GD (ι:=Bool) (Tc:=[(1,_),(3,_),(4,_),(5,_)]) 7 (fun(q1:Bool)=>[(86,.bool q1)]) (fun(q1:Bool)=>q1=(!sV x&&decide (x.code≠0))) (by exact H.sub ⟨M,M,M,M,aC⟩) ?_ ?_)
 ·intro alX;refine kH H (Rm M<|Rn M<|Rm M<|Sp 82 M ?_ ?_)<;>clear H
  ·intro yV a H
   try have p82:=dT yV
   refine kH H (YF Fy yV M<|YO aF 0 yV M<|YC yV M<|Pt yV M fun a H=>alX (_) _ _ ?_ (by exact H.sub ⟨M,M,M,M,M,aC⟩));rw[<-hcd];exact Jy
  refine fun yV=>bJ yV M (Pf yV M fun a H=>alX (_) _ _ ?_ (by exact H.sub ⟨M,M,M,M,M,aC⟩));rw[<-hcd];exact Jz
 clear H;intro q1 a w hI H;dsimp only[lca,bq]at H;simp only[E8,xI];have hq1:=hI;refine GD (ι:=Bool) (Tc:=[(1,_),(3,_),(4,_)]) 9 (fun(q2:Bool)=>[(95,.bool q2)]) (fun(q2:Bool)=>q2=(q1||!tH x&&decide (x.id≠0))) (by exact H.sub ⟨M,M,M,aC⟩) ?_ ?_
 ·intro amb;refine kH H (Rm M<|Sp 87 M ?_ ?_)<;>clear H
  ·intro h87 a H
   try have Wz:=dT h87
   exact kH H<|bJ h87 M<|Ku M<|Ku M<|Ku M<|Ks h87 M<|Pt h87 M ahF
  refine fun h87=>YM h87 M<|YN h87 M<|YM h87 M<|Sp 90 M ?_ ?_
  ·intro Ah a H
   try have p90:=dT Ah
   exact kH H<|YF yO Ah M<|YO aF 0 Ah M<|YC Ah M<|PT h87 Ah M<|Pf h87 M ahF
  refine fun Ah=>bJ Ah M (PF h87 Ah M<|Pf h87 M fun a H=>amb (_) _ _ ?_ (by exact H.sub ⟨M,M,M,M,aC⟩));rw[<-hnm];exact Jz
 clear H;intro q2 a w hI H;dsimp only[lca,bq]at H;simp only[E8,xI];have hq2:=hI;refine GD (ι:=Bool) (Tc:=[(1,_),(3,_)]) 9 (fun(q3:Bool)=>[(104,.bool q3)]) (fun(q3:Bool)=>q3=(q2||!vC x&&!rz x.text)) (by exact H.sub ⟨M,M,aC⟩) ?_ ?_
 ·intro alY;refine kH H (Rm M<|Sp 96 M ?_ ?_)<;>clear H
  ·intro vK a H
   try have RU:=dT vK
   exact kH H<|bJ vK M<|Ku M<|Ku M<|Ku M<|Ks vK M<|Pt vK M ahv
  refine fun vK=>YM vK M<|YN vK M<|YM vK M<|Sp 99 M ?_ ?_
  ·intro FK a H
   try have p99:=dT FK
   exact kH H<|YF pE FK M<|YO gN 0 FK M fun a H=>aG7 H (wg H M M FK) M M M<|PT vK FK M<|Pf vK M ahv
  refine fun FK=>bJ FK M (PF vK FK M<|Pf vK M fun a H=>alY (_) _ _ ?_ (by exact H.sub ⟨M,M,M,aC⟩));rw[<-hwd];exact ahI
 clear H;intro q3 a w hI H;dsimp only[lca,bq]at H;simp only[E8,xI];have hq3:=hI;refine GD (ι:=Bool) (Tc:=[(1,_),(3,_)]) 11 (fun(q4:Bool)=>[(115,.bool q4)]) (fun(q4:Bool)=>q4=(q3||decide (x.kind≠6)&&decide (0<(x.flow.length:Int)))) (by exact H.sub ⟨M,M,aC⟩) ?_ ?_
 ·intro alZ;refine kH H (Rm M<|Sp 105 M ?_ ?_)<;>clear H
  ·intro uo a H
   try have N8:=dT uo
   exact kH H<|aU uo M<|aU uo M<|Ku M<|Ku M<|Ku M<|Ku M<|Ks uo M<|Pt uo M ahG
  refine fun uo=>YF iW uo M<|YO aF 0 uo M<|YC uo M<|YM uo M<|Sp 109 M ?_ ?_
  ·intro Cy a H
   try have aFR:=dT Cy
   exact kH H<|YF uU Cy M<|YO eG 0 Cy M<|YL dM Cy M<|YC Cy M<|PT uo Cy M<|Pf uo M ahG
  refine fun Cy=>aU Cy M (aU Cy M<|PF uo Cy M<|Pf uo M fun a H=>alZ (_) _ _ ?_ (by exact H.sub ⟨M,M,M,aC⟩));exact Jz
 clear H;intro q4 a w hI H;dsimp only[lca,bq]at H;simp only[E8,xI];have hq4:=hI;refine GD (ι:=Bool) (Tc:=[(1,_),(3,_)]) 11 (fun(q5:Bool)=>[(126,.bool q5)]) (fun(q5:Bool)=>q5=um x) (by exact H.sub ⟨M,M,aC⟩) ?_ ?_
 ·intro ama;refine kH H (Rm M<|Sp 116 M ?_ ?_)<;>clear H
  ·intro h116 a H
   try have aFT:=dT h116
   exact kH H<|aU h116 M<|aU h116 M<|Ku M<|Ku M<|Ku M<|Ku M<|Ks h116 M<|Pt h116 M ahD
  refine fun h116=>YF iW h116 M<|YO aF 0 h116 M<|YC h116 M<|YM h116 M<|Sp 120 M ?_ ?_
  ·intro Cz a H
   try have aFU:=dT Cz
   exact kH H<|YF mZ Cz M<|YO lX 0 Cz M<|YL jI Cz M<|YC Cz M<|PT h116 Cz M<|Pf h116 M ahD
  refine fun Cz=>aU Cz M (aU Cz M<|PF h116 Cz M<|Pf h116 M fun a H=>ama (_) _ _ ?_ (by exact H.sub ⟨M,M,M,aC⟩));rw[show um x=(q4||decide (x.kind≠7)&&decide (0<(x.rows.length:Int))) by rw[hq4,hq3,hq2,hq1];rfl];clear hq4;exact Jz
 clear H;intro q5 a w hI H;dsimp only[lca,bq]at H;simp only[E8,xI];have Nw:=hI;refine kH H (ak K2 M<|Cd M ?_ ?_)<;>clear H K2
 ·intro Ic a H;refine bU<|fun _ K2=>?_
  have e:iP x=15:=by unfold iP;rw[au f0,ay (by rw[<-Nw];exact Ic)]
  exact Ms
 intro Ic a H
 have f1:¬um x=true:=by rw[<-Nw,Ic];decide
 refine kP H<|SR fun _ K2=>aV pE gN 0 M M fun a H=>s_call JJ H wn M (Lj _ _ H.ro x.text hs) M ?_;rintro v130 _ a w ⟨rfl,rfl⟩-H;refine kH H (Rn M<|ak K2 M<|Cd M ?_ ?_)<;>clear H K2
 ·intro h127 a H;refine bU<|fun _ K2=>?_
  have e:iP x=12:=by unfold iP;rw[au f0,au f1,ay (by simpa using h127)]
  exact Ms
 intro h127 a H
 have f2:¬iI x.text=false:=by simpa using h127
 refine dw (fun _ K2=>GD (ι:=Bool) (Tc:=[(1,_),(3,_)]) 13 (fun(q6:Bool)=>[(145,.bool q6)]) (fun(q6:Bool)=>q6=(decide (x.kind=1∨x.kind=5)&&rz x.text)) (by exact H.sub ⟨M,M,aC⟩) ?_ ?_)
 ·intro amc;refine kH H (aV iW aF 0 M M<|Rc M<|Rm M<|Sp 136 M ?_ ?_)<;>clear H
  ·intro FE a H
   try have aFV:=dT FE
   exact kH H<|bJ FE M<|Pt FE M<|Rm M fun a H=>Oj pE H (wg H M M M) M M fun a H=>vo gN H (wg H M M M) M (H.hp.sD 0 M M) M fun a H=>BN H (wg H M M M) M M M<|Pt M M ahw
  refine fun FE=>YF iW FE M<|YO aF 0 FE M<|YC FE M<|Pf FE M<|Rm M<|Sp 141 M ?_ ?_
  ·intro FH a H
   try have aFW:=dT FH
   exact kH H<|YF pE FH M<|YO gN 0 FH M fun a H=>BN H (wg H M M FH) M M M<|Pt FH M ahw
  refine fun FH=>bJ FH M (Pf FH M fun a H=>amc (_) _ _ ?_ (by exact H.sub ⟨M,M,M,aC⟩));exact ahI
 clear H;intro q6 a w hI H;dsimp only[lca,bq]at H;simp only[E8,xI];have Ny:=hI;refine kH H (ak K2 M<|Cd M ?_ ?_)<;>clear H K2
 ·intro Ia a H;refine bU<|fun _ K2=>?_
  have e:iP x=11:=by unfold iP;rw[au f0,au f1,au f2,ay (by rw[<-Ny];exact Ia)]
  exact Ms
 intro Ia a H
 have f3:¬(decide (x.kind=1∨x.kind=5)&&rz x.text)=true:=by rw[<-Ny,Ia];decide
 refine dw (fun _ K2=>GD (ι:=Bool) (Tc:=[(1,_),(3,_)]) 9 (fun(q7:Bool)=>[(155,.bool q7)]) (fun(q7:Bool)=>q7=(decide (x.kind=5)&&decide (1024<(x.text.size:Int)))) (by exact H.sub ⟨M,M,aC⟩) ?_ ?_)
 ·intro amd;refine kH H (aV iW aF 0 M M<|Rc M<|Rm M<|Sp 150 M ?_ ?_)<;>clear H
  ·intro CB a H
   try have aFX:=dT CB
   refine kH H (YF pE CB M<|YO gN 0 CB M fun a H=>Gj gZ H (wg H M M CB) M M<|YC CB M<|Pt CB M fun a H=>amd (_) _ _ ?_ (by exact H.sub ⟨M,M,M,aC⟩));exact Jy
  refine fun CB=>aU CB M (aU CB M<|Pf CB M fun a H=>amd (_) _ _ ?_ (by exact H.sub ⟨M,M,M,aC⟩));exact Jz
 clear H;intro q7 a w hI H;dsimp only[lca,bq]at H;simp only[E8,xI];have Nz:=hI;refine kH H (ak K2 M<|Cd M ?_ ?_)<;>clear H K2
 ·intro U7 a H;refine bU<|fun _ K2=>?_
  have e:iP x=10:=by unfold iP;rw[au f0,au f1,au f2,au f3,ay (by rw[<-Nz];exact U7)]
  exact Ms
 intro U7 a H
 have f4:¬(decide (x.kind=5)&&decide (1024<(x.text.size:Int)))=true:=by rw[<-Nz,U7];decide
 refine dw (fun _ K2=>GD (ι:=Bool) (Tc:=[]) 7 (fun(q8:Bool)=>[(163,.bool q8)]) (fun(q8:Bool)=>q8=(vw x&&!pq x.text)) (by exact H.sub trivial) ?_ ?_)
 ·intro ame;refine kH H (Rm M<|Rm M<|Sp 158 M ?_ ?_)<;>clear H
  ·intro CF a H
   try have aFY:=dT CF
   refine kH H<|YF pE CF M<|YO gN 0 CF M fun a H=>s_call UD H (wg H M M CF) M (Ul _ _ H.ro x.text hs) M ?_;rintro aKR _ a w ⟨rfl,rfl⟩-H;refine kH H (YN CF M<|Pt CF M fun a H=>ame (_) _ _ ?_ (by exact H.sub ⟨M,aC⟩));rw[<-hst];exact Jy
  refine fun CF=>aU CF M (aU CF M<|Pf CF M fun a H=>ame (_) _ _ ?_ (by exact H.sub ⟨M,aC⟩));rw[<-hst];exact Jz
 clear H;intro q8 a w hI H;dsimp only[lca,bq]at H;simp only[E8,xI];have hq8:=hI;refine kH H (ak K2 M<|Cd M ?_ ?_)<;>clear H K2
 ·intro abb a H;refine bU<|fun _ K2=>?_
  have e:iP x=13:=by unfold iP;rw[au f0,au f1,au f2,au f3,au f4,ay (by rw[<-hq8];exact abb)]
  exact Ms
 intro abb a H;refine fU<|K1 _ _<|bU<|fun _ K1=>?_
 have e:iP x=0:=by unfold iP;rw[au f0,au f1,au f2,au f3,au f4,au (by rw[<-hq8,abb];decide)]
 exact kP H (SC<|bZ K1 M<|LR results195 M fun H=>H.rt ⟨by rw[e],M⟩)
structure CS where
 n:Int
 bV:List Int
abbrev CR:=Int×CS
def jf(r:CR)(f:CS->CR):CR:=if r.1≠0 then r else f r.2
theorem Mg{r:CR}{f:CS->CR}(h:r.1=0):jf r f=f r.2:=by rw[jf,au<|fun h'=>h' h]
theorem Tj{r:CR}{f:CS->CR}(h:r.1≠0):jf r f=r:=by rw[jf,ay h]
def oO(C:bG)(s:CS)(x:Int):CR:=(uG C.us s.bV x,⟨s.n,oN C.us s.bV x⟩)
def qC(C:bG)(body note:Bool)(t k i:Int)(s:CS):CR :=
 if k=3 then(dX (!body) 19,s)else if k=6 then jf (dX note 19,s) fun s=>oO C s i else if k=7 then jf (dX (decide (4<=t)) 17,s) fun s=>oO C s i else if k=8 then(dX (!decide (1<=i∧i<=1073741824)) 18,s)else(0,s)
def Gf(C:bG)(h:fI)(n:Nat):Int:=fD [iX C 9 h,dX (decide ((n:Int)=0)) 11,dX (decide (32<(n:Int))) 9]
def nH(n:Nat)(f:CS->CR)(s:CS):CR:=if n=0 then(11,s)else if 256<n then(9,s)else f s
mutual
def fM(C:bG)(body note:Bool)(t:Int):ah->CS->CR
 |.mk k c i tx h f r,s=>
  jf (iP (.mk k c i tx h f r),s) fun s=>jf (qC C body note t k i ⟨s.n+(if k=1 then dU tx else 1:Nat),s.bV⟩) fun s=>jf (iX C k h,s) fun s=>
   if k=6 then jH C false true t f s else if k=7 then nH r.length (fun s=>jm C note (t+1) r s) s else(0,s)
def Az(C:bG)(note:Bool)(t:Int):aN->CS->CR
 |.mk h cs,s=>jf (Gf C h cs.length,s) fun s=>qH C note t cs s
def cellC(C:bG)(note:Bool)(t:Int):aP->CS->CR
 |.mk i h f,s=>jf (oO C s i) fun s=>jf (iX C 10 h,s) fun s=>jH C false note t f s
def jH(C:bG)(body note:Bool)(t:Int):List ah->CS->CR
 |[],s=>(0,s)
 |x::r,s=>jf (fM C body note t x s) fun s=>jH C body note t r s
def jm(C:bG)(note:Bool)(t:Int):List aN->CS->CR
 |[],s=>(0,s)
 |x::r,s=>jf (Az C note t x s) fun s=>jm C note t r s
def qH(C:bG)(note:Bool)(t:Int):List aP->CS->CR
 |[],s=>(0,s)
 |x::r,s=>jf (cellC C note t x s) fun s=>qH C note t r s
end
theorem VY(C:bG)(body note:Bool)(t:Int)(x:ah)(s:CS):fM C body note t x s=jf (iP x,s) fun s=>jf (qC C body note t x.kind x.id ⟨s.n+(bO x:Nat),s.bV⟩) fun s=>jf (iX C x.kind x.head,s) fun s=>
  if x.kind=6 then jH C false true t x.flow s else if x.kind=7 then nH x.rows.length (fun s=>jm C note (t+1) x.rows s) s else(0,s):=by cases x;rw[fM];rfl
theorem RZ(C:bG)(note:Bool)(t:Int)(x:aN)(s:CS):Az C note t x s=jf (Gf C x.head x.cells.length,s) fun s=>qH C note t x.cells s:=by cases x;rw[Az];rfl
theorem PU(C:bG)(note:Bool)(t:Int)(x:aP)(s:CS):cellC C note t x s=jf (oO C s x.id) fun s=>jf (iX C 10 x.head,s) fun s=>jH C false note t x.flow s:=by cases x;rw[cellC];rfl
def Up(s:CS)(z:Nat)(r:CR):Prop:=s.n<=r.2.n∧r.2.n<=s.n+z
theorem Up.and{s:CS}{z y q:Nat}{r:CR}{f:CS->CR}(h:Up s z r)(hq:z+y<=q)(hf:∀s,Up s y<|f s):Up s q (jf r f):=by
 obtain⟨h1,h2⟩:=h
 unfold jf
 split
 ·exact⟨h1,O⟩
 obtain⟨h3,h4⟩:=hf r.2;exact⟨O,O⟩
theorem Up.zero(s:CS)(e:Int)(q:Nat):Up s q (e,s):=⟨Int.le_refl _,by dsimp only;omega⟩
theorem Up.le{s:CS}{z y:Nat}{r:CR}(h:Up s z r)(hq:z<=y):Up s y r:=⟨h.1,by have:=h.2;omega⟩
theorem arM(C:bG)(s:CS)(x:Int)(q:Nat):Up s q (oO C s x):=⟨Int.le_refl _,by dsimp only[oO];omega⟩
theorem aIB(C:bG)(body note:Bool)(t k i:Int)(s:CS)(q:Nat):Up s q (qC C body note t k i s):=by
 unfold qC
 (repeat' split)<;>first|exact Up.zero _ _ _|exact(Up.zero _ _ 0).and (y:=0) O fun s=>arM _ _ _ _
mutual
theorem arN(C:bG)(body note:Bool)(t:Int):∀(x:ah)(s:CS),Up s (bY x.dat) (fM C body note t x s)
 |.mk k c i tx h f r,s=>by
  have hz:=lY (.mk k c i tx h f r);have hf:=Xu C false true t f;have hr:=arO C note (t+1) r;rw[fM];obtain⟨u,hu'⟩:∃u,u=(if k=1 then dU tx else 1:Nat):=⟨_,M⟩
  have hu:u<=tx.size+1:=by
   have:=Fu tx
   rw[hu'];split <;>omega
  rw[<-hu'];dsimp only[ah.text,ah.flow,ah.rows,ah.head]at hz;refine(Up.zero s _ 0).and (Nat.le_of_eq (fB _)) fun s=>?_
  have h2:Up s (u) (qC C body note t k i ⟨s.n+(u:Nat),s.bV⟩):=by
   obtain⟨h3,h4⟩:=aIB C body note t k i ⟨s.n+(u:Nat),s.bV⟩ 0;dsimp only at h3 h4;exact⟨O,O⟩
  refine h2.and (y:=aR f+gB r) O fun s=>(Up.zero s _ 0).and (Nat.le_of_eq (fB _)) fun s=>?_
  by_cases h6:k=6
  ·rw[ay h6];exact(hf s).le O
  rw[au h6]
  by_cases h7:k=7
  ·rw[ay h7]
   unfold nH
   by_cases c1:r.length=0
   ·rw[ay c1];exact Up.zero _ _ _
   rw[au c1]
   by_cases c2:256<r.length
   ·rw[ay c2];exact Up.zero _ _ _
   rw[au c2];exact(hr s).le O
  rw[au h7];exact Up.zero _ _ _
theorem aIC(C:bG)(note:Bool)(t:Int):∀(x:aN)(s:CS),Up s (bY x.dat) (Az C note t x s)
 |.mk h cs,s=>by
  have hz:=zC (.mk h cs);have hc:=arL C note t cs;rw[RZ];dsimp only[aN.cells,aN.head]at hz|-;exact(Up.zero s _ 0).and (y:=iU cs) O fun s=>hc s
theorem aIA(C:bG)(note:Bool)(t:Int):∀(x:aP)(s:CS),Up s (bY x.dat) (cellC C note t x s)
 |.mk i h f,s=>by
  have hz:=AU (.mk i h f);have hf:=Xu C false note t f;rw[PU];dsimp only[aP.flow,aP.head,aP.id]at hz|-;exact(arM C s _ 0).and (y:=aR f) O fun s=>(Up.zero s _ 0).and (Nat.le_of_eq (fB _)) fun s=>hf s
theorem Xu(C:bG)(body note:Bool)(t:Int):∀(l:List ah)(s:CS),Up s (aR l) (jH C body note t l s)
 |[],s=>by rw[jH];exact Up.zero _ _ _
 |x::r,s=>by
  rw[jH];exact(arN C body note t x s).and (y:=aR r) (by simp only[aR,dV,fE];omega) fun s=>Xu C body note t r s
theorem arO(C:bG)(note:Bool)(t:Int):∀(l:List aN)(s:CS),Up s (gB l) (jm C note t l s)
 |[],s=>by rw[jm];exact Up.zero _ _ _
 |x::r,s=>by
  rw[jm];exact(aIC C note t x s).and (y:=gB r) (by simp only[gB,dV,fE];omega) fun s=>arO C note t r s
theorem arL(C:bG)(note:Bool)(t:Int):∀(l:List aP)(s:CS),Up s (iU l) (qH C note t l s)
 |[],s=>by rw[qH];exact Up.zero _ _ _
 |x::r,s=>by
  rw[qH];exact(aIA C note t x s).and (y:=iU r) (by simp only[iU,dV,fE];omega) fun s=>arL C note t r s
end
def tN{α:Type}(f:α->CS->CR)(l:List α)(s:CS):Nat->CS
 |0=>s
 |i+1=>match l[i]? with|some x=>(f x (tN f l s i)).2|none=>tN f l s i
def Fx{α:Type}(f:α->CS->CR)(l:List α)(s:CS)(i:Nat):Int:=match l[i]? with|some x=>(f x (tN f l s i)).1|none=>0
theorem adZ{α:Type}(f:α->CS->CR)(x:α)(l:List α)(s:CS):∀i,tN f (x::l) s (i+1)=tN f l (f x s).2 i
 |0=>rfl
 |i+1=>by
  have ih:=adZ f x l s i
  simp only[tN,List.getElem?_cons_succ]at ih|-
  rw[ih]
theorem azz{α:Type}(f:α->CS->CR)(x:α)(l:List α)(s:CS)(i:Nat):Fx f (x::l) s (i+1)=Fx f l (f x s).2 i:=by
 unfold Fx
 simp only[List.getElem?_cons_succ,adZ]
theorem atC(E:Nat->Int)(n:Nat):kW E (n+1)=if E 0≠0 then E 0 else kW (fun i=>E<|i+1) n:=by
 unfold kW
 rw[List.range_succ_eq_map,dV,fD,List.map_map]
 rfl
theorem anU(C:bG)(body note:Bool)(t:Int):∀(l:List ah)(s:CS),(jH C body note t l s).1=kW (Fx (fM C body note t) l s) l.length∧((jH C body note t l s).1=0->(jH C body note t l s).2=tN (fM C body note t) l s l.length)
 |[],s=>by rw[jH];exact⟨M,fun _=>rfl⟩
 |x::r,s=>by
  obtain⟨h1,h2⟩:=anU C body note t r (fM C body note t x s).2;have e0:Fx (fM C body note t) (x::r) s 0=(fM C body note t x s).1:=rfl;rw[jH,lK,atC,e0,adZ]
  simp only[azz]
  unfold jf
  split
  ·next h=>exact⟨M,fun h0=>absurd h0 h⟩
  exact⟨h1,h2⟩
theorem arP(C:bG)(body note:Bool)(t:Int)(l:List ah)(s:CS):∀i,i<=l.length->s.n<=(tN (fM C body note t) l s i).n∧(tN (fM C body note t) l s i).n+(aR (l.drop i):Nat)<=s.n+(aR l:Nat)
 |0,_=>⟨Int.le_refl _,Int.le_refl _⟩
 |i+1,hi=>by
  have hi':i<l.length:=hi;obtain⟨h1,h2⟩:=arP C body note t l s i O
  have hs:tN (fM C body note t) l s (i+1)=(fM C body note t l[i]<|tN (fM C body note t) l s i).2:=by rw[tN,gF hi']
  have hd:aR (l.drop i)=1+bY l[i].dat+aR (l.drop<|i+1):=by
   simp only[aR];rw[mg hi',dV,fE]
  obtain⟨h3,h4⟩:=arN C body note t l[i]<|tN (fM C body note t) l s i;rw[hs];exact⟨O,O⟩
mutual
/-- The ids in items, in document order. -/
def qL:ah->List Int
 |.mk k _ i _ _ f r=>(if k=6∨k=7 then[i]else[])++((if k=6 then gQ f else[])++(if k=7 then oh r else[]))
def gQ:List ah->List Int
 |[]=>[]
 |x::r=>qL x++gQ r
def wQ:aN->List Int
 |.mk _ c=>oM c
def oh:List aN->List Int
 |[]=>[]
 |x::r=>wQ x++oh r
def wP:aP->List Int
 |.mk i _ f=>i::gQ f
def oM:List aP->List Int
 |[]=>[]
 |x::r=>wP x++oM r
end
theorem aDY(x:ah):qL x=(if x.kind=6∨x.kind=7 then[x.id]else[])++((if x.kind=6 then gQ x.flow else[])++(if x.kind=7 then oh x.rows else[])):=by cases x;rw[qL];rfl
theorem jY{r:CR}{f:CS->CR}{s':CS}(h:jf r f=(0,s')):r.1=0∧f r.2=(0,s'):=by
 unfold jf at h
 split at h
 ·rename_i h1;rw[h]at h1;exact absurd M h1
 rename_i h1;exact⟨nL.1 h1,h⟩
theorem Um{r:CR}(h:r.1=0):r=(0,r.2):=Prod.ext h M
structure nJ(a b c:List Int):Prop where
 eq:c=a++b
 nd:a.Nodup->c.Nodup
 pos:∀i∈b,1<=i∧i<=1073741824
theorem nJ.nil(a:List Int):nJ a [] a:=⟨by simp,fun h=>h,fun i h=>by cases h⟩
theorem nJ.trans{a b c d e:List Int}(h:nJ a b c)(g:nJ c d e):nJ a (b++d) e:=⟨by rw[g.eq,h.eq,iG],fun h1=>g.nd (h.nd h1),fun i hi=>(iF.1 hi).elim (h.pos i)<|g.pos i⟩
theorem nJ.id{us a:List Int}{x:Int}(h:uG us a x=0):nJ a [x] (oN us a x):=by
 unfold oN
 rw[ay h]
 unfold uG at h
 by_cases h0:¬(1<=x∧x<=1073741824)∨x∈us
 ·rw[ay h0]at h;cases h
 rw[au h0]at h;have h1:1<=x∧x<=1073741824:=nL.1 fun h'=>h0 (.inl h')
 by_cases h2:x∈a
 ·rw[ay h2]at h;cases h
 exact⟨M,fun h3=>List.nodup_append.2 ⟨h3,by simp,fun u hu v hv=>by rw[oH.1 hv];exact fun e=>h2<|e ▸ hu⟩,fun i hi=>by rw[oH.1 hi];exact h1⟩
theorem nJ.oO {C:bG} {s s':CS} {x:Int} (h:oO C s x=(0,s')):nJ s.bV [x] s'.bV:=by
 unfold Go.Proofs.YtdgnnpjijhafaaaGreat.oO at h
 injection h with h1 h2
 rw [<- h2];exact nJ.id h1
theorem aF4{C:bG}{body note:Bool}{t k i:Int}{s s':CS}(h:qC C body note t k i s=(0,s')):nJ s.bV (if k=6∨k=7 then[i]else[]) s'.bV:=by
 unfold qC at h
 by_cases h3:k=3
 ·rw[ay h3]at h;injection h with _ h2;rw[bQ,<-h2];exact nJ.nil _
 rw[au h3]at h
 by_cases h6:k=6
 ·rw[ay h6]at h;rw[ay (.inl h6)];exact nJ.oO (jY h).2
 rw[au h6]at h
 by_cases h7:k=7
 ·rw[ay h7]at h;rw[ay (.inr h7)];exact nJ.oO (jY h).2
 rw[au h7]at h;rw[bQ]
 by_cases h8:k=8
 ·rw[ay h8]at h;injection h with _ h2;rw[<-h2];exact nJ.nil _
 rw[au h8]at h;injection h with _ h2;rw[<-h2];exact nJ.nil _
theorem WO{n:Nat}{f:CS->CR}{s s':CS}(h:nH n f s=(0,s')):n≠0∧f s=(0,s'):=by
 unfold nH at h
 split at h
 ·cases h
 rename_i h1
 split at h
 ·cases h
 exact⟨h1,h⟩
theorem ahe {p:Prop} (h:p:=by
 rw [ay h6] at e |-;rw [au (show ¬ k=7 by omega),iR];exact hf _ _ e):p:=h
mutual
theorem azE(C:bG)(body note:Bool)(t:Int):∀(x:ah)(s s':CS),fM C body note t x s=(0,s')->nJ s.bV (qL x) s'.bV
 |.mk k c i tx h f r,s,s',e=>by
  have hf:=UH C false true t f;have hr:=akC C note (t+1) r;rw[fM]at e;obtain⟨-,e⟩:=jY e;obtain⟨e1,e⟩:=jY e;obtain⟨-,e⟩:=jY e;have h1:=aF4 (Um e1);rw[qL];refine h1.trans ?_
  by_cases h6:k=6
  ·exact ahe
  rw[au h6]at e|-;rw[fQ]
  by_cases h7:k=7
  ·rw[ay h7]at e|-;exact hr _ _ (WO e).2
  rw[au h7]at e|-
  injection e with _ e
  rw[<-e];exact nJ.nil _
theorem azF(C:bG)(note:Bool)(t:Int):∀(x:aN)(s s':CS),Az C note t x s=(0,s')->nJ s.bV (wQ x) s'.bV
 |.mk h cs,s,s',e=>by
  have hc:=akA C note t cs;rw[RZ]at e;rw[wQ];exact hc _ _ (jY e).2
theorem azC(C:bG)(note:Bool)(t:Int):∀(x:aP)(s s':CS),cellC C note t x s=(0,s')->nJ s.bV (wP x) s'.bV
 |.mk i h f,s,s',e=>by
  have hf:=UH C false note t f;rw[PU]at e;dsimp only[aP.id,aP.head,aP.flow]at e;obtain⟨e1,e⟩:=jY e;have h1:=nJ.oO (s':=(oO C s i).2) (Prod.ext e1 M);rw[wP];exact h1.trans (hf _ _ (jY e).2)
theorem UH(C:bG)(body note:Bool)(t:Int):∀(l:List ah)(s s':CS),jH C body note t l s=(0,s')->nJ s.bV (gQ l) s'.bV
 |[],s,s',e=>by rw[jH]at e;injection e with _ e;rw[<-e];exact nJ.nil _
 |x::r,s,s',e=>by
  rw[jH]at e;obtain⟨e1,e⟩:=jY e;rw[gQ];exact(azE C body note t x s _ (Prod.ext e1 M)).trans (UH C body note t r _ _ e)
theorem akC(C:bG)(note:Bool)(t:Int):∀(l:List aN)(s s':CS),jm C note t l s=(0,s')->nJ s.bV (oh l) s'.bV
 |[],s,s',e=>by rw[jm]at e;injection e with _ e;rw[<-e];exact nJ.nil _
 |x::r,s,s',e=>by
  rw[jm]at e;obtain⟨e1,e⟩:=jY e;rw[oh];exact(azF C note t x s _ (Prod.ext e1 M)).trans (akC C note t r _ _ e)
theorem akA(C:bG)(note:Bool)(t:Int):∀(l:List aP)(s s':CS),qH C note t l s=(0,s')->nJ s.bV (oM l) s'.bV
 |[],s,s',e=>by rw[qH]at e;injection e with _ e;rw[<-e];exact nJ.nil _
 |x::r,s,s',e=>by
  rw[qH]at e;obtain⟨e1,e⟩:=jY e;rw[oM];exact(azC C note t x s _ (Prod.ext e1 M)).trans (akA C note t r _ _ e)
end
def eT(l:List ah):Prop:=∃(C:bG)(body note:Bool)(t:Int)(s s':CS),jH C body note t l s=(0,s')
structure AX(x:ah):Prop where
 txt:iI x.text=true
 kd:1<=x.kind∧x.kind<=8
 R3:x.kind≠7->x.rows=[]
 fl0:x.kind≠6->x.flow=[]
 fl:eT x.flow
 rw:∀r∈x.rows,∀c∈r.cells,eT c.flow
theorem aFH:eT []:=⟨⟨[],[],[],[]⟩,false,false,0,⟨0,[]⟩,⟨0,[]⟩,by rw[jH]⟩
theorem FD{x:ah}(h:iP x=0):iI x.text=true∧(1<=x.kind∧x.kind<=8)∧(x.kind≠7->x.rows=[])∧(x.kind≠6->x.flow=[]):=by
 unfold iP at h
 split at h
 ·cases h
 rename_i h1
 split at h
 ·cases h
 rename_i h2
 split at h
 ·cases h
 rename_i h3
 have hk:decide (1<=x.kind∧x.kind<=8)=true:=by
  cases hd:decide (1<=x.kind∧x.kind<=8)
  ·rw[hd]at h1;exact absurd M h1
  rfl
 refine⟨by simpa using h3,mW hk,fun h7=>?_,fun h6=>?_⟩
 ·rw[Bool.not_eq_true]at h2
  unfold um at h2
  simp only[Bool.or_eq_false_iff]at h2
  have h4:=h2.2;rw[kZ h7,Me,Ci]at h4;exact List.length_eq_zero_iff.1 O
 rw[Bool.not_eq_true]at h2
 unfold um at h2
 simp only[Bool.or_eq_false_iff]at h2
 have h4:=h2.1.2;rw[kZ h6,Me,Ci]at h4;exact List.length_eq_zero_iff.1 O
theorem cells_ok{C:bG}{note:Bool}{t:Int}:∀{l:List aP}{s s':CS},qH C note t l s=(0,s')->∀c∈l,eT c.flow
 |[],_,_,_,_,h=>by cases h
 |x::r,s,s',e,c,h=>by
  rw[qH]at e;obtain⟨e1,e⟩:=jY e
  rcases iL.1 h with rfl|h
  ·have e2:cellC C note t c s=(0,(cellC C note t c s).2):=Prod.ext e1 M
   generalize(cellC C note t c s).2=s2 at e2
   rw[PU]at e2;exact⟨C,false,note,t,_,_,(jY (jY e2).2).2⟩
  exact cells_ok e c h
theorem apP{C:bG}{note:Bool}{t:Int}:∀{l:List aN}{s s':CS},jm C note t l s=(0,s')->∀r∈l,∀c∈r.cells,eT c.flow
 |[],_,_,_,_,h=>by cases h
 |x::r,s,s',e,q,h=>by
  rw[jm]at e;obtain⟨e1,e⟩:=jY e
  rcases iL.1 h with rfl|h
  ·have e2:Az C note t q s=(0,(Az C note t q s).2):=Prod.ext e1 M
   generalize(Az C note t q s).2=s2 at e2
   rw[RZ]at e2;exact cells_ok (jY e2).2
  exact apP e q h
theorem eT.head{x:ah}{l:List ah}(h:eT (x::l)):AX x∧eT l:=by
 obtain⟨C,body,note,t,s,s',e⟩:=h;rw[jH]at e;obtain⟨e1,e⟩:=jY e;have e2:fM C body note t x s=(0,(fM C body note t x s).2):=Prod.ext e1 M
 generalize(fM C body note t x s).2=s2 at e2
 refine⟨?_,⟨C,body,note,t,_,_,e⟩⟩;rw[VY]at e2;obtain⟨f1,e2⟩:=jY e2;(iterate 2 obtain⟨-,e2⟩:=jY e2);obtain⟨h1,h2,h3,h4⟩:=FD f1;refine⟨h1,h2,h3,h4,?_,?_⟩
 ·by_cases h6:x.kind=6
  ·rw[ay h6]at e2;exact⟨_,_,_,_,_,_,e2⟩
  rw[h4 h6];exact aFH
 by_cases h7:x.kind=7
 ·rw[bQ,ay h7]at e2;exact apP (WO e2).2
 rw[h3 h7];exact fun _ h=>by cases h
theorem eT.tail{x:ah}{l:List ah}(h:eT (x::l)):eT l:=h.head.2
theorem eT.mem:∀{l:List ah}{x:ah},eT l->x∈l->AX x
 |y::l,x,h,hx=>by
  rcases iL.1 hx with rfl|hx
  ·exact h.head.1
  exact eT.mem h.head.2 hx
theorem AX.e{x:ah}(h:AX x):tX x=0:=by unfold tX I4;rw[ay h.txt];split <;>rfl
theorem AX.n1 {x:ah} (h:AX x):n1 x=bO x:=by unfold Go.Proofs.YtdgnnpjijhafaaaGreat.n1;rw [ay h.e]
theorem eT.div{l:List ah}(h:eT l):yN l=true:=by
 unfold yN
 rw[lM];exact fun x hx=>kZ (h.mem hx).e
theorem eT.len{l:List ah}(h:eT l):kL l=bC l:=by unfold kL;rw[ay h.div]
def xw(f t:Int)(L:List eU):Prop:=∃F∈L,F.id=f∧0<=t∧t<=kL F.items
theorem VU{f t:Int}:xw f t []↔False:=⟨fun⟨_,h,_⟩=>(by cases h),False.elim⟩
theorem acD{f t:Int}{L qq:List eU}:xw f t (L++qq)↔xw f t L∨xw f t qq:=by
 unfold xw
 constructor
 ·rintro⟨F,h,r⟩
  rcases iF.1 h with h|h
  ·exact .inl ⟨F,h,r⟩
  exact .inr ⟨F,h,r⟩
 rintro(⟨F,h,r⟩|⟨F,h,r⟩)
 ·exact⟨F,iF.2 (.inl h),r⟩
 exact⟨F,iF.2 (.inr h),r⟩
theorem anP{f t:Int}{F:eU}{L:List eU}:xw f t (F::L)↔(F.id=f∧0<=t∧t<=kL F.items)∨xw f t L:=by
 unfold xw
 constructor
 ·rintro⟨E,h,r⟩
  rcases iL.1 h with rfl|h
  ·exact .inl r
  exact .inr ⟨E,h,r⟩
 rintro(r|⟨E,h,r⟩)
 ·exact⟨F,fJ,r⟩
 exact⟨E,gH _ h,r⟩
theorem TG {p:Prop} (h:p:=by
 exact .inl ⟨e,O,O⟩):p:=h
mutual
theorem aoA(g:Int)(at_:Nat)(note:Bool)(tt f t:Int):∀x:ah,AX x->((f,t)∈I6 g at_ x↔(g=f∧(at_:Int)<=t∧t<at_+bO x)∨xw f t (qh note tt x))
 |.mk k c i tx h fl r,hx=>by
  have hf:=V6 i 0 true tt f t fl hx.fl;have hr:=acX note tt f t r hx.rw;have hn:=hx.n1;have h0:=hx.R3;have hl:=hx.fl.len;rw[I6,qh,hn]
  simp only[ah.kind,ah.rows,ah.flow]at h0 hl
  generalize bO (.mk k c i tx h fl r)=u
  have h1:(f,t)∈(List.range u).map (fun q=>(g,((at_+q:Nat):Int)))↔(g=f∧(at_:Int)<=t∧t<at_+u):=by
   rw[List.mem_map]
   constructor
   ·rintro⟨q,hq,e⟩
    injection e with e1 e2
    have:=qo.1 hq;exact⟨e1,O,O⟩
   rintro⟨e,h2,h3⟩;exact⟨(t-at_).toNat,qo.2 O,by rw[e];exact Prod.ext M (by simp only;omega)⟩
  rw[iF,iF,h1];refine or_congr Iff.rfl ?_
  by_cases h6:k=6
  ·rw[ay h6,ay h6,h0 O,hf,anP]
   simp only[xg,List.not_mem_nil,or_false,hl]
   constructor
   ·rintro(⟨e,h2,h3⟩|h2)
    ·exact TG
    exact .inr h2
   rintro(⟨e,h2,h3⟩|h2)
   ·exact TG
   exact .inr h2
  rw[au h6,au h6]
  by_cases h7:k=7
  ·rw[ay h7,hr];simp
  rw[au h7,h0 h7,VU];simp[xg]
theorem V6(g:Int)(at_:Nat)(note:Bool)(tt f t:Int):∀l:List ah,eT l->((f,t)∈AQ g at_ l↔(g=f∧(at_:Int)<=t∧t<=at_+bC l)∨xw f t (iD note tt l))
 |[],_=>by
  rw[AQ,iD,VU,oH]
  constructor
  ·intro e;injection e with e1 e2;exact .inl ⟨e1.symm,O,by simp only[bC];omega⟩
  rintro(⟨e,h2,h3⟩|h)
  ·simp only[bC]at h3;rw[e];exact Prod.ext M (by simp only;omega)
  exact h.elim
 |x::l,hl=>by
  obtain⟨hx,hl⟩:=hl.head;have h1:=aoA g at_ note tt f t x hx;have h2:=V6 g (at_+n1 x) note tt f t l hl;rw[AQ,iD,iF,h1,h2,acD,hx.n1]
  simp only[bC]
  constructor
  ·rintro((⟨e,h3,h4⟩|h3)|(⟨e,h3,h4⟩|h3))
   ·exact TG
   ·exact .inr (.inl h3)
   ·exact TG
   exact .inr (.inr h3)
  rintro(⟨e,h3,h4⟩|(h3|h3))
  ·by_cases hlt:t<at_+bO x
   ·exact .inl (.inl ⟨e,h3,hlt⟩)
   exact .inr (.inl ⟨e,O,O⟩)
  ·exact .inl (.inr h3)
  exact .inr (.inr h3)
theorem mem_row(note:Bool)(tt f t:Int):∀x:aN,(∀c∈x.cells,eT c.flow)->((f,t)∈I7 x↔xw f t (qW note tt x))
 |.mk h cs,hx=>by
  have hc:=acW note tt f t cs hx;rw[I7,qW];exact hc
theorem acX(note:Bool)(tt f t:Int):∀l:List aN,(∀r∈l,∀c∈r.cells,eT c.flow)->((f,t)∈xg l↔xw f t (kR note tt l))
 |[],_=>by rw[xg,kR,VU];simp
 |x::l,hx=>by
  have h1:=mem_row note tt f t x (hx x fJ);have h2:=acX note tt f t l (fun r hr=>hx r (gH _ hr));rw[xg,kR,iF,h1,h2,acD]
theorem aoz(note:Bool)(tt f t:Int):∀x:aP,eT x.flow->((f,t)∈I5 x↔xw f t (qg note tt x))
 |.mk i h fl,hx=>by
  have h1:=V6 i 0 note (tt+1) f t fl hx;have hl:=hx.len
  simp only[aP.flow]at hl
  rw[I5,qg,h1,anP]
  simp only[hl]
  refine or_congr ?_ Iff.rfl
  constructor
  ·rintro⟨e,h2,h3⟩;exact⟨e,O,O⟩
  rintro⟨e,h2,h3⟩;exact⟨e,O,O⟩
theorem acW(note:Bool)(tt f t:Int):∀l:List aP,(∀c∈l,eT c.flow)->((f,t)∈DL l↔xw f t (kX note tt l))
 |[],_=>by rw[DL,kX,VU];simp
 |x::l,hx=>by
  have h1:=aoz note tt f t x (hx x fJ);have h2:=acW note tt f t l (fun r hr=>hx r (gH _ hr));rw[DL,kX,iF,h1,h2,acD]
end
mutual
theorem ash(note:Bool)(t:Int):∀x:ah,((qh note t x).map eU.id).Sublist (qL x)
 |.mk k c i tx h f r=>by
  have hf:=Sn true t f;have hr:=aes note t r;rw[qh,qL]
  by_cases h6:k=6
  ·rw[ay h6,ay (.inl h6),ay h6,bQ,iR];exact List.Sublist.cons_cons _ hf
  rw[au h6,au h6,fQ]
  by_cases h7:k=7
  ·rw[ay h7,ay h7,ay (.inr h7)];exact List.Sublist.cons _ hr
  rw[au h7];exact List.nil_sublist _
theorem Sn(note:Bool)(t:Int):∀l:List ah,((iD note t l).map eU.id).Sublist (gQ l)
 |[]=>by rw[iD];exact List.nil_sublist _
 |x::l=>by
  rw[iD,gQ,iy];exact(ash note t x).append (Sn note t l)
theorem asi(note:Bool)(t:Int):∀x:aN,((qW note t x).map eU.id).Sublist (wQ x)
 |.mk h cs=>by rw[qW,wQ];exact aer note t cs
theorem aes(note:Bool)(t:Int):∀l:List aN,((kR note t l).map eU.id).Sublist (oh l)
 |[]=>by rw[kR];exact List.nil_sublist _
 |x::l=>by
  rw[kR,oh,iy];exact(asi note t x).append (aes note t l)
theorem asf(note:Bool)(t:Int):∀x:aP,((qg note t x).map eU.id).Sublist (wP x)
 |.mk i h f=>by rw[qg,wP];exact List.Sublist.cons_cons _ (Sn note (t+1) f)
theorem aer(note:Bool)(t:Int):∀l:List aP,((kX note t l).map eU.id).Sublist (oM l)
 |[]=>by rw[kX];exact List.nil_sublist _
 |x::l=>by
  rw[kX,oM,iy];exact(asf note t x).append (aer note t l)
end
structure zH(l:List ah):Prop where
 ok:eT l
 nd:(gQ l).Nodup
 pos:∀i∈gQ l,1<=i∧i<=1073741824
theorem zH.of{C:bG}{body note:Bool}{t n:Int}{l:List ah}{s':CS}(h:jH C body note t l ⟨n,[]⟩=(0,s')):zH l:=by
 have he:=UH C body note t l _ _ h;have hn:=he.nd List.nodup_nil;rw[he.eq]at hn;exact⟨⟨C,body,note,t,_,_,h⟩,by simpa using hn,he.pos⟩
theorem zH.ids{l:List ah}(h:zH l):((gJ l).map eU.id).Nodup:=by
 have hs:=Sn false 0 l;rw[gJ,dV,List.nodup_cons];exact⟨fun hm=>by have:=h.pos _<|hs.subset hm;dsimp only at this;omega,hs.nodup h.nd⟩
theorem Qp{L:List eU}(hn:(L.map eU.id).Nodup){F:eU}(hF:F∈L):L.find? (fun f=>decide<|f.id=F.id)=some F:=by
 induction L with
 |nil=>cases hF
 |cons E L ih=>
  rw[dV,List.nodup_cons]at hn;rw[List.find?_cons]
  rcases iL.1 hF with rfl|hF
  ·simp
  have:E.id≠F.id:=fun e=>hn.1<|e ▸ List.mem_map_of_mem hF;rw[mE this];exact ih hn.2 hF
def GZ(s:CS)(z:Nat)(r:CR):Prop:=r.2.bV.length<=s.bV.length+z
theorem GZ.and{s:CS}{z y q:Nat}{r:CR}{f:CS->CR}(h:GZ s z r)(hq:z+y<=q)(hf:∀s,GZ s y<|f s):GZ s q (jf r f):=by
 unfold GZ at *
 unfold jf
 split
 ·omega
 have:=hf r.2
 omega
theorem GZ.zero(s:CS)(e:Int)(q:Nat):GZ s q (e,s):=by unfold GZ;dsimp only;omega
theorem asy{l:List ah}{k:Nat}(hk:k<l.length):aR (l.drop k)=1+bY l[k].dat+aR (l.drop<|k+1):=by
 simp only[aR];rw[mg hk,dV,fE]
structure cZ where
 code:Int
 id:Int
 name:ByteArray
 flow:Int
 at_:Int
def cZ.dat(x:cZ):List Dat:=[li x.code,li x.id,.lf (.string x.name),li x.flow,li x.at_]
abbrev cZ.cells(x:cZ):List aj:=[vi x.code,vi x.id,.string x.name,vi x.flow,vi x.at_]
abbrev cZ.val(x:cZ):aj:=.agg #[vi x.code,vi x.id,.string x.name,vi x.flow,vi x.at_]
theorem afk{G:GH}{x:cZ}{cs:List aj}(h:bg G x.dat cs):cs=x.cells:=by
 simp only[cZ.dat,bg,av]at h
 obtain⟨_,_,rfl,⟨rfl,_⟩,_,_,rfl,⟨rfl,_⟩,_,_,rfl,⟨rfl,_⟩,_,_,rfl,⟨rfl,_⟩,_,_,rfl,⟨rfl,_⟩,rfl⟩:=h
 rfl
theorem atN(G:GH)(x:cZ):bg G x.dat x.cells :=
 ⟨_,_,rfl,⟨rfl,rfl⟩,_,_,rfl,⟨rfl,rfl⟩,_,_,rfl,⟨rfl,rfl⟩,_,_,rfl,⟨rfl,rfl⟩,_,_,rfl,⟨rfl,rfl⟩,rfl⟩
mutual
def sP(g:Int)(t:Nat):ah->List cZ
 |.mk k c i tx _ f r=>(if k=8 then[⟨c,i,tx,g,(t:Int)⟩]else[])++((if k=6 then cB i 0 f else[])++(if k=7 then jT r else[]))
/-- The anchors of a flow, and of those in it, in document order. -/
def cB(g:Int):Nat->List ah->List cZ
 |_,[]=>[]
 |t,x::l=>sP g t x++cB g (t+n1 x) l
def jT:List aN->List cZ
 |[]=>[]
 |x::l=>wD x++jT l
def wD:aN->List cZ
 |.mk _ cs=>kU cs
def kU:List aP->List cZ
 |[]=>[]
 |x::l=>wC x++kU l
def wC:aP->List cZ
 |.mk i _ f=>cB i 0 f
end
theorem He(g:Int)(t:Nat)(x:ah):sP g t x=(if x.kind=8 then[⟨x.code,x.id,x.text,g,(t:Int)⟩]else[])++((if x.kind=6 then cB x.id 0 x.flow else[])++(if x.kind=7 then jT x.rows else[])):=by cases x;rw[sP];rfl
theorem aeS(x:aN):wD x=kU x.cells:=by cases x;rw[wD];rfl
theorem aeP(x:aP):wC x=cB x.id 0 x.flow:=by cases x;rw[wC];rfl
mutual
theorem ati(g:Int)(t:Nat):∀x:ah,(sP g t x).length<=bY x.dat
 |.mk k c i tx h fl r=>by
  have h4:=lY (.mk k c i tx h fl r);have hf:=DZ i 0 fl;have hr:=Yo r;dsimp only[ah.text,ah.head,ah.flow,ah.rows]at h4;rw[sP,gT,gT]
  split <;>split <;>split <;>simp only[lK,List.length_nil]<;>omega
theorem DZ(g:Int):∀(t:Nat)(l:List ah),(cB g t l).length<=aR l
 |_,[]=>by simp[cB]
 |t,x::l=>by
  have h1:=ati g t x;have h2:=DZ g (t+n1 x) l;rw[cB,gT]
  simp only[aR,dV,fE]at *;omega
theorem atj:∀x:aN,(wD x).length<=bY x.dat
 |.mk h cs=>by
  have h4:=zC (.mk h cs);have hc:=aeQ cs;dsimp only[aN.head,aN.cells]at h4;rw[wD];omega
theorem Yo:∀l:List aN,(jT l).length<=gB l
 |[]=>by simp[jT]
 |x::l=>by
  have h1:=atj x;have h2:=Yo l;rw[jT,gT]
  simp only[gB,dV,fE]at *;omega
theorem ath:∀x:aP,(wC x).length<=bY x.dat
 |.mk i h fl=>by
  have h4:=AU (.mk i h fl);have hf:=DZ i 0 fl;dsimp only[aP.head,aP.flow]at h4;rw[wC];omega
theorem aeQ:∀l:List aP,(kU l).length<=iU l
 |[]=>by simp[kU]
 |x::l=>by
  have h1:=ath x;have h2:=aeQ l;rw[kU,gT]
  simp only[iU,dV,fE]at *;omega
end
theorem acY(x:ah):n1 x+aR x.flow+gB x.rows<bY x.dat:=by
 have h1:=lY x;have h2:=Fu x.text
 unfold n1 bO
 split <;>first|omega|(split <;>omega)
def Jo(a:cZ):AP:=fun args _=>args=[a.val]
def SF(P:Program)(fv:aj)(Gi:GH)(xs:List AP)(J:Nat->GH->OL->Prop):Prop :=
 ∀k args G L w,zD xs k args G->(∀b o,Gi b=some o->G b=some o)->J k G L->fZ G L w->uN P fv args w (fG w G L fun _ G' L'=>J (k+1) G' L')
section
abbrev uH(p:Int×Int):aj:=.agg #[vi p.1,vi p.2]
def nP:Nat->List ((Int×Int)×aj)->List MapEntry
 |_,[]=>[]
 |i,(k,v)::r=>⟨uH k,v,i⟩::nP (i+1) r
theorem aoy(x:(Int×Int)×aj):∀(i:Nat)(l:List ((Int×Int)×aj)),nP i (l++[x])=nP i l++[⟨uH x.1,x.2,i+l.length⟩]
 |_,[]=>rfl
 |i,k::r=>by
  rw[jl,nP,aoy x (i+1) r,nP,jl,lK,show i+1+r.length=i+(r.length+1) by omega]
def qB(x:Int×Int):List ((Int×Int)×aj)->Option aj
 |[]=>none
 |(k,v)::r=>if k=x then some v else qB x r
theorem aqe{P:Program}{kt:TypeId}(he:ET P kt [0,1])(w:World)(p q:Int×Int):(Op.equal kt (uH p)<|uH q).run P w=.ok (decide<|p=q) w:=by
 have h1:=adz (P:=P) (w:=w) (d:=9998) (xs:=#[vi p.1,vi p.2]) (ys:=#[vi q.1,vi q.2]) _ he.ok (by rw[he.yR];rfl)
 rw[he.yR]at h1
 have h2:=run_equalIn_struct w 9999 kt #[vi p.1,vi p.2] #[vi q.1,vi q.2] he.und he.held
 show(Op.equalIn 10000 kt (uH p)<|uH q).run P w=_
 rw[h2,h1]
 congr 1
 obtain⟨a,b⟩:=p
 obtain⟨c,d⟩:=q
 rw[zL]
 simp[lq]
theorem ady{P:Program}{kt:TypeId}(he:ET P kt [0,1])(w:World)(e:Bool)(p:Int×Int):(Instr.checkKey e 10000 kt<|uH p).run P w=.ok () w:=by
 show(Instr.checkKey e (9999+1) kt<|uH p).run P w=_
 have hok:=he.ok
 have hfl:=he.yR
 rw[Instr.checkKey]
 simp only[dP,run_underlying he.und,kY]
 rw[<-Array.forIn_toList]
 have hall:∀f∈(P.fieldsOf kt).toList,f.name≠ "_"∧P.plainKey f.type=true∧P.underlying f.type=some (.int .i64)∧∃m,(#[vi p.1,vi p.2]:Array aj)[f.offset]?=some (.int .i64 m):=by
  intro f hf
  have h1:=lM.1 hok f hf
  simp only[kV,qm]at h1
  refine⟨h1.1.1,h1.1.2,?_,?_⟩
  ·have h2:=h1.2
   unfold RB at h2
   split at h2
   ·assumption
   ·cases h2
  ·have:f.offset∈[0,1]:=by rw[<-hfl];exact List.mem_map_of_mem hf
   simp only[iL,List.not_mem_nil,or_false]at this
   rcases this with h|h
   ·rw[h];exact⟨p.1,M⟩
   ·rw[h];exact⟨p.2,M⟩
 clear hok hfl
 generalize(P.fieldsOf kt).toList=fs at hall
 induction fs with
 |nil=>simp
 |cons f fs ih=>
  obtain⟨hn,hp,hu,m,hm⟩:=hall f fJ
  have p1:=run_part_plain w hp hm
  have p2:=MapKept.run_checkKey (P:=P) (w:=w) (k:=.int .i64 m) hu (by trivial) e 9998
  simp only[List.forIn_cons,dP,hn,ne_eq,not_false_eq_true,if_true,kY,p1,p2,rO]
  exact ih fun y hy=>hall y<|gH _ hy
theorem aqf{P:Program}{kt:TypeId}(he:ET P kt [0,1])(w:World)(x:Int×Int):∀(i j:Nat)(l:List ((Int×Int)×aj)),∃an,(Instr.findAsking kt (uH x) (nP i l) j).run P w=.ok an w∧an.map (·.2)=qB x l
 |_,_,[]=>⟨none,by simp[nP,Instr.findAsking],M⟩
 |i,j,(k,v)::r=>by
  obtain⟨an,h1,h2⟩:=aqf he w x (i+1) (j+1) r
  by_cases e:k=x
  ·subst e
   exact⟨some (j,v),by simp[nP,Instr.findAsking,aqe he,dP],by rw[qB,ay M];rfl⟩
  ·exact⟨an,by simp[nP,Instr.findAsking,aqe he,dP,show¬x=k from fun h=>e h.symm,h1],by rw[qB,au e];exact h2⟩
theorem aAa{P:Program}{kt:TypeId}(he:ET P kt [0,1])(x:aj):∀(l:List MapEntry)(j:Nat),l≠[]->Instr.findNow (.struct<|P.fieldsOf kt) x l j=none
 |[],_,h=>absurd M h
 |e::l,j,_=>by simp[Instr.findNow,Instr.sameNow]
theorem adB{P:Program}{kt:TypeId}(he:ET P kt [0,1])(w:World)(x:Int×Int)(l:List ((Int×Int)×aj)):∃an,(Instr.findKey kt (uH x)<|nP 0 l).run P w=.ok an w∧an.map (·.2)=qB x l:=by
 obtain⟨an,h1,h2⟩:=aqf he w x 0 0 l
 refine⟨an,?_,h2⟩
 unfold Instr.findKey
 simp only[dP,run_underlying he.und,kY]
 cases l with
 |nil=>simp only[nP,Instr.findAsking]at h1|-;simpa[Instr.findNow]using h1
 |cons y l=>
  rw[aAa he _ _ _ (by obtain⟨k,v⟩:=y;simp[nP])]
  exact h1
abbrev Iz(l:List ((Int×Int)×aj)):Obj:=.map (nP 0 l).toArray l.length
section
variable{N:Nat}{D:List Deferred}{w0:World}{F:Nat->Prop}{G0 G:GH}{L:OL}{T:List (Nat×aj)}
variable{r:Option Nat}{P:Program}{ops:Array Oper}{Q:Exit->Act->World->Prop}{rest:List Oper}{a:Act}{w:World}
variable{d:Nat}{ty:TypeId}{pos:String}{aT:Array Edge}{g:Option (Nat×Bool)}
theorem aG3{t kt et:TypeId}{x y:Operand}{b:Nat}{l:List ((Int×Int)×aj)}{ky:Int×Int}{zv:aj}(hm:P.underlying t=some (.map kt et))(he:ET P kt [0,1])(hz:(P.info? et).map (fun i=>i.zero)=some (some zv))(H:St N D w0 F G0 G L T a w)
  (hw:Region.wanted ⟨some d,.lookup t x y false,ty,pos,aT,g⟩ (yielded ops a.tmps)=true)(hx:ev T x=some (.map<|some b))(hy:ev T y=some (uH ky))(hb:w.heap[b]?=some (Iz l))(hd:Nat.blt d N=true)
  (k:∀a',St N D w0 F G0 G L ((d,(qB ky l).getD zv)::T) a' w->WL r P ops Q rest a' w):WL r P ops Q (⟨some d,.lookup t x y false,ty,pos,aT,g⟩::rest) a w:=by
 obtain⟨an,h2,han⟩:=adB he w ky l
 obtain⟨inf,hi1,hi2⟩:=nK.1 hz
 refine fH (v:=(qB ky l).getD zv) (w':=w) hw M ?_<|k _<|H.put hd _ H.hp
 have h1:=ady he w (nP 0 l).toArray.isEmpty ky
 replace hb:w.heap[b]?=some (.map (nP 0 l).toArray l.length):=hb
 have h2':(Instr.findKey kt (uH ky) (nP 0 l).toArray.toList).run P w=.ok an w:=by simpa using h2
 generalize(nP 0 l).toArray=es at hb h1 h2'
 rw[<-han]
 cases an with
 |none=>simp[execOp,Instr.lookup,H.ev hx,H.ev hy,dP,lV hm,MapKept.run_getObj_map hb,h1,h2',Result.andThen,zeroValue,EA hi1,hi2]
 |some q=>simp[execOp,Instr.lookup,H.ev hx,H.ev hy,dP,lV hm,MapKept.run_getObj_map hb,h1,h2',Result.andThen]
theorem aqo{t kt et:TypeId}{x y:Operand}{b:Nat}{l:List ((Int×Int)×aj)}{ky:Int×Int}{zv:aj}(hm:P.underlying t=some (.map kt et))(he:ET P kt [0,1])(hz:(P.info? et).map (fun i=>i.zero)=some (some zv))(H:St N D w0 F G0 G L T a w)
  (hw:Region.wanted ⟨some d,.lookup t x y true,ty,pos,aT,g⟩ (yielded ops a.tmps)=true)(hx:ev T x=some (.map<|some b))(hy:ev T y=some (uH ky))(hb:w.heap[b]?=some (Iz l))(hd:Nat.blt d N=true)
  (k:∀a',St N D w0 F G0 G L ((d,.tuple #[(qB ky l).getD zv,.bool (qB ky l).isSome])::T) a' w->WL r P ops Q rest a' w):WL r P ops Q (⟨some d,.lookup t x y true,ty,pos,aT,g⟩::rest) a w:=by
 obtain⟨an,h2,han⟩:=adB he w ky l
 obtain⟨inf,hi1,hi2⟩:=nK.1 hz
 refine fH (v:=.tuple #[(qB ky l).getD zv,.bool (qB ky l).isSome]) (w':=w) hw M ?_<|k _<|H.put hd _ H.hp
 have h1:=ady he w (nP 0 l).toArray.isEmpty ky
 replace hb:w.heap[b]?=some (.map (nP 0 l).toArray l.length):=hb
 have h2':(Instr.findKey kt (uH ky) (nP 0 l).toArray.toList).run P w=.ok an w:=by simpa using h2
 generalize(nP 0 l).toArray=es at hb h1 h2'
 rw[<-han]
 cases an with
 |none=>simp[execOp,Instr.lookup,H.ev hx,H.ev hy,dP,lV hm,MapKept.run_getObj_map hb,h1,h2',Result.andThen,zeroValue,EA hi1,hi2]
 |some q=>simp[execOp,Instr.lookup,H.ev hx,H.ev hy,dP,lV hm,MapKept.run_getObj_map hb,h1,h2',Result.andThen]
theorem aG8{t kt et:TypeId}{x y z:Operand}{b i:Nat}{l:List ((Int×Int)×aj)}{ky:Int×Int}{v:aj}(hm:P.underlying t=some (.map kt et))(he:ET P kt [0,1])(H:St N D w0 F G0 G L T a w)
  (hw:Region.wanted ⟨none,.mapUpdate t x y z,ty,pos,aT,g⟩ (yielded ops a.tmps)=true)(hx:ev T x=some (.map<|some b))(hy:ev T y=some (uH ky))(hzv:ev T z=some v)(hi:L[i]?=some (b,Iz l))(hn:qB ky l=none)
  (k:∀w',St N D w0 F G0 G (L.set i (b,Iz<|l++[(ky,v)])) T a w'->WL r P ops Q rest a w'):WL r P ops Q (⟨none,.mapUpdate t x y z,ty,pos,aT,g⟩::rest) a w:=by
 obtain⟨an,h2,han⟩:=adB he w ky l
 have hnone:an=none:=by
  rw[hn]at han
  cases an with
  |none=>rfl
  |some q=>cases han
 subst hnone
 have hb:w.heap[b]?=some (.map (nP 0 l).toArray l.length):=H.hp.own _<|lZ hi
 have h1:=ady he w false ky
 have h2':(Instr.findKey kt (uH ky) (nP 0 l).toArray.toList).run P w=.ok none w:=by simpa using h2
 have e:(nP 0 l).toArray.push ⟨uH ky,v,l.length⟩=(nP 0<|l++[(ky,v)]).toArray:=by
  rw[aoy,List.push_toArray,fB]
 refine Xz (w':={ w with heap:=w.heap.setIfInBounds b (.map ((nP 0 l).toArray.push ⟨uH ky,v,l.length⟩)<|l.length+1) }) hw M ?_ ?_
 ·generalize(nP 0 l).toArray=es at hb h2'
  simp[execOp,Instr.mapUpdate,H.ev hx,H.ev hy,H.ev hzv,dP,lV hm,MapKept.run_getObj_map hb,h1,h2',MapKept.run_setObj_map _ hb,Result.andThen]
 ·refine k _ ?_
  have H':=H.move<|H.hp.upd hi<|Xv (o:=.map ((nP 0 l).toArray.push ⟨uH ky,v,l.length⟩)<|l.length+1) hb
  rw[e]at H'|-
  rw[Iz,gT]
  exact H'
end
end
theorem NK{f t:Int}{L:List eU}(h:xw f t L):f∈L.map eU.id:=by
 obtain⟨F,hF,rfl,-⟩:=h;exact List.mem_map_of_mem hF
theorem aaY{g:Int}{at_:Nat}{l:List ah}(h:eT l){p:Int×Int}(hp:p∈AQ g at_ l):(g=p.1∧(at_:Int)<=p.2)∨p.1∈gQ l:=by
 rcases(V6 g at_ false 0 p.1 p.2 l h).1 hp with⟨h1,h2,-⟩|h1
 ·exact .inl ⟨h1,h2⟩
 exact .inr ((Sn false 0 l).subset<|NK h1)
theorem aAF{g:Int}{at_:Nat}{x:ah}(h:AX x){p:Int×Int}(hp:p∈I6 g at_ x):(g=p.1∧p.2<at_+bO x)∨p.1∈qL x:=by
 rcases(aoA g at_ false 0 p.1 p.2 x h).1 hp with⟨h1,-,h2⟩|h1
 ·exact .inl ⟨h1,h2⟩
 exact .inr ((ash false 0 x).subset<|NK h1)
theorem alG{l:List aN}(h:∀r∈l,∀c∈r.cells,eT c.flow){p:Int×Int}(hp:p∈xg l):p.1∈oh l:=(aes false 0 l).subset<|NK ((acX false 0 p.1 p.2 l h).1 hp)
theorem aAG{x:aN}(h:∀c∈x.cells,eT c.flow){p:Int×Int}(hp:p∈I7 x):p.1∈wQ x:=(asi false 0 x).subset<|NK ((mem_row false 0 p.1 p.2 x h).1 hp)
theorem aAE{l:List aP}(h:∀c∈l,eT c.flow){p:Int×Int}(hp:p∈DL l):p.1∈oM l:=(aer false 0 l).subset<|NK ((acW false 0 p.1 p.2 l h).1 hp)
theorem aAD{x:aP}(h:eT x.flow){p:Int×Int}(hp:p∈I5 x):p.1∈wP x:=(asf false 0 x).subset<|NK ((aoz false 0 p.1 p.2 x h).1 hp)
theorem Wn(g:Int)(a:Nat):∀u:Nat,((List.range u).map fun q=>(g,((a+q:Nat):Int))).Nodup
 |0=>List.nodup_nil
 |u+1=>by
  rw[List.range_succ,iy,List.nodup_append];refine⟨Wn g a u,by simp,fun p hp q hq=>?_⟩;obtain⟨i,hi,rfl⟩:=List.mem_map.1 hp;have hi:=qo.1 hi
  simp only[dV,ug,oH]at hq
  subst hq;intro e
  injection e with _ e
  omega
mutual
theorem aE9(g:Int)(at_:Nat):∀x:ah,AX x->(qL x).Nodup->g∉qL x->(I6 g at_ x).Nodup
 |.mk k c i tx h fl r,hx,hn,hg=>by
  have hf:=Wm i 0 fl hx.fl;have hr:=aoN r hx.rw;have h0:=hx.R3;have hxf:eT fl:=hx.fl;have NI:∀q∈r,∀c∈q.cells,eT c.flow:=hx.rw
  simp only[ah.kind,ah.rows]at h0
  rw[qL]at hn hg;rw[I6]
  by_cases h6:k=6
  ·rw[ay (.inl h6),ay h6,au (show¬k=7 by omega),iR]at hn hg;rw[ay h6,h0 O,xg,iR]
   simp only[jl,fQ,List.nodup_cons,iL,not_or]at hn hg
   rw[List.nodup_append];refine⟨Wn _ _ _,hf hn.2 hn.1,fun p hp q hq e=>?_⟩;subst e;obtain⟨j,-,rfl⟩:=List.mem_map.1 hp
   rcases aaY hxf hq with⟨h1,-⟩|h1
   ·exact hg.1 h1.symm
   exact hg.2 h1
  rw[au h6,fQ]
  by_cases h7:k=7
  ·rw[ay (.inr h7),au h6,ay h7,fQ]at hn hg
   simp only[jl,fQ,List.nodup_cons,iL,not_or]at hn hg
   rw[List.nodup_append];refine⟨Wn _ _ _,hr hn.2,fun p hp q hq e=>?_⟩;subst e;obtain⟨j,-,rfl⟩:=List.mem_map.1 hp;exact hg.2 (alG NI hq)
  rw[h0 h7,xg,iR];exact Wn _ _ _
theorem Wm(g:Int)(at_:Nat):∀l:List ah,eT l->(gQ l).Nodup->g∉gQ l->(AQ g at_ l).Nodup
 |[],_,_,_=>by rw[AQ];simp
 |x::l,hl,hn,hg=>by
  obtain⟨hx,hl⟩:=hl.head;rw[gQ,List.nodup_append]at hn;rw[gQ,iF,not_or]at hg;rw[AQ,List.nodup_append];refine⟨aE9 g at_ x hx hn.1 hg.1,Wm g (at_+n1 x) l hl hn.2.1 hg.2,fun p hp q hq e=>?_⟩;subst e
  rcases aAF hx hp with⟨h1,h2⟩|h1
  ·rcases aaY hl hq with⟨h3,h4⟩|h3
   ·rw[hx.n1]at h4;push_cast at h4;omega
   exact hg.2 (h1 ▸ h3)
  rcases aaY hl hq with⟨h3,h4⟩|h3
  ·exact hg.1 (h3 ▸ h1)
  exact hn.2.2 _ h1 _ h3 M
theorem aFa:∀x:aN,(∀c∈x.cells,eT c.flow)->(wQ x).Nodup->(I7 x).Nodup
 |.mk h cs,hx,hn=>by
  rw[wQ]at hn;rw[I7];exact aoM cs hx hn
theorem aoN:∀l:List aN,(∀r∈l,∀c∈r.cells,eT c.flow)->(oh l).Nodup->(xg l).Nodup
 |[],_,_=>by rw[xg];exact List.nodup_nil
 |x::l,hx,hn=>by
  rw[oh,List.nodup_append]at hn;rw[xg,List.nodup_append];exact⟨aFa x (hx x fJ) hn.1,aoN l (fun r hr=>hx r (gH _ hr)) hn.2.1,fun p hp q hq e=>hn.2.2 _ (aAG (hx x fJ) hp) _ (alG (fun r hr=>hx r (gH _ hr)) hq) (by rw[e])⟩
theorem aE8:∀x:aP,eT x.flow->(wP x).Nodup->(I5 x).Nodup
 |.mk i h fl,hx,hn=>by
  rw[wP,List.nodup_cons]at hn;rw[I5];exact Wm i 0 fl hx hn.2 hn.1
theorem aoM:∀l:List aP,(∀c∈l,eT c.flow)->(oM l).Nodup->(DL l).Nodup
 |[],_,_=>by rw[DL];exact List.nodup_nil
 |x::l,hx,hn=>by
  rw[oM,List.nodup_append]at hn;rw[DL,List.nodup_append];exact⟨aE8 x (hx x fJ) hn.1,aoM l (fun r hr=>hx r (gH _ hr)) hn.2.1,fun p hp q hq e=>hn.2.2 _ (aAD (hx x fJ) hp) _ (aAE (fun r hr=>hx r (gH _ hr)) hq) (by rw[e])⟩
end
theorem zH.vnd{l:List ah}(h:zH l):(AQ 0 0 l).Nodup:=Wm 0 0 l h.ok h.nd fun hm=>by have:=h.pos _ hm;omega
theorem cZ.eq_iff(a b:cZ):(a.code=b.code∧a.id=b.id∧a.name=b.name∧a.flow=b.flow∧a.at_=b.at_)↔a=b:=by cases a;cases b;simp
instance:DecidableEq cZ:=fun a b=>decidable_of_iff _ (cZ.eq_iff a b)
def mH(l:List cZ)(c i:Int):Option cZ:=l.find? fun a=>decide (a.code=c∧a.id=i)
theorem alH{l:List cZ}{k:Nat}(hk:k<l.length)(c i:Int):mH (l.take<|k+1) c i=(mH (l.take k) c i).or (if l[k].code=c∧l[k].id=i then some l[k]else none):=by
 unfold mH
 rw[ji hk,List.find?_append,List.find?_cons,List.find?_nil]
 by_cases h:l[k].code=c∧l[k].id=i
 ·rw[ay h,kZ h]
 rw[au h,mE h]
theorem aon(p q:Int×Int)(v:aj):∀l:List ((Int×Int)×aj),qB p (l++[(q,v)])=(qB p l).or (if q=p then some v else none)
 |[]=>by
  by_cases h:q=p
  ·simp[qB,h]
  simp[qB,h]
 |(k,u)::r=>by
  rw[jl,qB,qB]
  by_cases h:k=p
  ·rw[ay h,ay h];rfl
  rw[au h,au h];exact aon p q v r
def zF(acc:List ((Int×Int)×aj))(l:List cZ):Prop:=∀p:Int×Int,qB p acc=(mH l p.1 p.2).map cZ.val
theorem zF.nil:zF [] []:=fun _=>rfl
theorem zF.new{acc:List ((Int×Int)×aj)}{l:List cZ}{k:Nat}(h:zF acc (l.take k))(hk:k<l.length)(hn:qB (l[k].code,l[k].id) acc=none):zF (acc++[((l[k].code,l[k].id),l[k].val)]) (l.take<|k+1):=by
 intro p;rw[aon,h p,alH hk]
 by_cases e:(l[k].code,l[k].id)=p
 ·subst e;rw[ay M,ay ⟨M,M⟩];rw[h]at hn
  cases hf:mH (l.take k) l[k].code l[k].id with
  |none=>rfl
  |some x=>rw[hf]at hn;cases hn
 rw[au e,au<|fun h=>e<|Prod.ext h.1 h.2]
 cases mH (l.take k) p.1 p.2<;>rfl
theorem zF.old{acc:List ((Int×Int)×aj)}{l:List cZ}{k:Nat}(h:zF acc (l.take k))(hk:k<l.length)(hn:(qB (l[k].code,l[k].id) acc).isSome=true):zF acc (l.take<|k+1):=by
 intro p;rw[h p,alH hk]
 by_cases e:l[k].code=p.1∧l[k].id=p.2
 ·rw[h,Option.isSome_map]at hn;rw[e.1,e.2]at hn;obtain⟨x,hx⟩:=Option.isSome_iff_exists.1 hn;rw[hx];rfl
 rw[au e,Option.or_none]
structure lI where
 id:Int
 name:ByteArray
 ff:Int
 fa:Int
 tf:Int
 ta:Int
def lI.dat(x:lI):List Dat:=[li x.id,.lf (.string x.name),li x.ff,li x.fa,li x.tf,li x.ta]
abbrev lI.cells(x:lI):List aj:=[vi x.id,.string x.name,vi x.ff,vi x.fa,vi x.tf,vi x.ta]
theorem aqQ{G:GH}{x:lI}{cs:List aj}(h:bg G x.dat cs):cs=x.cells:=by
 simp only[lI.dat,bg,av]at h
 exact agG
theorem aqR(G:GH)(x:lI):bg G x.dat x.cells :=
 ⟨_,_,rfl,⟨rfl,rfl⟩,_,_,rfl,⟨rfl,rfl⟩,_,_,rfl,⟨rfl,rfl⟩,_,_,rfl,⟨rfl,rfl⟩,_,_,rfl,⟨rfl,rfl⟩,_,_,rfl,⟨rfl,rfl⟩,rfl⟩
def Cq(l:List cZ)(c:Int)(a:cZ):Int×Int:=match mH l (c+1) a.id with
 |some e=>if e.flow=a.flow∧a.at_<e.at_ then(e.flow,e.at_)else(a.flow,a.at_+1)
 |none=>(a.flow,a.at_+1)
def zx(l:List cZ)(c:Int)(a:cZ):lI:=⟨a.id,a.name,a.flow,a.at_+1,(Cq l c a).1,(Cq l c a).2⟩
def uZ(l:List cZ)(c:Int)(a:cZ):Bool:=decide (a.code=c∧mH l c a.id=some a)
def sI(l:List cZ)(c:Int):List lI:=(l.filter (uZ l c)).map (zx l c)
theorem aqP{l m:List cZ}{c:Int}{k:Nat}(hk:k<l.length):((l.take<|k+1).filter<|uZ m c).map (zx m c)=((l.take k).filter<|uZ m c).map (zx m c)++if uZ m c l[k]=true then[zx m c l[k]]else[]:=by
 rw[ji hk,List.filter_append,iy]
 congr 1
 by_cases h:uZ m c l[k]=true
 ·rw[ay h,List.filter_cons,ay h];rfl
 rw[au h,List.filter_cons,au h];rfl
mutual
theorem atX(g:Int)(t:Nat):∀x:ah,AX x->((sP g t x).map fun a=>(a.flow,a.at_)).Sublist (I6 g t x)
 |.mk k c i tx h fl r,hx=>by
  have hf:=Tm i 0 fl hx.fl;have hr:=afr r hx.rw;have h0:=hx.R3
  simp only[ah.kind,ah.rows]at h0
  rw[sP,I6,iy,iy];have hn:=hx.n1
  by_cases h8:k=8
  ·subst h8
   have hu:bO (.mk 8 c i tx h fl r)=1:=by unfold bO;rw[au (by simp[ah.kind])]
   rw[hn,hu,ay M,bQ,bQ,h0 O,xg,show List.range 1=[0]from rfl]
   simp
  rw[au h8,ug,fQ];refine List.Sublist.trans ?_ (List.sublist_append_right _ _)
  by_cases h6:k=6
  ·rw[ay h6,ay h6,bQ,ug,iR];exact hf.trans (List.sublist_append_left _ _)
  rw[au h6,au h6,ug,fQ,fQ]
  by_cases h7:k=7
  ·rw[ay h7];exact hr
  rw[au h7];exact List.nil_sublist _
theorem Tm(g:Int):∀(t:Nat)(l:List ah),eT l->((cB g t l).map fun a=>(a.flow,a.at_)).Sublist (AQ g t l)
 |_,[],_=>by rw[cB];exact List.nil_sublist _
 |t,x::l,hl=>by
  obtain⟨hx,hl⟩:=hl.head;rw[cB,AQ,iy,hx.n1];have h2:=Tm g (t+n1 x) l hl;rw[hx.n1]at h2;exact(atX g t x hx).append h2
theorem afr:∀l:List aN,(∀r∈l,∀c∈r.cells,eT c.flow)->((jT l).map fun a=>(a.flow,a.at_)).Sublist (xg l)
 |[],_=>by rw[jT];exact List.nil_sublist _
 |x::l,h=>by
  rw[jT,xg,iy];exact(atY x (h x fJ)).append (afr l fun r hr=>h r (gH _ hr))
theorem atY:∀x:aN,(∀c∈x.cells,eT c.flow)->((wD x).map fun a=>(a.flow,a.at_)).Sublist (I7 x)
 |.mk hd cs,h=>by rw[wD,I7];exact afq cs h
theorem afq:∀l:List aP,(∀c∈l,eT c.flow)->((kU l).map fun a=>(a.flow,a.at_)).Sublist (DL l)
 |[],_=>by rw[kU];exact List.nil_sublist _
 |x::l,h=>by
  rw[kU,DL,iy];exact(atW x (h x fJ)).append (afq l fun r hr=>h r (gH _ hr))
theorem atW:∀x:aP,eT x.flow->((wC x).map fun a=>(a.flow,a.at_)).Sublist (I5 x)
 |.mk i hd fl,h=>by rw[wC,I5];exact Tm i 0 fl h
end
theorem aal:aW 142:=aX func142 M
theorem aqU:sO prog 134 [(0,1),(1,1),(2,1),(3,2)] [.int .i64 0,.int .i64 0,.string ⟨#[]⟩,.int .i64 0,.int .i64 0]:=⟨V,V⟩
theorem UF:aW 62:=aX func62 M
def XK(n:Nat):Prop:=∀(fv:aj)(Gi:GH)(xs:List AP)(J:Nat->GH->OL->Prop)(G:GH)(L:OL)(w0:World)(j:Nat)(g:Int)(l:List ah)(v:aj),
 (∀b o,Gi b=some o->G b=some o)->SF prog fv Gi xs J->GX J->J j G L->fZ G L w0->av G (.sl 11 (l.map ah.dat)) v->eT l->aR l<n->(∀i a,(cB g 0 l)[i]?=some a->xs[j+i]?=some (Jo a))->
 Calls prog 142 #[vi g,v,fv] w0 (fG w0 G L fun _ G' L'=>J (j+(cB g 0 l).length) G' L')
set_option maxHeartbeats 4000000 in
theorem aua{n:Nat}(ih:XK n)(hn:n<=4294967296):XK (n+1):=by
 intro fv Gi xs J G L w0 j0 g l v hGi hcb wK hJ0 hO hv hok hz hx0;obtain⟨A,c,rfl,hc1,hc2,hg⟩:=hv.slice;rw[bM]at *;have hll:=wo l;have hml:maxLen=9223372036854775807:=rfl;refine iY (N:=83) (T:=[(0,_),(1,_),(2,_)]) func142 M ntmps142 M M hO ?_;intro a H;refine kP H<|SR fun _ K1=>ak K1 M<|SR fun _ K2=>Rm M<|Rl dM M<|Rm M<|Kz K2<|SB ?_;clear H K1 K2;intro a H;skip;refine dY (ι:=Nat×Nat×Nat×OL×GH) (Tc:=[(0,_),(1,_),(2,_),(15,_),(16,_)]) (Lc:=[]) (fun gh=>[(6,vi gh.2.1),(17,vi gh.1)]) (fun gh=>[]++gh.2.2.2.1) (fun gh=>gh.2.2.2.2) (fun gh=>gh.1<=l.length∧(∀b o,G b=some o->gh.2.2.2.2 b=some o)∧eT (l.drop gh.1)∧gh.2.1+aR (l.drop gh.1)<=4294967297∧Now xs Jo J (j0+(cB g 0 l).length) gh.2.2.1 (cB g gh.2.1<|l.drop gh.1) gh.2.2.2.2 gh.2.2.2.1) (fun gh=>l.length-gh.1) ((0,0,j0,L,G)) (by exact H.sub ⟨M,M,M,M,M,M,M,aC⟩) ?_ ?_
 ·exact⟨O,fun _ _ h=>h,hok,by dsimp only;rw[xI];omega,⟨hJ0,hx0,rfl⟩⟩
 clear H;rintro⟨k,t,j,Lt,g1⟩ a w hI H;dsimp only at hI H;obtain⟨hk,hgm,hok1,hat,gy⟩:=hI;dsimp only[lca,bq]at H;refine kP H (SR fun _ K1=>Rc M<|Kz K1<|SQ fun _ K2=>Cd M ?_ ?_)<;>clear H K1
 ·intro h18 a H
  try have pU:=dT h18
  have hk2:k<l.length:=by omega
  obtain⟨b,o,pA,pn,pc,dA,dn,dc,yA,yn,yc,fA,fn,fc,rA,rn,rc,rfl,hrow,hhd,hfl,hrw⟩:=vI hk2 hg;replace hrow:=fun j u hj=>aH hgm<|hrow j u hj;replace hfl:=hfl.mono hgm;replace hrw:=hrw.mono hgm;have hpart:=(hv.mono hgm).part k (k+1) O (by rw[bM];omega)
  have he1:((l.map ah.dat).drop k).take 1=[l[k]].map ah.dat:=by rw[mg (by simpa using hk2)];simp
  have hc3:¬c=k:=by omega
  have hrn:=hrw.len;rw[bM]at hrn;subst hrn;have hzs:=asy hk2;have hzi:=lY l[k];have KA:=I8<|ig hk2;have FX:=acY l[k];rw[mg hk2]at hok1 gy;obtain⟨hox,hok2⟩:=hok1.head;have hn1:=hox.n1;rw[cB,He]at gy;obtain⟨x,hx⟩:∃x,x=l[k]:=⟨_,M⟩;rw[<-hx]at gy hox hrow hhd hfl hrw hzs hzi KA FX he1 hn1;have hrl:=ER x.rows;refine kP H<|Kc K2<|SQ fun _ K1=>SB<|SR fun _ K3=>Rm M<|Ri dM bL M M ?_;clear H K2;intro a H;refine aY bL (cs:=[_,_,_,_,_,_,_,_,_,_,_]) H wn M M (fun j v hj=>H.hp.aJ<|hrow j v hj) M ?_;clear H;intro a H;refine dK bL H wn M ?_;clear H;intro b8 a w Ee H;refine kH H<|Ra M ?_;clear H;intro a H;refine bH bL 0 (vs:=[_,_,_,_,_,_,_,_,_,_,_]) H wn M ?_;clear H;intro w H;refine K3 _ _ ?_;clear K3;refine rQ (ι:=Nat×OL×GH) (Tc:=[(0,_),(1,_),(2,_),(6,_),(7,_),(15,_),(16,_),(17,_)]) (Lc:=[(_,_)]) (fun gh=>[]) (fun gh=>[]++gh.2.1) (fun gh=>gh.2.2) (fun gh=>(∀b o,g1 b=some o->gh.2.2 b=some o)∧Now xs Jo J (j0+(cB g 0 l).length) gh.1 (cB g (t+n1 x)<|l.drop<|k+1) gh.2.2 gh.2.1) (by exact H.sub ⟨M,M,M,M,M,M,M,M,aC⟩) ?_ ?_
  ·skip;refine kP H (SR fun _ K2=>aV iW aF 0 M M<|Kz K2<|SB<|SR fun _ K3=>Rc M<|ak K3 M<|Cd M ?_ ?_)<;>clear H K2 K3
   ·intro eY a H
    try have pW:=dT eY
    rw[ay pW,bQ,bQ]at gy
    simp only[jl,fQ]at gy
    refine kP H<|SC<|Rm M<|aV Fy aF 0 M M<|aV yO aF 0 M M<|aV pE gN 0 M M<|Rm M<|Rm M ?_;clear H;intro a H;refine jM Sb [_,_] H wn M M M M ?_;clear H;intro a H;refine jM aqU [_,_,_,_,_] H wn M M M M ?_;clear H;intro a H;refine BM (Li:=[_]) (L:=Lt) H wn M M (hcb _ _ _ _ _ ⟨_,gy.head,M⟩ (fun b o h=>hgm b o<|hGi b o h) gy.now<|Hp.owns (Li:=[_]) H.hp) M ?_;clear H;intro v37 XP atb a w aBp QO H;have pK:=gy.step aBp;refine aI ?_;refine⟨(j+1,atb,XP),by exact H.sub ⟨M,M,M,M,M,M,M,M,aC⟩,?_⟩;(try dsimp only);exact⟨QO,pK⟩
   intro eY a H
   try have pW:=dF eY
   rw[au pW,fQ,iG]at gy;refine kP H (SR fun _ K2=>Rc M<|ak K2 M<|Cd M ?_ ?_)<;>clear H K2
   ·intro jF a H
    try have p38:=dT jF
    rw[ay p38,bQ,fQ]at gy;refine kP H<|SC<|aV yO aF 0 M M<|aV uU eG 0 M M<|Rm M ?_;clear H;intro a H;refine gM aal (Li:=[_]) (L:=Lt) H wn M (ih fv Gi xs J _ _ _ j x.id x.flow _ (fun b o h=>hgm b o<|hGi b o h) hcb wK gy.now (Hp.owns (Li:=[_]) H.hp) hfl hox.fl O gy.part) M ?_;clear H;intro v45 SL atc a w aBr Ig H;have pK:=gy.jump aBr;refine aI ?_;refine⟨(j+(cB x.id 0 x.flow).length,atc,SL),by exact H.sub ⟨M,M,M,M,M,M,M,M,aC⟩,?_⟩;(try dsimp only);exact⟨Ig,pK⟩
   intro jF a H
   try have p38:=dF jF
   rw[au p38,fQ]at gy;refine kP H (SR fun _ K2=>Rc M<|ak K2 M<|Cd M ?_ ?_)<;>clear H K2
   ·intro h46 a H
    try have p46:=dT h46
    rw[ay p46]at gy;refine kP H<|SR fun _ K2=>aV mZ lX 0 M M<|Rl jI M<|Rm M<|Kz K2<|SB ?_;clear H K2;intro a H;skip;refine dY (ι:=Nat×Nat×OL×GH) (Tc:=[(0,_),(1,_),(2,_),(6,_),(7,_),(15,_),(16,_),(17,_),(49,_),(50,_)]) (Lc:=[(_,_)]) (fun gh=>[(51,vi gh.1)]) (fun gh=>[]++gh.2.2.1) (fun gh=>gh.2.2.2) (fun gh=>gh.1<=x.rows.length∧(∀b o,g1 b=some o->gh.2.2.2 b=some o)∧Now xs Jo J (j0+(cB g 0 l).length) gh.2.1 (jT (x.rows.drop gh.1)++cB g (t+n1 x) (l.drop<|k+1)) gh.2.2.2 gh.2.2.1) (fun gh=>x.rows.length-gh.1) ((0,j,Lt,g1)) (by exact H.sub ⟨M,M,M,M,M,M,M,M,M,M,M,aC⟩) ?_ ?_
    ·exact⟨O,fun _ _ h=>h,gy⟩
    clear H;rintro⟨rk,j3,Lt3,g3⟩ a w hI H;dsimp only at hI H;obtain⟨Im,hg3,pK⟩:=hI;dsimp only[lca,bq]at H;refine kP H (SR fun _ K2=>Rc M<|Kz K2<|SQ fun _ K3=>Cd M ?_ ?_)<;>clear H K2
    ·intro kE a H
     try have p52:=dT kE
     have hk3:rk<x.rows.length:=by omega
     obtain⟨b2,o2,qA,qn,qc,eA,en,ec,zA,zn,zc,cA,cn,cc,rfl,hrow,zk,hcl⟩:=Gg hk3 (hrw.mono hg3).at_;have hcn:=hcl.len;rw[bM]at hcn;subst hcn;have hsz2:=GL hk3;have hcs:=EP x.rows[rk].cells;have hoc:=hox.rw _ (ig hk3);rw[mg hk3]at pK
     simp only[jT,aeS,iG]at pK
     obtain⟨y,hy⟩:∃y,y=x.rows[rk]:=⟨_,M⟩;rw[<-hy]at pK hrow zk hcl hsz2 hcs hoc;refine kP H<|Kc K3<|SQ fun _ K2=>SB<|SR fun _ K4=>Ri jI iC M M ?_;clear H K3;intro a H;refine aY iC (cs:=[_,_,_,_,_,_]) H wn M M (fun j v hj=>H.hp.aJ<|hrow j v hj) M ?_;clear H;intro a H;refine dK iC H wn M ?_;clear H;intro b10 a w abn H;refine bH iC 0 (vs:=[_,_,_,_,_,_]) H wn M ?_;clear H;intro w H;refine K4 _ _ ?_;clear K4;refine kP H<|SR fun _ K3=>aV rT qD 0 M M<|Rl ko M<|Rm M<|Kz K3<|SB ?_;clear H K3;intro a H;skip;refine dY (ι:=Nat×Nat×OL×GH) (Tc:=[(0,_),(1,_),(2,_),(6,_),(7,_),(15,_),(16,_),(17,_),(49,_),(50,_),(51,_),(56,_),(57,_)]) (Lc:=[(_,_),(_,_)]) (fun gh=>[(58,vi gh.1)]) (fun gh=>[]++gh.2.2.1) (fun gh=>gh.2.2.2) (fun gh=>gh.1<=y.cells.length∧(∀b o,g3 b=some o->gh.2.2.2 b=some o)∧Now xs Jo J (j0+(cB g 0 l).length) gh.2.1 (kU (y.cells.drop gh.1)++(jT (x.rows.drop<|rk+1)++cB g (t+n1 x) (l.drop<|k+1))) gh.2.2.2 gh.2.2.1) (fun gh=>y.cells.length-gh.1) ((0,j3,Lt3,g3)) (by exact H.sub ⟨M,M,M,M,M,M,M,M,M,M,M,M,M,M,aC⟩) ?_ ?_
     ·exact⟨O,fun _ _ h=>h,pK⟩
     clear H;rintro⟨ck,j4,Lt4,g4⟩ a w hI H;dsimp only at hI H;obtain⟨hck,hg4,qK⟩:=hI;dsimp only[lca,bq]at H;refine kP H (SR fun _ K3=>Rc M<|Kz K3<|SQ fun _ K4=>Cd M ?_ ?_)<;>clear H K3
     ·intro jv a H
      try have p59:=dT jv
      have hk4:ck<y.cells.length:=by omega
      obtain⟨b3,o3,sA,sn,sc,tA,tn,tc,uA,un,uc,gA,gn,gc,rfl,hrow,hch,hcf⟩:=Hr hk4 (hcl.mono hg4).at_;have NH:=GJ hk4;have Bz:=hoc _<|ig hk4;rw[mg hk4]at qK
      simp only[kU,aeP,iG]at qK
      refine kP H<|Kc K4<|SQ fun _ K3=>SB<|SR fun _ K5=>Ri ko iQ M M ?_;clear H K4;intro a H;refine aY iQ (cs:=[_,_,_,_,_,_,_]) H wn M M (fun j v hj=>H.hp.aJ<|hrow j v hj) M ?_;clear H;intro a H;refine dK iQ H wn M ?_;clear H;intro b12 a w CP H;refine bH iQ 0 (vs:=[_,_,_,_,_,_,_]) H wn M ?_;clear H;intro w H;refine K5 _ _ ?_;clear K5;refine kP H<|SC<|aV JN aF 0 M M<|aV Cr eG 0 M M<|Rm M ?_;clear H;intro a H;refine gM aal (Li:=[_,_,_]) (L:=Lt4) H wn M (ih fv Gi xs J _ _ _ j4 y.cells[ck].id y.cells[ck].flow _ (fun b o h=>hg4 b o<|hg3 b o<|hgm b o<|hGi b o h) hcb wK qK.now (Hp.owns (Li:=[_,_,_]) H.hp) hcf Bz O qK.part) M ?_;clear H;intro v67 G67 atf a w aBu aCJ H;have Q0:=qK.jump aBu;refine kH H<|Kn K3<|SC<|Rd M<|Rm M ?_;clear H K3;intro a H;refine aI ?_;refine dO ((ck+1,j4+(cB y.cells[ck].id 0 y.cells[ck].flow).length,atf,G67)) (by exact(H.dR (Pl:=[_,_,_]) (dH:=[_,_]) [1,2] Z M).sub ⟨M,M,M,M,M,M,M,M,M,M,M,M,M,M,aC⟩) ?_
      (try dsimp only);exact⟨O,fun b o h=>aCJ b o (hg4 b o h),Q0⟩
     intro jv a H
     try have p59:=dF jv
     refine dS ?_;refine K2 _ _ ?_;clear K2;refine kP H<|SC<|Rd M<|Rm M ?_;clear H;intro a H;refine aI ?_;refine dO ((rk+1,j4,Lt4,g4)) (by exact(H.dR (Pl:=[_,_]) (dH:=[_]) [1] Z M).sub ⟨M,M,M,M,M,M,M,M,M,M,M,aC⟩) ?_
     (try dsimp only);exact⟨O,fun b o h=>hg4 b o (hg3 b o h),by rw[mh O,kU,fQ]at qK;exact qK⟩
    intro kE a H
    try have p52:=dF kE
    refine dS ?_;refine⟨(j3,Lt3,g3),by exact H.sub ⟨M,M,M,M,M,M,M,M,aC⟩,?_⟩;(try dsimp only);exact⟨hg3,by rw[mh O,jT,fQ]at pK;exact pK⟩
   intro h46 a H
   try have p46:=dF h46
   rw[au p46,fQ]at gy;refine fU ?_;refine⟨(j,Lt,g1),by exact H.sub ⟨M,M,M,M,M,M,M,M,aC⟩,?_⟩;(try dsimp only);exact⟨fun _ _ h=>h,gy⟩
  clear H;rintro⟨j2,Lt2,g2⟩ a w hI H;dsimp only at hI H;obtain⟨hg2,CX⟩:=hI;dsimp only[lca,bq]at H;refine kP H<|SR fun _ K2=>Rm M<|Rm M<|Rm M<|Rd M ?_;clear H;intro a H;refine aHb dM bL k (k+1) H wn M M M M O O O M ?_;clear H;intro a H;rw[au hc3,D5,add_lit,Ch]at H;refine s_call UF H wn M (V4 _ _ H.ro [x] _ (by have h:=hpart;rw[au hc3,D5,add_lit,Ch,he1]at h;exact h.mono hg2) (by show 1+bY x.dat+0<=_;omega)) rfl ?_;clear H;rintro v76 G76 a w ⟨rfl,rfl⟩-H;rw[aEx]at H;refine kH H<|Rm M ?_;clear H;intro a H;(iterate 2 refine iH H wn M M M ?_;clear H;intro a H);refine kH H<|Ra M<|ak K2 M<|SC<|Rm M<|Rm M<|Rd M<|bZ K1 M<|SC<|Rd M<|Rm M ?_;clear H K2 K1;intro a H;refine aI ?_;refine dO ((k+1,t+n1 x,j2,Lt2,g2)) (by exact(H.dR (Pl:=[_]) (dH:=[]) [] Z M).sub ⟨M,M,M,M,M,M,M,aC⟩) ?_
  (try dsimp only);exact⟨O,fun b o h=>hg2 b o (hgm b o h),hok2,O,CX⟩
 intro h18 a H
 try have pU:=dF h18
 refine dS ?_;refine(leave0 H results142 ?_).2;exact H.hp.lU (L':=Lt) (by repeat(first|exact nW _|apply List.Sublist.cons)) (by rw[mh O,cB]at gy;have:=gy.len;simp only[List.length_nil,oZ]at this;rw[<-this];exact gy.now)
theorem afu:∀n:Nat,n<=4294967297->XK n
 |0,_=>fun _ _ _ _ _ _ _ _ _ _ _ _ _ _ _ _ _ _ h=>absurd h O
 |n+1,hn=>aua (afu n O) O
theorem lQ{G:GH}{b:Nat}{cs:List aj}{e:TypeId}{q:Nat×Nat}(h:G b=some (.cells cs.toArray e q))(k:Nat)(ds:List aj)(hd:ds=(cs.drop k).take ds.length)(j:Nat)(v:aj)(hj:ds[j]?=some v):aJ G b (k+j)=some v:=by
 unfold aJ
 rw[h]
 show cs.toArray[k+j]?=some v
 rw[hd,xG]at hj
 split at hj
 ·simpa using hj
 cases hj
theorem oQ:prog.underlying 131=some (.slice 134):=by kernel_rfl
theorem kG:Ty prog 134 5 48 [.int .i64 0,.int .i64 0,.string ⟨#[]⟩,.int .i64 0,.int .i64 0] true:=⟨V,V⟩
theorem Xg:Ty prog 131 1 24 [.slice none 0 0] false:=⟨V,V⟩
theorem Xn:prog.underlying 282=some (.map 285 134):=by kernel_rfl
theorem Hu:dG prog 134 0 0:=⟨V⟩
theorem D9:dG prog 134 1 1:=⟨V⟩
theorem adX:sO prog 285 [(0,1),(1,1)] [.int .i64 0,.int .i64 0]:=⟨V,V⟩
theorem Xi:Ty prog 285 2 16 [.int .i64 0,.int .i64 0] true:=⟨V,V⟩
theorem axr:aW 143:=aX func143 M
def vE(l:List cZ):List aj:=(l.map cZ.cells).flatten
theorem atJ{l:List cZ}{k:Nat}(hk:k<l.length):vE (l.take<|k+1)=vE (l.take k)++l[k].cells:=by
 unfold vE
 rw[ji hk,iy,List.flatten_append]
 simp
theorem YA(G:GH):∀l:List cZ,bR G 5 (l.map cZ.dat)<|vE l
 |[]=>bR.nil
 |x::l=>by
  have h1:bR G 5 [x.dat] x.cells:=by
   have:=(bR.nil (G:=G) (sz:=5)).snoc (q:=x.dat) (cs:=x.cells) (atN G x) M
   simpa using this
  rw[dV,<-List.singleton_append];exact h1.append<|YA G l
def aeE(bo:Nat)(A:List cZ):Nat->GH->OL->Prop:=fun k _ L=>k<=A.length∧∃v Lo,L=(bo,.cells #[v] 131 (0,0))::Lo∧bT 134 5 v k (vE (A.take k)) Lo
theorem aEG(Gi:GH)(bo:Nat)(A:List cZ)(hA:A.length<=4294967296):SF prog (.func (.func 143) #[] #[aK bo 0]) Gi (A.map Jo) (aeE bo A):=by
 rintro k args G L w0 ⟨p,hp,hargs⟩ hGi ⟨-,v,Lo,rfl,hrw⟩ hO;rw[ql]at hp;obtain⟨x,hx,rfl⟩:=nK.1 hp;obtain⟨hk,hxe⟩:=jJ.1 hx;have ha:args=[x.val]:=hargs;subst ha;obtain⟨vA,vc,rfl,-,-⟩:=hrw.shape;have hml:maxLen=9223372036854775807:=rfl;refine kJ (caps:=[aK bo 0]) axr (iY (N:=7) (T:=[(0,_),(1,_)]) func143 M ntmps143 M M hO fun a H=>dw<|fun _ K1=>eD (cs:=[_,_,_,_,_]) H wn M M M fun b2 a w hb2 H=>K1 _ _<|kP H<|SC<|Ro Xg 1 M fun a H=>aY kG (cs:=[_,_,_,_,_]) H wn M M (H.hp.dB 0 M M) M fun a H=>iT oQ kG [_,_,_,_,_] [_,_,_,_,_] H wn M M M M M (by intro i q h;match i,h with|0,h=>exact h|n+1,h=>simp at h) M M fun b5 a w hb5 H=>lW (Li:=[_,_,_]) (Lo:=Lo) (news:=x.cells) oQ kG M M H wn M M hrw M (H.hp.dB 0 M M) M O O M ?_);intro v6 Lo6 a w anj H;obtain⟨v6A,v6c,rfl,-,-⟩:=anj.shape;refine bH Xg 2 (vs:=[_]) H wn M fun w H=>aI ((leave0 H results143 ?_).2);exact H.hp.lU (L':=(bo,.cells #[.slice v6A (k+1) v6c] 131 (0,0))::Lo6) (by repeat(first|exact nW _|apply List.Sublist.cons)) ⟨hk,_,Lo6,M,by rw[atJ hk,hxe];exact anj⟩
theorem aom(G:GH)(w0:World)(hG:Hold G w0)(D:jh)(l:List ah)(hv:av G (.sl 11<|l.map ah.dat) (bN D.f))(hok:eT l)(hz:aR l<=4294967296) :
  Calls prog 63 #[D.val] w0 (bD w0 G fun u G'=>av G' (.sl 5 ((cB 0 0 l).map cZ.dat)) u):=by
 have hn:=DZ 0 0 l;refine eN [(0,_)] func63 M ntmps63 M M hG fun a H=>dw<|fun _ K1=>eD (cs:=[_,_,_,_,_,_,_,_,_,_,_]) H wn M M M fun b1 a w hb1 H=>kH H<|ak K1 M<|SQ fun _ K2=>?_;clear H K1;intro a H;obtain⟨Ga,hma,hb',H⟩:=H.eX;have hga:=fun j v hj=>lQ hb' 0 D.cells M j v hj;replace hv:=hv.mono hma;refine mF (dK Xg H wn M fun b3 a w hb3 H=>kH H (Kn K2 (SR fun _ K1=>Rf wH M (Rg eG M (hga 0 _ M) fun a H=>wU H wn M M fun a H=>gM aal (Li:=[]) (L:=[(b3,.cells #[.slice none 0 0] 131 (0,0))]) H wn M (afu 4294967297 O _ Ga ((cB 0 0 l).map Jo) (aeE b3<|cB 0 0 l) _ _ _ 0 0 l _ (fun _ _ h=>h) (aEG Ga b3 (cB 0 0 l) O) (fun _ _ _ _ _ h=>h) ⟨fP _,_,[],M,bT.nil⟩ (Hp.owns (Li:=[]) H.hp) hv hok O (fun i a h=>by rw[fB,ql,h];rfl)) rfl ?_))));rintro v7 G7 L7 a w ⟨-,v,Lo,rfl,hrw⟩ Ej H;rw[fB,oI]at hrw;dsimp only[List.nil_append]at H;refine K1 _ _<|kP H<|SR fun _ K1=>Ro Xg 0 M<|ak K1 M fun a H=>lr H results63 M ?_;obtain⟨Gr,hmr,hrep,H⟩:=St.qy (Li:=[_]) H hrw (rows:=(cB 0 0 l).map cZ.dat) (by simp)<|YA _ _;exact H.rt hrep
theorem UG:ET prog 285 [0,1]:=⟨V,V,V,V,V⟩
def GI:cZ:=⟨0,0,⟨#[]⟩,0,0⟩
theorem acS{acc:List ((Int×Int)×aj)}{l:List cZ}(h:zF acc l)(p:Int×Int):(qB p acc).getD GI.val=((mH l p.1 p.2).getD GI).val:=by
 rw[h p];cases mH l p.1 p.2<;>rfl
theorem Jp{G:GH}{A:List cZ}{v:Option Addr}{n c k:Nat}(h:av G (.sl 5<|A.map cZ.dat) (.slice v n c))(hk:k<A.length):∃b o,v=some ⟨b,o,none⟩∧∀j u,A[k].cells[j]?=some u->aJ G b (o+k*5+j)=some u:=by
 obtain⟨b,o,cs,rfl,hcl,hrow,hr⟩:=h.at_ k A[k].dat (by simp[hk]);obtain rfl:=afk hr;exact⟨b,o,M,hrow⟩
set_option maxHeartbeats 1000000 in
theorem aAk(G:GH)(w0:World)(hG:Hold G w0)(A:List cZ)(v:aj)(hv:av G (.sl 5<|A.map cZ.dat) v)(hl:A.length<=4294967296) :
  Calls prog 198 #[v] w0 (bD w0 G fun u G'=>∃b acc,u=.map (some b)∧G' b=some (Iz acc)∧zF acc A):=by
 obtain⟨vA,n,c,rfl⟩:=hv.form;have hn:=hv.len;rw[bM]at hn;subst hn;have hml:maxLen=9223372036854775807:=rfl;refine eN [(0,_)] func198 M ntmps198 M M hG ?_;intro a H;refine kP H<|SR fun _ K1=>ak K1 M<|SR fun _ K2=>?_;clear H K1;intro a H;refine IL H wn M ?_;clear H;intro b9 a w yY H;refine kH H<|ak K2 M<|SQ fun _ K1=>SR fun _ K3=>Rm M<|Rl oQ M<|Rm M<|Kz K3<|SB ?_;clear H K2 K3;intro a H;skip;refine dY (ι:=Nat×List ((Int×Int)×aj)) (Tc:=[(3,_),(10,_),(11,_)]) (Lc:=[]) (fun(gh:Nat×List ((Int×Int)×aj))=>[(12,vi gh.1)]) (fun(gh:Nat×List ((Int×Int)×aj))=>[(b9,Iz gh.2)]) (fun(gh:Nat×List ((Int×Int)×aj))=>G) (fun(gh:Nat×List ((Int×Int)×aj))=>gh.1<=A.length∧zF gh.2 (A.take gh.1)) (fun(gh:Nat×List ((Int×Int)×aj))=>A.length-gh.1) ((0,[])) (by exact H.sub ⟨M,M,M,M,aC⟩) ?_ ?_
 ·exact⟨fP _,zF.nil⟩
 clear H;rintro⟨k,acc⟩ a w hI H;dsimp only at hI H;obtain⟨hk,hfm⟩:=hI;dsimp only[lca,bq]at H;refine kP H (SR fun _ K2=>Rc M<|Kz K2<|SQ fun _ K3=>Cd M ?_ ?_)<;>clear H K2
 ·intro iA a H
  try have tK:=dT iA
  have hk2:k<A.length:=by omega
  obtain⟨b,o,rfl,hrow⟩:=Jp hv hk2;refine kP H<|Kc K3<|SQ fun _ K2=>SB<|SR fun _ K4=>Ri oQ kG M M ?_;clear H K3;intro a H;refine aY kG (cs:=A[k].cells) H wn M M (fun j v hj=>H.hp.aJ<|hrow j v hj) M ?_;clear H;intro a H;refine dK kG H wn M ?_;clear H;intro b5 a w hb5 H;refine bH kG 0 (vs:=[_,_,_,_,_]) H wn M ?_;clear H;intro w H;refine K4 _ _ ?_;clear K4;refine kP H<|SR fun _ K3=>aV Hu aF 0 M M<|aV D9 aF 0 M M ?_;clear H;intro a H;refine jM adX [_,_] H wn M M M M ?_;clear H;intro a H;refine dK Xi H wn M ?_;clear H;intro b6 a w hb6 H;refine bH Xi 0 (vs:=[_,_]) H wn M ?_;clear H;intro w H;refine K3 _ _ ?_;clear K3;refine kP H<|SR fun _ K3=>Rm M ?_;clear H;intro a H;refine aY Xi (cs:=[_,_]) H wn M M (H.hp.dB 0 M M) M ?_;clear H;intro a H;refine aqo (ky:=(A[k].code,A[k].id)) (zv:=GI.val) (l:=acc) Xn UG V H wn M M (H.hp.own (b9,Iz acc) (by simp)) M ?_;clear H;intro a H;rw[acS hfm]at H;refine kH H<|Rm M ?_;clear H;intro a H;(iterate 2 refine iH H wn M M M ?_;clear H;intro a H);refine dK kG H wn M ?_;clear H;intro b7 a w Bt H;refine bH kG 0 (vs:=[_,_,_,_,_]) H wn M ?_;clear H;intro w H;refine kH H (ak K3 M<|SR fun _ K4=>Rm M<|Rn M<|Kz K4<|Cd M ?_ ?_)<;>clear H K3 K4
  ·intro eZ a H
   try have p28:=dT eZ
   have hnone:qB (A[k].code,A[k].id) acc=none:=by simpa using eZ
   refine kP H<|SC<|Rm M ?_;clear H;intro a H;refine aY Xi (cs:=[_,_]) H wn M M (H.hp.dB 1 M M) M ?_;clear H;intro a H;refine aY kG (cs:=[_,_,_,_,_]) H wn M M (H.hp.dB 2 M M) M ?_;clear H;intro a H;refine aG8 (i:=3) (l:=acc) (ky:=(A[k].code,A[k].id)) (v:=A[k].val) Xn UG H wn M M M M hnone ?_;clear H;intro w H;dsimp only[List.set]at H;refine kH H<|Kn K2<|SC<|Rd M<|Rm M ?_;clear H K2;intro a H;refine aI ?_;refine dO ((k+1,acc++[((A[k].code,A[k].id),A[k].val)])) (by exact(H.dR (Pl:=[_,_,_,_]) (dH:=[_]) [3] Z M).sub ⟨M,M,M,M,aC⟩) ?_
   (try dsimp only);exact⟨O,hfm.new hk2 hnone⟩
  intro eZ a H
  try have p28:=dF eZ
  refine kP H<|Kc K2<|SC<|Rd M<|Rm M ?_;clear H K2;intro a H;refine aI ?_;refine dO ((k+1,acc)) (by exact(H.dR (Pl:=[_,_,_,_]) (dH:=[_]) [3] Z M).sub ⟨M,M,M,M,aC⟩) ?_
  (try dsimp only);exact⟨O,hfm.old hk2 (by simpa using eZ)⟩
 intro iA a H
 try have tK:=dF iA
 obtain rfl:k=A.length:=by omega
 rw[oI]at hfm;refine dS ?_;refine K1 _ _ ?_;clear K1;refine kP H<|SR fun _ K1=>Rm M<|ak K1 M ?_;clear H K1;intro a H;refine lr H results198 M ?_;obtain⟨Gr,hmr,hbr,H⟩:=H.eX;exact H.rt ⟨_,acc,M,hbr,hfm⟩
theorem auQ(G:GH)(w0:World)(hG:Hold G w0)(x:cZ):Calls prog 64 #[.agg x.cells.toArray] w0 (bD w0 G fun u G'=>u=.bool (decide<|x.code=1∨x.code=2)):=by
 refine eN [(0,_)] func64 M ntmps64 M M hG fun a H=>dw (fun _ K1=>eD (cs:=[_,_,_,_,_]) H wn M M M fun b1 a w hb1 H=>kH H<|ak K1 M<|SR fun _ K2=>aV Hu aF 0 M M<|Rc M<|Rm M<|Sp 6 M ?_ ?_)<;>clear H K1
 ·intro h6 a H
  try have p6:=dT h6
  exact kH H (bJ h6 M<|Pt h6 M<|ak K2 M<|LR results64 M fun H=>H.rt (by simp_all))
 exact fun h6=>YF Hu h6 M (YO aF 0 h6 M<|YC h6 M<|Pf h6 M<|ak K2 M<|LR results64 M fun H=>H.rt (by simp_all))
section
def jW(xs:Array aj)(o:Nat×Nat):Option (Int×Int×List UInt8):=match o.2 with
 |0=>(lq xs o.1).map fun n=>(n,0,[])
 |1=>match xs[o.1]? with|some (.string s)=>some (0,0,s.toList)|_=>none
 |2=>match lq xs o.1,lq xs (o.1+1)with|some a,some b=>some (a,b,[])|_,_=>none
 |3=>match xs[o.1]? with|some (.bool b)=>some (if b=true then 1 else 0,0,[])|_=>none
 |_=>none
def apk(P:Program)(t:TypeId):Bool:=!P.stoodInHeld t&&decide ((P.fieldsOf t).toList.map (·.offset)=[0,1])&&((P.fieldsOf t).toList.all fun f=>decide (f.name≠ "_")&&P.plainKey f.type&&RB (P.underlying f.type))&&decide (P.cellsOf t=2)&&(P.info? t).isSome
def BF(P:Program)(t:TypeId):Nat:=match P.underlying t with|some (.int .i64)=>0|some .string=>1|some (.struct _)=>2|some .bool=>3|_=>4
def adn(P:Program)(t:TypeId):Bool:=match BF P t with|0=>P.plainKey t|1=>P.plainKey t|2=>apk P t|3=>P.plainKey t|_=>false
structure OT(P:Program)(t:TypeId)(fO:List (Nat×Nat)):Prop where
 und:P.underlying t=some (.struct (P.fieldsOf t))
 held:P.stoodInHeld t=false
 guard:P.eqGuardType P.depth t=false
 yR:(P.fieldsOf t).toList.map (fun f=>(f.offset,BF P f.type))=fO
 ok:(P.fieldsOf t).toList.all (fun f=>decide (f.name≠ "_")&&adn P f.type)=true
theorem aIx{P:Program}{t:TypeId}{fs:Array Field}(h:P.underlying t=some (.struct fs)):P.underlying t=some (.struct<|P.fieldsOf t):=by
 rw[h]
 simp[Program.fieldsOf,h]
theorem aqh{P:Program}(w:World){t:TypeId}{fs:Array Field}(hu:P.underlying t=some (.struct fs)){i:TypeInfo}(hi:P.info? t=some i)(hc:P.cellsOf t=2)(xs:Array aj)(off:Nat):(part t xs off).run P w=.ok (.agg<|xs.extract off<|off+2) w:=by
 unfold part
 simp[isAgg,dP,run_underlying hu,run_sizeOf w hi,hc]
theorem U6{xs:Array aj}{o:Nat}{n:Int}(h:lq xs o=some n):xs[o]?=some (.int .i64 n):=by
 unfold lq at h
 split at h
 ·rename_i hx;cases h;exact hx
 ·cases h
theorem alP{xs:Array aj}{off:Nat}{a b:Int}(h1:lq xs off=some a)(h2:lq xs (off+1)=some b):lq (xs.extract off<|off+2) 0=some a∧lq (xs.extract off<|off+2) 1=some b:=by
 have e1:=U6 h1
 have e2:=U6 h2
 have hl:off+1<xs.size:=(Array.getElem?_eq_some_iff.1 e2).1
 constructor
 ·unfold lq
  rw[Array.getElem?_extract,ay O,oZ,e1]
 ·unfold lq
  rw[Array.getElem?_extract,ay O,e2]
theorem adA{P:Program}{w:World}{d:Nat}{xs ys:Array aj}:∀fs:List Field,fs.all (fun f=>decide (f.name≠ "_")&&adn P f.type)=true->
  (fs.map<|fun f=>(f.offset,BF P f.type)).all (fun o=>(jW xs o).isSome&&(jW ys o).isSome)=true->(Op.eqFields (d+2) xs ys fs).run P w=.ok ((fs.map<|fun f=>(f.offset,BF P f.type)).all fun o=>jW xs o==jW ys o) w
 |[],_,_=>by simp[Op.eqFields]
 |f::fs,h1,h2=>by
  simp only[List.all_cons,kV,qm,dV]at h1 h2
  obtain⟨⟨hn,hk⟩,h1⟩:=h1
  obtain⟨⟨hx,hy⟩,h2⟩:=h2
  have ih:=adA (w:=w) (d:=d) fs (by simpa using h1) h2
  have fin:∀(x y:aj)(r:Bool),(part f.type xs f.offset).run P w=.ok x w->(part f.type ys f.offset).run P w=.ok y w->(Op.equalIn (d+2) f.type x y).run P w=.ok r w->(jW xs (f.offset,BF P f.type)==jW ys (f.offset,BF P f.type))=r->
    (Op.eqFields (d+2) xs ys (f::fs)).run P w=.ok (((f::fs).map<|fun f=>(f.offset,BF P f.type)).all fun o=>jW xs o==jW ys o) w:=by
   intro x y r p1 p2 p3 p4
   simp only[Op.eqFields,hn,ne_eq,not_false_eq_true,if_true,dP,p1,p2,kY,p3,dV,List.all_cons,p4]
   cases r with
   |true=>simp[ih,List.all_map]
   |false=>simp
  unfold adn at hk
  rcases hkd:BF P f.type with _|_|_|_|n
  ·rw[hkd]at hk hx hy
   have hu:P.underlying f.type=some (.int .i64):=by unfold BF at hkd;split at hkd<;>first|assumption|cases hkd
   obtain⟨m,hm⟩:∃m,lq xs f.offset=some m:=by cases h:lq xs f.offset with|some m=>exact⟨m,M⟩|none=>simp[jW,h]at hx
   obtain⟨m2,hm2⟩:∃m,lq ys f.offset=some m:=by cases h:lq ys f.offset with|some m=>exact⟨m,M⟩|none=>simp[jW,h]at hy
   refine fin _ _ _ (run_part_plain w hk<|U6 hm) (run_part_plain w hk<|U6 hm2) (run_equalIn_int w (d+1) f.type .i64 .i64 m m2 hu) ?_
   rw[hkd,zL]
   simp[jW,hm,hm2]
  ·rw[hkd]at hk hx hy
   have hu:P.underlying f.type=some .string:=by unfold BF at hkd;split at hkd<;>first|assumption|cases hkd
   obtain⟨m,hm⟩:∃m,xs[f.offset]?=some (.string m):=by
    simp only[jW]at hx
    split at hx
    ·rename_i s hs;exact⟨s,hs⟩
    ·cases hx
   obtain⟨m2,hm2⟩:∃m,ys[f.offset]?=some (.string m):=by
    simp only[jW]at hy
    split at hy
    ·rename_i s hs;exact⟨s,hs⟩
    ·cases hy
   refine fin _ _ _ (run_part_plain w hk hm) (run_part_plain w hk hm2) (run_equalIn_string w (d+1) f.type m m2 hu) ?_
   rw[hkd,zL]
   simp[jW,hm,hm2]
  ·rw[hkd]at hk hx hy
   obtain⟨gs,hu⟩:∃gs,P.underlying f.type=some (.struct gs):=by
    unfold BF at hkd
    split at hkd
    ·cases hkd
    ·cases hkd
    ·rename_i gs hg;exact⟨gs,hg⟩
    ·cases hkd
    ·cases hkd
   simp only[apk,kV,Bool.not_eq_true',qm]at hk
   obtain⟨⟨⟨⟨k1,k2⟩,k3⟩,k4⟩,k5⟩:=hk
   obtain⟨inf,amv⟩:=Option.isSome_iff_exists.1 k5
   obtain⟨a,b,ha,hb⟩:∃a b,lq xs f.offset=some a∧lq xs (f.offset+1)=some b:=by
    simp only[jW]at hx
    split at hx
    ·rename_i a b h1 h2;exact⟨a,b,h1,h2⟩
    ·cases hx
   obtain⟨a',b',ha',hb'⟩:∃a b,lq ys f.offset=some a∧lq ys (f.offset+1)=some b:=by
    simp only[jW]at hy
    split at hy
    ·rename_i a b h1 h2;exact⟨a,b,h1,h2⟩
    ·cases hy
   obtain⟨e1,e2⟩:=alP ha hb
   obtain⟨e3,e4⟩:=alP ha' hb'
   have hq:=adz (P:=P) (w:=w) (d:=d) (xs:=xs.extract f.offset<|f.offset+2) (ys:=ys.extract f.offset<|f.offset+2) _ (by simpa only[lM,kV,qm]using k3) (by rw[k2];simp[e1,e2,e3,e4])
   rw[k2]at hq
   refine fin _ _ _ (aqh w hu amv k4 xs f.offset) (aqh w hu amv k4 ys f.offset) ((run_equalIn_struct w (d+1) f.type _ _ (aIx hu) k1).trans hq) ?_
   rw[hkd,zL]
   simp[jW,ha,hb,ha',hb',e1,e2,e3,e4]
  ·rw[hkd]at hk hx hy
   have hu:P.underlying f.type=some .bool:=by unfold BF at hkd;split at hkd<;>first|assumption|cases hkd
   obtain⟨m,hm⟩:∃m,xs[f.offset]?=some (.bool m):=by
    simp only[jW]at hx
    split at hx
    ·rename_i s hs;exact⟨s,hs⟩
    ·cases hx
   obtain⟨m2,hm2⟩:∃m,ys[f.offset]?=some (.bool m):=by
    simp only[jW]at hy
    split at hy
    ·rename_i s hs;exact⟨s,hs⟩
    ·cases hy
   refine fin _ _ _ (run_part_plain w hk hm) (run_part_plain w hk hm2) (run_equalIn_bool' w (d+1) f.type m m2 hu) ?_
   rw[hkd,zL]
   cases m<;>cases m2<;>simp[jW,hm,hm2]
  ·rw[hkd]at hk;cases hk
section
variable{N:Nat}{D:List Deferred}{w0:World}{F:Nat->Prop}{G0 G:GH}{L:List (Nat×Obj)}{T:List (Nat×aj)}
variable{r:Option Nat}{P:Program}{ops:Array Oper}{Q:Exit->Act->World->Prop}{rest:List Oper}{a:Act}{w:World}
variable{d:Nat}{ty:TypeId}{pos:String}{aT:Array Edge}{g:Option (Nat×Bool)}
theorem adM{t yt:TypeId}{fO:List (Nat×Nat)}(he:OT P t fO){x y:Operand}{xs ys:Array aj}(H:St N D w0 F G0 G L T a w)(hw:Region.wanted ⟨some d,.binOp .eql t x y yt,ty,pos,aT,g⟩ (yielded ops a.tmps)=true)(hx:ev T x=some (.agg xs))(hy:ev T y=some (.agg ys))
  (hi:fO.all (fun o=>(jW xs o).isSome&&(jW ys o).isSome)=true)(hd:Nat.blt d N=true)
  (k:∀a',St N D w0 F G0 G L ((d,.bool<|fO.all fun o=>jW xs o==jW ys o)::T) a' w->WL r P ops Q rest a' w):WL r P ops Q (⟨some d,.binOp .eql t x y yt,ty,pos,aT,g⟩::rest) a w:=by
 have h1:=adA (P:=P) (w:=w) (d:=9997) (xs:=xs) (ys:=ys) _ he.ok (by rw[he.yR];exact hi)
 rw[he.yR]at h1
 refine fH (v:=.bool<|fO.all fun o=>jW xs o==jW ys o) (w':=w) hw M ?_<|k _<|H.put hd _ H.hp
 simp only[execOp,H.ev hx,H.ev hy,dP,run_eqGuard_agg w .eql t x y xs ys he.guard,kY,run_eql_struct,run_equalIn_struct w 9999 t xs ys he.und he.held,h1]
 rfl
theorem aG6{t yt:TypeId}{fO:List (Nat×Nat)}(he:OT P t fO){x y:Operand}{xs ys:Array aj}(H:St N D w0 F G0 G L T a w)(hw:Region.wanted ⟨some d,.binOp .neq t x y yt,ty,pos,aT,g⟩ (yielded ops a.tmps)=true)(hx:ev T x=some (.agg xs))(hy:ev T y=some (.agg ys))
  (hi:fO.all (fun o=>(jW xs o).isSome&&(jW ys o).isSome)=true)(hd:Nat.blt d N=true)
  (k:∀a',St N D w0 F G0 G L ((d,.bool (!(fO.all fun o=>jW xs o==jW ys o)))::T) a' w->WL r P ops Q rest a' w):WL r P ops Q (⟨some d,.binOp .neq t x y yt,ty,pos,aT,g⟩::rest) a w:=by
 have h1:=adA (P:=P) (w:=w) (d:=9997) (xs:=xs) (ys:=ys) _ he.ok (by rw[he.yR];exact hi)
 rw[he.yR]at h1
 refine fH (v:=.bool (!(fO.all fun o=>jW xs o==jW ys o))) (w':=w) hw M ?_<|k _<|H.put hd _ H.hp
 simp only[execOp,H.ev hx,H.ev hy,dP,run_eqGuard_agg w .neq t x y xs ys he.guard,kY,run_neq_struct,run_equalIn_struct w 9999 t xs ys he.und he.held,h1]
 rfl
end
end
theorem DK:prog.underlying 125=some (.slice 67):=by kernel_rfl
theorem mQ:Ty prog 67 6 56 [.int .i64 0,.string ⟨#[]⟩,.int .i64 0,.int .i64 0,.int .i64 0,.int .i64 0] true:=⟨V,V⟩
theorem akn:aW 63:=aX func63 M
theorem axX:aW 198:=aX func198 M
theorem akG:dG prog 134 2 2:=⟨V⟩
theorem Bh:dG prog 134 3 3:=⟨V⟩
theorem WZ:sO prog 67 [(0,1),(1,1),(2,2),(4,2)] [.int .i64 0,.string ⟨#[]⟩,.int .i64 0,.int .i64 0,.int .i64 0,.int .i64 0]:=⟨V,V⟩
theorem Ac:dG prog 67 2 2:=⟨V⟩
theorem yQ:dG prog 65 1 1:=⟨V⟩
theorem HZ:dG prog 67 3 4:=⟨V⟩
theorem HY:dG prog 65 0 0:=⟨V⟩
mutual
theorem atm(g:Int)(t:Nat):∀(x:ah)(a:cZ),a∈sP g t x->0<=a.at_∧a.at_<=(t+bY x.dat:Nat)
 |.mk k c i tx h fl r,a,ha=>by
  have h4:=lY (.mk k c i tx h fl r);dsimp only[ah.text,ah.head,ah.flow,ah.rows]at h4;rw[sP]at ha
  rcases iF.1 ha with ha|ha
  ·split at ha
   ·rw[oH.1 ha];dsimp only;omega
   cases ha
  rcases iF.1 ha with ha|ha
  ·split at ha
   ·have:=O9 i 0 fl a ha;omega
   cases ha
  split at ha
  ·have:=aeV r a ha;omega
  cases ha
theorem O9(g:Int):∀(t:Nat)(l:List ah)(a:cZ),a∈cB g t l->0<=a.at_∧a.at_<=(t+aR l:Nat)
 |_,[],a,ha=>by rw[cB]at ha;cases ha
 |t,x::l,a,ha=>by
  have h1:=acY x;rw[cB]at ha
  have hz:bY x.dat+aR l<=aR (x::l):=by simp only[aR,dV,fE];omega
  rcases iF.1 ha with ha|ha
  ·have:=atm g t x a ha;omega
  have:=O9 g (t+n1 x) l a ha;omega
theorem aeV:∀(l:List aN)(a:cZ),a∈jT l->0<=a.at_∧a.at_<=(gB l:Nat)
 |[],a,ha=>by rw[jT]at ha;cases ha
 |x::l,a,ha=>by
  rw[jT]at ha
  have hz:bY x.dat+gB l<=gB (x::l):=by simp only[gB,dV,fE];omega
  rcases iF.1 ha with ha|ha
  ·have:=atn x a ha;omega
  have:=aeV l a ha;omega
theorem atn:∀(x:aN)(a:cZ),a∈wD x->0<=a.at_∧a.at_<=(bY x.dat:Nat)
 |.mk h cs,a,ha=>by
  have h4:=zC (.mk h cs);dsimp only[aN.head,aN.cells]at h4;rw[wD]at ha;have:=aeU cs a ha
  omega
theorem aeU:∀(l:List aP)(a:cZ),a∈kU l->0<=a.at_∧a.at_<=(iU l:Nat)
 |[],a,ha=>by rw[kU]at ha;cases ha
 |x::l,a,ha=>by
  rw[kU]at ha
  have hz:bY x.dat+iU l<=iU (x::l):=by simp only[iU,dV,fE];omega
  rcases iF.1 ha with ha|ha
  ·have:=atl x a ha;omega
  have:=aeU l a ha;omega
theorem atl:∀(x:aP)(a:cZ),a∈wC x->0<=a.at_∧a.at_<=(bY x.dat:Nat)
 |.mk i h fl,a,ha=>by
  have h4:=AU (.mk i h fl);dsimp only[aP.head,aP.flow]at h4;rw[wC]at ha;have:=O9 i 0 fl a ha
  omega
end
theorem azi:OT prog 134 [(0,0),(1,0),(2,1),(3,2)]:=⟨V,V,V,V,V⟩
theorem ZR{a b:ByteArray}(h:a.toList=b.toList):a=b:=by
 rw[ByteArray.toList_eq,ByteArray.toList_eq]at h
 cases a;cases b
 simpa using h
theorem atO(x y:cZ):([(0,0),(1,0),(2,1),(3,2)].all fun o=>jW (#[vi x.code,vi x.id,.string x.name,vi x.flow,vi x.at_]:Array aj) o==jW (#[vi y.code,vi y.id,.string y.name,vi y.flow,vi y.at_]:Array aj) o)=decide (x=y):=by
 rw[zL,decide_eq_true_iff,<-cZ.eq_iff]
 simp[jW,lq]
 intro _ _ _ _;exact⟨ZR,fun h=>by rw[h]⟩
theorem atP{acc:List ((Int×Int)×aj)}{A:List cZ}{c:Int}{x:cZ}(_h:zF acc A)(hc:¬¬x.code=c)(hm:x∈A):(!decide ((mH A c x.id).getD GI=x))=!uZ A c x:=by
 have hc:=nL.1 hc
 have hs:(mH A c x.id).isSome=true:=by
  unfold mH
  rw[List.find?_isSome];exact⟨x,hm,by simp[hc]⟩
 obtain⟨y,hy⟩:=Option.isSome_iff_exists.1 hs
 unfold uZ
 rw[hy]
 simp[hc]
theorem ML{A:List cZ}{c:Int}{x:cZ}(h:match mH A (c+1) x.id with|some e=>¬(e.flow=x.flow∧x.at_<e.at_)|none=>True):Cq A c x=(x.flow,x.at_+1):=by
 unfold Cq
 cases hf:mH A (c+1) x.id with
 |none=>rfl
 |some e=>rw[hf]at h;dsimp only;rw[au h]
theorem aku{A:List cZ}{c:Int}{x e:cZ}(h:mH A (c+1) x.id=some e∧e.flow=x.flow∧x.at_<e.at_):Cq A c x=(e.flow,e.at_):=by
 unfold Cq
 rw[h.1];dsimp only;rw[ay h.2]
def K9(l:List lI):List aj:=(l.map lI.cells).flatten
theorem aqL(l:List lI)(x:lI):K9 (l++[x])=K9 l++x.cells:=by
 unfold K9
 rw[iy,List.flatten_append]
 simp
theorem adW(G:GH):∀l:List lI,bR G 6 (l.map lI.dat)<|K9 l
 |[]=>bR.nil
 |x::l=>by
  have h1:bR G 6 [x.dat] x.cells:=by
   have:=(bR.nil (G:=G) (sz:=6)).snoc (q:=x.dat) (cs:=x.cells) (aqR G x) M
   simpa using this
  rw[dV,<-List.singleton_append];exact h1.append<|adW G l
def wV(A:List cZ)(c:Int)(k:Nat):List lI:=((A.take k).filter (uZ A c)).map (zx A c)
theorem aqN{A:List cZ}{c:Int}{k:Nat}(hk:k<A.length)(h:uZ A c A[k]=false):wV A c (k+1)=wV A c k:=by
 unfold wV;rw[aqP hk,au (by rw[h];decide),iR]
theorem aqO{A:List cZ}{c:Int}{k:Nat}(hk:k<A.length)(h:uZ A c A[k]=true):wV A c (k+1)=wV A c k++[zx A c A[k]]:=by
 unfold wV;rw[aqP hk,ay h]
theorem aqM(A:List cZ)(c:Int)(k:Nat)(hk:k<=A.length):(wV A c k).length<=k:=by
 unfold wV
 rw[bM];exact Nat.le_trans (List.length_filter_le ..) (by rw[List.length_take];omega)
theorem avi{P:Program}{f:FuncId}{args:Array aj}{w0:World}{G:GH}{e sz n:Nat}{xs:List aj}{rows:List (List Dat)}(hG:Hold G w0)(h:Calls P f args w0 (fG w0 G [] fun u _ L'=>bT e sz u n xs L'))(hl:rows.length=n)(hc:∀G',bR G' sz rows xs) :
  Calls P f args w0 (bD w0 G fun u G'=>av G' (.sl sz rows) u):=by
 intro cs;obtain⟨e1,w',fr,⟨v,G',L',rfl,hch,hrow⟩,h2,h3,h4⟩:=h cs;have hp0:Hp w0 (fun k=>k<w0.heap.size) G G ([]++[]) w0:=⟨M,M,M,eP _,fun _ h=>h,fun _ _=>rfl,hG,fun _ _ h=>h,fun _ _ h=>.inl h,fun _ h=>(by cases h),fun _ h=>(by cases h),fun _ h=>(by cases h),List.Pairwise.nil⟩;have hp1:=hp0.change hch;rw[fQ]at hp1;refine⟨_,w',fr,?_,h2,h3,h4⟩
 rcases hrow.2 with⟨rfl,h5,rfl⟩|⟨b,cap,cur,rfl,rfl,h5,h6,h7,h8⟩
 ·exact agW
 exact(hp1.giveUp 0 M).ret<|av.uK (GH.Jm G' b _) hl h5 h6 h8<|hc _
theorem auE {p:Prop} (h:p:=by
 exact ⟨O,by rw [aqN hk2 (by first|(simp [uZ,c0];done)|(simpa using lS))];exact hrw,fun b o h=>tC b o (hgm b o h)⟩):p:=h
theorem Y3 {p:Prop} (h:p:=by
 first|exact absurd f2 (of_decide_eq_false FJ)|exact absurd f1 (of_decide_eq_false rD)|(rw [hE2] at nN;cases nN)):p:=h
theorem ahX {p:Prop} (h:p:=by
 refine dS ?_;refine K1 _ _ ?_;clear K1;refine kP H (SC (Rd M (Rm M ?_)));clear H;intro a H;refine aI ?_;refine dO ((k+1,_,Lo,_)) (by exact(H.dR (Pl:=[_]) (dH:=[]) [] Z M).sub ⟨M,M,M,M,M,M,aC⟩) ?_
 (try dsimp only);exact auE):p:=h
set_option maxHeartbeats 4000000 in
theorem aHV(G:GH)(w0:World)(hO:fZ G [] w0)(D:jh)(l:List ah)(hv:av G (.sl 11<|l.map ah.dat) (bN D.f))(hok:eT l)(hz:aR l<=1073741824)(code:Int)(hc:0<=code∧code<=100) :
  Calls prog 139 #[D.val,vi code] w0 (fG w0 G [] fun u _ L'=>bT 67 6 u (sI (cB 0 0 l) code).length (K9<|sI (cB 0 0 l) code) L'):=by
 have hn:=DZ 0 0 l;have Ie:=O9 0 0 l;have hml:maxLen=9223372036854775807:=rfl;obtain⟨A,hA⟩:∃A,A=cB 0 0 l:=⟨_,M⟩;rw[<-hA]at hn Ie|-;refine iY (N:=96) (T:=[(0,_),(1,_)]) func139 M ntmps139 M M hO fun a H=>dw<|fun _ K1=>eD (cs:=[_,_,_,_,_,_,_,_,_,_,_]) H wn M M M fun b2 a w hb2 H=>kH H<|ak K1 M<|SQ fun _ K2=>?_;clear H K1;intro a H;obtain⟨Ga,hma,hb',H⟩:=H.eX;have hga:=fun j v hj=>lQ hb' 0 D.cells M j v hj;replace hv:=hv.mono hma;refine mF<|aY jc (cs:=D.cells) H wn M M (fun j v hj=>H.hp.aJ<|hga j v hj) M fun a H=>s_call akn H wn M (aom _ _ H.ro D l hv hok O) M ?_;clear H;rintro v14 DR a w hr Bv H;rw[<-hA]at hr;obtain⟨vA,n14,c14,rfl⟩:=hr.form;have amM:=hr.len;rw[bM]at amM;subst amM;refine kH H<|bZ K2 M<|SR fun _ K1=>Rm M fun a H=>s_call axX H wn M (aAk _ _ H.ro A _ hr O) M ?_;clear H;rintro v16 xu a w ⟨bm,acc,rfl,Nj,hfm⟩ xW H;replace hr:=hr.mono xW;refine kH H<|ak K1 M<|SR fun _ K2=>ak K2 M<|SQ fun _ K3=>SR fun _ K4=>Rm M<|Rl oQ M<|Rm M<|Kz K4<|SB ?_;clear H K1 K2 K4;intro a H;skip;refine dY (ι:=Nat×aj×OL×GH) (Tc:=[(1,_),(6,_),(17,_),(18,_)]) (Lc:=[]) (fun gh=>[(7,gh.2.1),(19,vi gh.1)]) (fun gh=>[]++gh.2.2.1) (fun gh=>gh.2.2.2) (fun gh=>gh.1<=A.length∧bT 67 6 gh.2.1 (wV A code gh.1).length (K9<|wV A code gh.1) gh.2.2.1∧(∀b o,xu b=some o->gh.2.2.2 b=some o)) (fun gh=>A.length-gh.1) ((0,.slice none 0 0,[],xu)) (by exact H.sub ⟨M,M,M,M,M,M,aC⟩) ?_ ?_
 ·exact⟨fP _,bT.nil,fun _ _ h=>h⟩
 clear H;rintro⟨k,v7,Lo,g⟩ a w hI H;dsimp only at hI H;obtain⟨hk,hrw,hgm⟩:=hI;have hsl:=aqM A code k hk;obtain⟨v7A,v7c,rfl,-,-⟩:=hrw.shape;dsimp only[lca,bq]at H;refine kP H (SR fun _ K1=>Rc M<|Kz K1<|SQ fun _ K2=>Cd M ?_ ?_)<;>clear H K1
 ·intro h20 a H
  try have BJ:=dT h20
  have hk2:k<A.length:=by omega
  obtain⟨b,o,rfl,hrow⟩:=Jp (hr.mono hgm) hk2;obtain⟨ha0,ha1⟩:=Ie A[k]<|ig hk2;have hbg:=hgm _ _ Nj;refine kP H<|Kc K2<|SQ fun _ K1=>SB<|SR fun _ K4=>Ri oQ kG M M fun a H=>aY kG (cs:=A[k].cells) H wn M M (fun j v hj=>H.hp.aJ<|hrow j v hj) M fun a H=>dK kG H wn M fun b9 a w yY H=>bH kG 0 (vs:=[_,_,_,_,_]) H wn M fun w H=>K4 _ _<|bU<|fun _ K2=>bU<|fun _ K4=>?_
  by_cases c0:¬A[k].code=code
  ·skip;refine dI hmx [[],[0],[],[0,1,2],ra 0 4,ra 0 5,ra 0 5,ra 0 5,[0,1,2,3,4,7],[0,1,2,3,4,6,7,8],ra 0 10,ra 0 5,ra 0 12,ra 0 13] [] V [_,vi A[k].code,_,_,_,undef,undef,undef,undef,undef,undef,undef,undef,_] H (aD (Z0 M<|Rf Hu M) (Z1 0 23 M<|Ro aF 0 M) (Z0 M<|Rm M) (Z2 1 24 2 25 M<|Rc M)<|aD (Z1 3 26 M<|Rm M) (aL 4 (aG c0) M M) (aL 4 (aG c0) M M) (aL 4 (aG c0) M M)<|aD (aL 4 (aG c0) M M) (aL 4 (aG c0) M M) (aL 4 (aG c0) M M) (aL 4 (aG c0) M M)<|bE (aL 4 (aG c0) M M)<|bE (Z2 4 27 12 35 M<|Pt (aG c0) M) dz) ?_
   clear H;intro a w G tC H hv;have H:=H.aQ (hv 13 36 M M) M;clear hv;exact aI ⟨M,K4 _ _<|zR H M M ahX⟩
  skip;refine dI hmx [[],[0],[],[0,1,2],ra 0 4,ra 0 5,ra 0 5,ra 0 5,[0,1,2,3,4,7],[0,1,2,3,4,6,7,8],ra 0 10,ra 0 5,ra 0 12,ra 0 13] [] V [_,vi A[k].code,_,_,_,_,_,_,vi A[k].id,.agg #[vi code,vi A[k].id],((mH A code A[k].id).getD GI).val,A[k].val,.bool (!uZ A code A[k]),_] H (aD (Z0 M<|Rf Hu M) (Z1 0 23 M<|Ro aF 0 M) (Z0 M<|Rm M) (Z2 1 24 2 25 M<|Rc M)<|aD (Z1 3 26 M<|Rm M) (Z1 4 27 M<|YM (aO c0) M) (Z1 4 27 M<|YM (aO c0) M) (Z1 4 27 M<|YF D9 (aO c0) M)<|aD (Z2 7 30 4 27 M<|YO aF 0 (aO c0) M) ?_ ?_ ?_<|bE ?_<|bE (Z2 4 27 12 35 M<|Pf (aO c0) M) dz) ?_
  ·exact xC 6 29 8 31 4 27 M M fun _ a w G1 hG HT H fin=>jM adX [_,_] H (wg H M M<|aO c0) M M M M jD
  ·refine xC 5 28 9 32 4 27 M M fun _ a w G1 hG HT H fin=>aG3 (ky:=(code,A[k].id)) (zv:=GI.val) (l:=acc) Xn UG V H (wg H M M<|aO c0) M M (H.ro _ _<|hG _ _ hbg) M ?_;clear H;intro a H;rw[acS hfm]at H;exact Jv
  ·exact iE 4 27 M M fun _ a w G1 hG HT H fin=>aY kG (cs:=[_,_,_,_,_]) H (wg H M M<|aO c0) M M (H.hp.dB 0 M M) M jD
  ·refine xC 10 33 11 34 4 27 M M fun _ a w G1 hG HT H fin=>aG6 azi H (wg H M M<|aO c0) M M M M ?_;clear H;intro a H;rw[atO]at H;exact fin H iJ (by show _=_;first|rfl|exact iN<|atP hfm c0<|ig hk2)
  clear H;intro a w G tC H hv;have H:=H.aQ (hv 13 36 M M) M;clear hv;refine aI ⟨M,K4 _ _<|jU H M ?_ ?_⟩
  ·intro lS
   try have p36:=dT lS
   exact ahX
  intro lS
  try have p36:=dF lS
  have hst:uZ A code A[k]=true:=by simpa using lS
  refine kP H (Kc K2 (SR fun _ K4=>aV D9 aF 0 M M (aV akG gN 0 M M (Rf Bh M fun a H=>aY DF (cs:=[_,_]) H wn M M (H.hp.dB 0 M M) M (Rf Bh M fun a H=>aY DF (cs:=[_,_]) H wn M M (H.hp.dB 0 M M) M fun a H=>jM WZ [_,_,_,_,_,_] H wn M M M M fun a H=>dK mQ H wn M fun b10 a w abn H=>bH mQ 0 (vs:=[_,_,_,_,_,_]) H wn M fun w H=>K4 _ _ (kP H (SR fun _ K2=>Rf Ac M (aV yQ aF 0 M M (Rd M (Rf Ac M (Rf yQ M fun a H=>bH aF 0 (vs:=[_]) H wn M fun w H=>K2 _ _ (kP H (SR fun _ K2=>Rf HZ M (aV yQ aF 0 M M (Rd M (Rf HZ M (Rf yQ M fun a H=>bH aF 0 (vs:=[_]) H wn M fun w H=>K2 _ _ (rQ (ι:=Int×Int) (Tc:=[(1,_),(6,_),(7,_),(10,_),(17,_),(18,_),(19,_)]) (Lc:=[(_,_)]) (fun gh=>[]) (fun gh=>[(b10,.cells #[vi A[k].id,.string A[k].name,vi A[k].flow,vi (A[k].at_+1),vi gh.1,vi gh.2] 67 (0,0))]++Lo) (fun gh=>G) (fun gh=>(gh.1,gh.2)=Cq A code A[k]) (by exact(H.dR (Pl:=[_,_]) (dH:=[_,_]) [1,0] Z M).sub ⟨M,M,M,M,M,M,M,aC⟩) ?_ ?_))))))))))))))))))
  ·skip;refine kP H<|SR fun _ K2=>Rm M<|Rm M<|Rd M<|aV D9 aF 1 M M fun a H=>jM adX [_,_] H wn M M M M fun a H=>aqo (ky:=(code+1,A[k].id)) (zv:=GI.val) (l:=acc) Xn UG V H wn M M (H.ro _ _<|tC _ _ hbg) M ?_;clear H;intro a H;rw[acS hfm,show(qB (code+1,A[k].id) acc).isSome=(mH A (code+1) A[k].id).isSome by rw[hfm,Option.isSome_map]]at H;obtain⟨E,hE⟩:∃E,E=mH A (code+1) A[k].id:=⟨_,M⟩;dsimp only at H;rw[<-hE]at H;obtain⟨q,hq⟩:∃q,q=E.getD GI:=⟨_,M⟩;rw[<-hq]at H;refine kH H<|Rm M ?_;clear H;intro a H;(iterate 2 refine iH H wn M M M ?_;clear H;intro a H);refine dK kG H wn M fun b11 a w Qx H=>bH kG 0 (vs:=[_,_,_,_,_]) H wn M fun w H=>kH H (ak K2 M<|SR fun _ K4=>Rm M<|Rm M<|Sp 69 M ?_ ?_)<;>clear H K2
   ·intro nN a H
    try have p69:=dT nN
    refine kH H (YF Bh nN M<|YF HY nN M<|YO aF 0 nN M<|YF Bh nN M<|YF HY nN M<|YO aF 2 nN M<|YC nN M<|Pt nN M<|Rm M<|Sp 78 M ?_ ?_)<;>clear H
    ·intro rD a H
     try have p78:=dT rD
     refine kH H (YF Bh rD M<|YF yQ rD M<|YO aF 0 rD M<|YF Bh rD M<|YF yQ rD M<|YO aF 2 rD M<|YC rD M<|Pt rD M<|Kz K4<|Cd M ?_ ?_)<;>clear H K4
     ·refine fun FJ=>SC (Rf Bh M fun a H=>aY DF (cs:=[_,_]) H wn M M (H.hp.dB 0 M M) M (Rf HZ M fun a H=>bH DF 1 (vs:=[_,_]) H wn M fun w H=>aI ⟨(q.flow,q.at_),by exact(H.dR (Pl:=[_,_,_]) (dH:=[_,_]) [2,1] Z M).sub ⟨M,M,M,M,M,M,M,aC⟩,?_⟩));(try dsimp only);obtain⟨e,he⟩:=Option.isSome_iff_exists.1 nN
      have hqe:q=e:=by rw[hq,he];rfl
      rw[hqe]at rD FJ|-;exact(aku ⟨by rw[<-hE,he],mW rD,mW FJ⟩).symm
     intro FJ a H
     try have p86:=dF FJ
     refine fU ⟨(A[k].flow,A[k].at_+1),by exact(H.dR (Pl:=[_,_,_]) (dH:=[_,_]) [2,1] Z M).sub ⟨M,M,M,M,M,M,M,aC⟩,?_⟩;(try dsimp only);refine(ML ?_).symm;rw[<-hE]
     cases hE2:E with
     |none=>trivial
     |some e=>
      have hqe:q=e:=by rw[hq,hE2];rfl
      dsimp only;rw[<-hqe];rintro⟨f1,f2⟩
      exact Y3
    intro rD a H
    try have p78:=dF rD
    refine kH H (bJ rD M (aU rD M (aU rD M (Pf rD M (Kz K4 (Cf M M fun a H=>fU ⟨(A[k].flow,A[k].at_+1),by exact(H.dR (Pl:=[_,_,_]) (dH:=[_,_]) [2,1] Z M).sub ⟨M,M,M,M,M,M,M,aC⟩,?_⟩))))));(try dsimp only);refine(ML ?_).symm;rw[<-hE]
    cases hE2:E with
    |none=>trivial
    |some e=>
     have hqe:q=e:=by rw[hq,hE2];rfl
     dsimp only;rw[<-hqe];rintro⟨f1,f2⟩
     exact Y3
   intro nN a H
   try have p69:=dF nN
   refine kH H (bJ nN M (aU nN M (aU nN M (Pf nN M (Rm M (bJ M M (aU M M (aU M M (Pf M M (Kz K4 (Cf M M fun a H=>fU ⟨(A[k].flow,A[k].at_+1),by exact(H.dR (Pl:=[_,_,_]) (dH:=[_,_]) [2,1] Z M).sub ⟨M,M,M,M,M,M,M,aC⟩,?_⟩)))))))))));(try dsimp only);refine(ML ?_).symm;rw[<-hE]
   cases hE2:E with
   |none=>trivial
   |some e=>
    have hqe:q=e:=by rw[hq,hE2];rfl
    dsimp only;rw[<-hqe];rintro⟨f1,f2⟩
    exact Y3
  clear H;rintro⟨tf,ta⟩ a w hI H;dsimp only at hI H;have hend:=hI;dsimp only[lca,bq]at H;refine kP H (SC (Rm M fun a H=>aY mQ (cs:=[_,_,_,_,_,_]) H wn M M (H.hp.dB 1 M M) M fun a H=>iT DK mQ [_,_,_,_,_,_] [_,_,_,_,_,_] H wn M M M M M (by intro i q h;match i,h with|0,h=>exact h|n+1,h=>simp at h) M M fun b92 a w aJ2 H=>lW (Li:=[_,_,_]) (Lo:=Lo) (news:=[vi A[k].id,.string A[k].name,vi A[k].flow,vi (A[k].at_+1),vi tf,vi ta]) DK mQ M M H wn M M hrw M (H.hp.dB 0 M M) M O O M ?_));clear H;intro v93 asW a w anl H;rw[show[vi A[k].id,Value.string A[k].name,vi A[k].flow,vi (A[k].at_+1),vi tf,vi ta]=(zx A code A[k]).cells by simp only[zx,lI.cells,<-hend]]at anl;refine kH H (bZ K1 M (SC (Rd M (Rm M fun a H=>aI (dO ((k+1,v93,asW,_)) (by exact(H.dR (Pl:=[_,_,_]) (dH:=[]) [] Z M).sub ⟨M,M,M,M,M,M,aC⟩) ?_)))))
  (try dsimp only);exact⟨O,by rw[aqO hk2 hst,gT,aqL];exact anl,fun b o h=>tC b o<|hgm b o h⟩
 intro h20 a H
 try have BJ:=dF h20
 obtain rfl:k=A.length:=by omega
 have hall:wV A code A.length=sI A code:=by unfold wV sI;rw[oI]
 rw[hall]at hrw;exact dS (K3 _ _<|kP H<|SR fun _ K1=>Rm M<|ak K1 M<|LR results139 M fun H=>H.hp.gX (by rw[hall];exact hrw))
theorem aHW(G:GH)(w0:World)(hG:Hold G w0)(D:jh)(l:List ah)(hv:av G (.sl 11<|l.map ah.dat) (bN D.f))(hok:eT l)(hz:aR l<=1073741824)(code:Int)(hc:0<=code∧code<=100) :
  Calls prog 139 #[D.val,vi code] w0 (bD w0 G fun u G'=>av G' (.sl 6 ((sI (cB 0 0 l) code).map lI.dat)) u) :=
 avi hG (aHV G w0 (yj hG) D l hv hok hz code hc) (by simp) fun _=>adW _ _
theorem aaA:aW 66:=aX func66 M
theorem aaD:aW 77:=aX func77 M
theorem aep(G:GH)(w0:World)(hG:Hold G w0)(x:ah)(i2 i3:Int)(p i5 i6 d l f r:aj)(hs:x.text.size<4611686018427387904) :
  Calls prog 77 #[.agg #[vi x.kind,vi i2,vi i3,.string x.text,p,i5,i6,d,l,f,r]] w0 (bD w0 G fun v G'=>v=vi (bO x:Nat)∧G=G'):=by
 refine eN [(0,_)] func77 M ntmps77 M M hG fun a H=>dw (fun _ K1=>eD (cs:=[_,_,_,_,_,_,_,_,_,_,_]) H wn M M M fun b1 a w hb1 H=>kH H<|ak K1 M<|SQ fun _ K2=>SR fun _ K3=>aV iW aF 0 M M<|Rc M<|Kz K3<|Cd M ?_ ?_)<;>clear H K1 K3
 ·intro h7 a H
  try have p7:=dT h7
  refine kP H<|SR fun _ K1=>aV pE gN 0 M M fun a H=>s_call aaF H wn M (aad _ _ H.ro _ hs) M ?_;rintro v11 _ a w ⟨rfl,rfl⟩-H;refine kH H<|Rm M ?_;intro a H;(iterate 2 refine iH H wn M M M ?_;intro a H);exact kH H (Ra M<|ak K1 M<|SR fun _ K3=>Rm M<|ak K3 M<|LR results77 M fun H=>H.rt ⟨by unfold bO;rw[ay p7],M⟩)
 intro h7 a H
 try have p7:=dF h7
 exact kP H (Kc K2<|SR fun _ K1=>ak K1 M<|LR results77 M fun H=>H.rt ⟨by unfold bO;rw[au p7];rfl,rfl⟩)
theorem atK{G:GH}{l:List cZ}{xs:List aj}(h:bR G 5 (l.map cZ.dat) xs):xs=vE l:=by
 obtain⟨css,rfl,h2,h3⟩:=h;rw[bM]at h2
 have e:css=l.map cZ.cells:=by
  apply List.ext_getElem?
  intro j;rw[ql]
  by_cases hj:j<l.length
  ·have h4:=(h3 j l[j].dat css[j] (by simp[hj])<|gF O).1;rw[gF hj,gF O,afk h4];rfl
  rw[List.getElem?_eq_none O,List.getElem?_eq_none O];rfl
 rw[e];rfl
theorem afi(a b:List cZ):vE (a++b)=vE a++vE b:=by unfold vE;rw[iy,List.flatten_append]
abbrev AV(v:aj)(A:List cZ)(Lo:OL):Prop:=bT 134 5 v A.length (vE A) Lo
theorem AV.one{v:aj}{A:List cZ}{Lo:OL}(a:cZ)(h:bT 134 5 v (A.length+1) (vE A++a.cells) Lo):AV v (A++[a]) Lo:=by
 show bT _ 5 v (A++[a]).length (vE<|A++[a]) Lo
 rw[gT,afi]
 have e:vE [a]=a.cells:=by simp[vE]
 rw[e];exact h
theorem AV.app{G:GH}{v:aj}{A B:List cZ}{n:Nat}{news:List aj}{Lo:OL}(h:bT 134 5 v (A.length+n) (vE A++news) Lo)(hn:B.length=n)(hc:bR G 5 (B.map cZ.dat) news):AV v (A++B) Lo:=by
 show bT _ 5 v (A++B).length (vE<|A++B) Lo
 rw[gT,afi,hn,<-atK hc];exact h
def Yb(m:Nat):Prop:=∀(G:GH)(w0:World),Hold G w0->∀(g:Int)(l:List ah)(u:aj),av G (.sl 11 (l.map ah.dat)) u->eT l->aR l<m->
 Calls prog 66 #[u,vi g] w0 (bD w0 G fun r G'=>av G' (.sl 5 ((cB g 0 l).map cZ.dat)) r)
theorem agm {p:Prop} (h:p:=by
 exact kH H (Ri jI iC M M fun _ H=>fin H iJ M)):p:=h
theorem agn {p:Prop} (h:p:=by
 exact kH H (Rg qD M (aH hG RY) fun _ H=>fin H iJ M)):p:=h
theorem agp {p:Prop} (h:p:=by
 exact kH H (Ri ko iQ M M fun _ H=>fin H iJ M)):p:=h
theorem Mx {p:Prop} (h:p:=by
 refine dN [] M trivial V og M M ?_;intro aZ a w G1 hG HT H fin;exact afU):p:=h
theorem ahc {p:Prop} (h:p:=by
 refine dN [] M trivial V og M M ?_;intro aZ a w G1 hG HT H fin;exact afS):p:=h
theorem ahj {p:Prop} (h:p:=by
 intro aZ a w G1 hG HT H fin;exact kH H (Ro lX 0 M fun _ H=>fin H iJ M)):p:=h
set_option maxHeartbeats 4000000 in
theorem aEW{m:Nat}(ih:Yb m)(hm:m<=1073741824):Yb (m+1):=by
 intro G w0 hG g l u hu hok hz;obtain⟨A,c,rfl,hc1,hc2,hgu⟩:=hu.slice;rw[bM]at *;have hll:=wo l;have hln:=DZ g 0 l;have hml:maxLen=9223372036854775807:=rfl;refine eN [(0,_),(1,_)] func66 M ntmps66 M M hG ?_;intro a H;refine kP H<|SR fun _ K1=>ak K1 M<|SR fun _ K2=>ak K2 M<|SR fun _ K3=>ak K3 M<|SQ fun _ K4=>SR fun _ K5=>ak K5 M<|SB ?_;clear H K1 K2 K3 K5;intro a H;skip;refine dY (ι:=Nat×Nat×aj×List cZ×OL×GH) (Tc:=[(0,_),(1,_)]) (Lc:=[]) (fun gh=>[(5,gh.2.2.1),(6,vi gh.2.1),(7,vi gh.1)]) (fun gh=>[]++gh.2.2.2.2.1) (fun gh=>gh.2.2.2.2.2) (fun gh=>gh.1<=l.length∧AV gh.2.2.1 gh.2.2.2.1 gh.2.2.2.2.1∧gh.2.2.2.1++cB g gh.2.1 (l.drop gh.1)=cB g 0 l∧eT (l.drop gh.1)∧gh.2.1+aR (l.drop gh.1)<=4294967297∧(∀b o,G b=some o->gh.2.2.2.2.2 b=some o)) (fun gh=>l.length-gh.1) ((0,0,.slice none 0 0,[],[],G)) (by exact H.sub ⟨M,M,M,M,M,aC⟩) ?_ ?_
 ·exact⟨fP _,bT.nil,M,hok,by dsimp only;rw[xI];omega,fun _ _ h=>h⟩
 clear H;rintro⟨k,t,v5,A1,Lo,g1⟩ a w hI H;dsimp only at hI H;obtain⟨hk,hr1,hX,hok1,hat,hg1⟩:=hI
 have hl1:A1.length<=aR l:=by have:=cO List.length hX;rw[gT]at this;omega
 obtain⟨v5A,v5c,rfl,-,-⟩:=hr1.shape;dsimp only[lca,bq]at H;refine kP H (SQ fun _ K1=>SR fun _ K2=>Rm M<|Rm M<|Rl dM M<|Rc M<|Kz K2<|Cd M ?_ ?_)<;>clear H K2
 ·intro dW a H
  try have kF:=dT dW
  have hk2:k<l.length:=by omega
  obtain⟨b,o,pA,pn,pc,dA,dn,dc,yA,yn,yc,fA,fn,fc,rA,rn,rc,rfl,hrow,hhd,hfl,hrw⟩:=vI hk2 hgu;replace hrow:=fun j u hj=>aH hg1<|hrow j u hj;replace hfl:=hfl.mono hg1;replace hrw:=hrw.mono hg1;have hrn:=hrw.len;rw[bM]at hrn;subst hrn;have hzs:=asy hk2;have hzi:=lY l[k];have KA:=I8<|ig hk2;have FX:=acY l[k];rw[mg hk2]at hX hok1;obtain⟨hox,hok2⟩:=hok1.head;rw[cB,He,hox.n1]at hX;rw[hox.n1]at FX;obtain⟨x,hx⟩:∃x,x=l[k]:=⟨_,M⟩;rw[<-hx]at hX hox hrow hhd hfl hrw hzs hzi KA FX;have hrl:=ER x.rows;refine kP H<|Kc K1<|SQ fun _ K2=>SB<|SR fun _ K3=>Rm M<|Rm M<|Ri dM bL M M ?_;clear H K1;intro a H;refine aY bL (cs:=[vi x.kind,vi x.code,vi x.id,.string x.text,.slice pA pn pc,vi x.head.marks.ins,vi x.head.marks.move,.slice dA dn dc,.slice yA yn yc,.slice fA fn fc,.slice rA x.rows.length rc]) H wn M M (fun j v hj=>H.hp.aJ<|hrow j v hj) M ?_;clear H;intro a H;refine dK bL H wn M ?_;clear H;intro b8 a w Ee H;refine bH bL 0 (vs:=[_,_,_,_,_,_,_,_,_,_,_]) H wn M ?_;clear H;intro w H;refine K3 _ _ ?_;clear K3;refine rQ (ι:=aj×List cZ×OL) (Tc:=[(0,_),(1,_),(6,_),(7,_),(8,_)]) (Lc:=[(_,_)]) (fun gh=>[(5,gh.1)]) (fun gh=>[]++gh.2.2) (fun gh=>g1) (fun gh=>AV gh.1 gh.2.1 gh.2.2∧gh.2.1=A1++(if x.kind=8 then[⟨x.code,x.id,x.text,g,(t:Int)⟩]else[])) (by exact H.sub ⟨M,M,M,M,M,aC⟩) ?_ ?_
  ·skip;refine kP H (SR fun _ K1=>aV iW aF 0 M M<|Rc M<|Kz K1<|Cd M ?_ ?_)<;>clear H K1
   ·intro h23 a H
    try have rH:=dT h23
    refine kP H<|SC<|Rm M<|aV Fy aF 0 M M<|aV yO aF 0 M M<|aV pE gN 0 M M<|Rm M<|Rm M ?_;clear H;intro a H;refine jM Sb [_,_] H wn M M M M ?_;clear H;intro a H;refine jM aqU [_,_,_,_,_] H wn M M M M ?_;clear H;intro a H;refine iT oQ kG [_,_,_,_,_] [_,_,_,_,_] H wn M M M M M (by intro i q h;match i,h with|0,h=>exact h|n+1,h=>simp at h) M M ?_;clear H;intro b35 a w aJS H;refine lW (Li:=[_,_]) (Lo:=Lo) (news:=[vi x.code,vi x.id,.string x.text,vi g,vi t]) oQ kG M M H wn M M hr1 M (H.hp.dB 0 M M) M O O M ?_;clear H;intro v36 asS a w aDp H;refine kH H<|Ra M ?_;clear H;intro a H;refine aI ?_;refine⟨(v36,A1++[⟨x.code,x.id,x.text,g,(t:Int)⟩],asS),by exact(H.dR (Pl:=[_,_]) (dH:=[_]) [1] Z M).sub ⟨M,M,M,M,M,M,aC⟩,?_⟩;(try dsimp only);exact⟨AV.one ⟨x.code,x.id,x.text,g,(t:Int)⟩ aDp,by rw[ay rH]⟩
   intro h23 a H
   try have rH:=dF h23
   refine fU ?_;refine⟨(_,A1,Lo),by exact H.sub ⟨M,M,M,M,M,M,aC⟩,?_⟩;(try dsimp only);exact⟨hr1,by rw[au rH,iR]⟩
  clear H;rintro⟨v2,A2,OZ⟩ a w hI H;dsimp only at hI H;obtain⟨hr2,hX2⟩:=hI
  have hl2:A2.length<=aR l+1:=by rw[hX2,gT];split <;>simp only[lK,List.length_nil]<;>omega
  obtain⟨v2A,v2c,rfl,-,-⟩:=hr2.shape;dsimp only[lca,bq]at H;refine rQ (ι:=aj×List cZ×OL×GH) (Tc:=[(0,_),(1,_),(6,_),(7,_),(8,_)]) (Lc:=[(_,_)]) (fun gh=>[(5,gh.1)]) (fun gh=>[]++gh.2.2.1) (fun gh=>gh.2.2.2) (fun gh=>AV gh.1 gh.2.1 gh.2.2.1∧gh.2.1=A2++(if x.kind=6 then cB x.id 0 x.flow else[])∧gh.2.1.length<=aR l+1∧(∀b o,g1 b=some o->gh.2.2.2 b=some o)) (by exact H.sub ⟨M,M,M,M,M,aC⟩) ?_ ?_
  ·skip;refine kP H (SR fun _ K1=>aV iW aF 0 M M<|Rc M<|Kz K1<|Cd M ?_ ?_)<;>clear H K1
   ·intro nM a H
    try have p39:=dT nM
    refine kP H<|SC<|Rm M<|aV uU eG 0 M M<|aV yO aF 0 M M ?_;clear H;intro a H;refine s_call aaA H wn M (ih _ _ H.ro x.id x.flow _ hfl hox.fl O) M ?_;clear H;rintro v45 SL a w xY Ig H;obtain⟨A45,n45,ZV,rfl⟩:=xY.form;have hn45:=xY.len;rw[bM]at hn45;have aKd:=DZ x.id 0 x.flow;refine R4 (Li:=[_]) (Lo:=OZ) oQ kG M M H wn M M hr2 xY O O M ?_;clear H;intro v46 O1 aKD a w aDr aB3 H;refine kH H<|Ra M ?_;clear H;intro a H;refine aI ?_;refine⟨(v46,A2++cB x.id 0 x.flow,O1,SL),by exact H.sub ⟨M,M,M,M,M,M,aC⟩,?_⟩;(try dsimp only);exact⟨AV.app aDr hn45.symm aB3,by rw[ay p39],by have:=cO List.length hX;simp only[hX2,gT,ay p39,au (show¬x.kind=8 by omega),List.length_nil]at this|-;omega,Ig⟩
   intro nM a H
   try have p39:=dF nM
   refine fU ?_;refine⟨(_,A2,OZ,g1),by exact H.sub ⟨M,M,M,M,M,M,aC⟩,?_⟩;(try dsimp only);exact⟨hr2,by rw[au p39,iR],hl2,fun _ _ h=>h⟩
  clear H;rintro⟨v3,A3,Lo3,g2⟩ a w hI H;dsimp only at hI H;obtain⟨hr3,J8,hl3,hg2⟩:=hI;obtain⟨v3A,v3c,rfl,-,-⟩:=hr3.shape;dsimp only[lca,bq]at H;refine kP H<|SQ fun _ K1=>SR fun _ K3=>ak K3 M<|SB ?_;clear H K3;intro a H;skip;refine dY (ι:=Nat×aj×List cZ×OL×GH) (Tc:=[(0,_),(1,_),(6,_),(7,_),(8,_)]) (Lc:=[(_,_)]) (fun gh=>[(5,gh.2.1),(9,vi gh.1)]) (fun gh=>[]++gh.2.2.2.1) (fun gh=>gh.2.2.2.2) (fun gh=>gh.1<=x.rows.length∧AV gh.2.1 gh.2.2.1 gh.2.2.2.1∧gh.2.2.1++jT (x.rows.drop gh.1)=A3++jT x.rows∧(∀b o,g2 b=some o->gh.2.2.2.2 b=some o)) (fun gh=>x.rows.length-gh.1) ((0,_,A3,Lo3,g2)) (by exact H.sub ⟨M,M,M,M,M,M,M,aC⟩) ?_ ?_
  ·exact⟨fP _,hr3,M,fun _ _ h=>h⟩
  clear H;rintro⟨rk,v4,A4,Lo4,g3⟩ a w hI H;dsimp only at hI H;obtain⟨Im,hr4,wL,hg3⟩:=hI;obtain⟨v4A,v4c,rfl,-,-⟩:=hr4.shape;dsimp only[lca,bq]at H;refine kP H (SQ fun _ K3=>SR fun _ K5=>Rm M<|aV mZ lX 0 M M<|Rl jI M<|Rc M<|Kz K5<|Cd M ?_ ?_)<;>clear H K5
  ·intro jE a H
   try have p51:=dT jE
   have hk3:rk<x.rows.length:=by omega
   obtain⟨b2,o2,qA,qn,qc,eA,en,ec,zA,zn,zc,cA,cn,cc,rfl,hrow2,zk,hcl⟩:=Gg hk3 ((hrw.mono hg2).mono hg3).at_;have hcn:=hcl.len;rw[bM]at hcn;subst hcn;have r5:aJ g3 b2 (o2+rk*6+5)=some (.slice cA x.rows[rk].cells.length cc):=hrow2 5 _ M;have hsz2:=GL hk3;have hcs:=EP x.rows[rk].cells;have hoc:=hox.rw _ (ig hk3);have har:=Yo x.rows;rw[mg hk3,jT,aeS]at wL;obtain⟨y,hy⟩:∃y,y=x.rows[rk]:=⟨_,M⟩;rw[<-hy]at r5 wL hrow2 zk hcl hsz2 hcs hoc;refine kP H<|Kc K3<|SQ fun _ K5=>SB<|SR fun _ K6=>ak K6 M<|SB ?_;clear H K3 K6;intro a H;skip;refine dY (ι:=Nat×aj×List cZ×OL×GH) (Tc:=[(0,_),(1,_),(6,_),(7,_),(8,_),(9,_)]) (Lc:=[(_,_)]) (fun gh=>[(5,gh.2.1),(10,vi gh.1)]) (fun gh=>[]++gh.2.2.2.1) (fun gh=>gh.2.2.2.2) (fun gh=>gh.1<=y.cells.length∧AV gh.2.1 gh.2.2.1 gh.2.2.2.1∧gh.2.2.1++(kU (y.cells.drop gh.1)++jT (x.rows.drop<|rk+1))=A4++(kU y.cells++jT (x.rows.drop<|rk+1))∧(∀b o,g3 b=some o->gh.2.2.2.2 b=some o)) (fun gh=>y.cells.length-gh.1) ((0,_,A4,Lo4,g3)) (by exact H.sub ⟨M,M,M,M,M,M,M,M,aC⟩) ?_ ?_
   ·exact⟨fP _,hr4,M,fun _ _ h=>h⟩
   clear H;rintro⟨ck,v5',A5,Lo5,g4⟩ a w hI H;dsimp only at hI H;obtain⟨hck,hr5,Nf,hg4⟩:=hI;have RY:=aH hg4 r5
   have hl5:A5.length<=aR l+1+gB x.rows:=by
    have h1:=cO List.length Nf;have h2:=cO List.length wL
    simp only[gT]at h1 h2
    omega
   obtain⟨v6A,v6c,rfl,-,-⟩:=hr5.shape;dsimp only[lca,bq]at H;refine kP H (SQ fun _ K3=>SR fun _ K6=>Rm M<|aV mZ lX 0 M M<|Rm M<|Ri jI iC M M<|Rf rT M<|Rg qD M RY<|Rl ko M<|Rc M<|Kz K6<|Cd M ?_ ?_)<;>clear H K6
   ·intro CG a H
    try have p62:=dT CG
    have hk4:ck<y.cells.length:=by omega
    obtain⟨b3,o3,sA,sn,sc,tA,tn,tc,uA,un,uc,gA,gn,gc,rfl,hrow3,hch,hcf⟩:=Hr hk4 (hcl.mono hg4).at_;have NH:=GJ hk4;have Bz:=hoc _<|ig hk4;have hlz:=DZ y.cells[ck].id 0 y.cells[ck].flow;rw[mg hk4,kU,aeP,iG]at Nf;obtain⟨z,hzy⟩:∃z,z=y.cells[ck]:=⟨_,M⟩;rw[<-hzy]at Nf hrow3 hch hcf NH Bz hlz;refine kP H<|Kc K3<|SQ fun _ K6=>SB ?_;clear H K3;intro a H
    have og:yG (fun(cu:Nat)(v:aj)(G:GH)=>match cu with|0=>v=.slice v6A A5.length v6c|1=>v=(aK b8 10)|2=>v=.slice (some ⟨b2,o2,none⟩) x.rows.length rc|3=>v=vi rk|4=>v=(aK b2<|o2+rk*6)|5=>v=(aK b2<|o2+rk*6+5)|6=>v=.slice (some ⟨b3,o3,none⟩) y.cells.length cc|7=>v=vi ck|8=>v=(aK b3<|o3+ck*7)|9=>v=(aK b3<|o3+ck*7+6)|10=>v=.slice gA gn gc|11=>v=(aK b8 10)|12=>v=.slice (some ⟨b2,o2,none⟩) x.rows.length rc|13=>v=vi rk|14=>v=(aK b2<|o2+rk*6)|15=>v=(aK b2<|o2+rk*6+5)|16=>v=.slice (some ⟨b3,o3,none⟩) y.cells.length cc|17=>v=vi ck|18=>v=(aK b3<|o3+ck*7)|19=>v=(aK b3<|o3+ck*7+0)|20=>v=vi z.id|21=>av G (.sl 5 ((cB z.id 0 z.flow).map cZ.dat)) v|_=>True):=by intro cu v G G' hm h;(iterate 24 (rcases cu with _|cu;(first|exact h|exact av.mono hm h)));exact trivial
    refine yM (hmx) [[],[],[1],[],[1,2,3],ra 1 4,ra 1 5,[],ra 1 7,ra 1 8,ra 1 9,[],[11],[],[11,12,13],ra 11 4,ra 11 5,[],ra 11 7,ra 11 8,ra 11 9,ra 1 20,ra 0 22,ra 0 23] [22,23] V V _ og H ?_ ?_
    ·clear H;refine aD ?_ ?_ ?_ ?_<|aD ?_ ?_ ?_ ?_<|aD ?_ ?_ ?_ ?_<|aD ?_ ?_ ?_ ?_<|aD ?_ ?_ ?_ ?_<|aD ?_ ?_ (bX M) (bX M) dz
     ·exact Mx
     ·exact ahc
     ·refine dN [(1,66,_)] M ⟨fun _ _ h=>h,aC⟩ V og M M ?_;exact ahj
     ·exact Mx
     ·refine dN [(2,67,_),(3,68,_)] M ⟨fun _ _ h=>h,fun _ _ h=>h,aC⟩ V og M M ?_;intro aZ a w G1 hG HT H fin;exact agm
     ·refine dN [(4,69,_)] M ⟨fun _ _ h=>h,aC⟩ V og M M ?_;exact Pp
     ·refine dN [(5,70,_)] M ⟨fun _ _ h=>h,aC⟩ V og M M ?_;intro aZ a w G1 hG HT H fin;exact agn
     ·exact Mx
     ·refine dN [(6,71,_),(7,72,_)] M ⟨fun _ _ h=>h,fun _ _ h=>h,aC⟩ V og M M ?_;intro aZ a w G1 hG HT H fin;exact agp
     ·refine dN [(8,73,_)] M ⟨fun _ _ h=>h,aC⟩ V og M M ?_;exact TN
     ·refine dN [(9,74,_)] M ⟨fun _ _ h=>h,aC⟩ V og M M ?_;intro aZ a w G1 hG HT H fin;exact kH H<|Rg eG M (aH hG<|hrow3 6 _ M) fun _ H=>fin H iJ M
     ·exact ahc
     ·refine dN [(11,76,_)] M ⟨fun _ _ h=>h,aC⟩ V og M M ?_;exact ahj
     ·exact Mx
     ·refine dN [(12,77,_),(13,78,_)] M ⟨fun _ _ h=>h,fun _ _ h=>h,aC⟩ V og M M ?_;intro aZ a w G1 hG HT H fin;exact agm
     ·refine dN [(14,79,_)] M ⟨fun _ _ h=>h,aC⟩ V og M M ?_;exact Pp
     ·refine dN [(15,80,_)] M ⟨fun _ _ h=>h,aC⟩ V og M M ?_;intro aZ a w G1 hG HT H fin;exact agn
     ·exact Mx
     ·refine dN [(16,81,_),(17,82,_)] M ⟨fun _ _ h=>h,fun _ _ h=>h,aC⟩ V og M M ?_;intro aZ a w G1 hG HT H fin;exact agp
     ·refine dN [(18,83,_)] M ⟨fun _ _ h=>h,aC⟩ V og M M ?_;exact TP
     ·refine dN [(19,84,_)] M ⟨fun _ _ h=>h,aC⟩ V og M M ?_;intro aZ a w G1 hG HT H fin;exact kH H<|Rg aF M (aH hG<|hrow3 0 _ M) fun _ H=>fin H iJ M
     refine dN [(10,75,_),(20,85,_)] M ⟨fun _ _ h=>h,fun _ _ h=>h,aC⟩ V og M M ?_;intro aZ a w G1 hG HT H fin;refine s_call aaA H wn M (ih _ _ H.ro z.id z.flow _ (hcf.mono hG) Bz O) M ?_;clear H;rintro v86 G86 a w BA aBh H;exact fin H aBh<|BA
    clear H;intro a w G M7 H hv;have H:=H.aQ (hv 0 65 M M) M;obtain⟨u86,Rz,BA⟩:=hv 21 86 Z M;(try dsimp only at BA);obtain⟨A86,n86,c86,rfl⟩:=BA.form;have amQ:=BA.len;rw[bM]at amQ;have H:=H.fT Rz;clear hv;refine R4 (Li:=[_]) (Lo:=Lo5) oQ kG M M H wn M M hr5 BA O O M ?_;clear H;intro v87 asV aKE a w aDv aB4 H;refine kH H<|Ra M ?_;clear H;intro a H;refine aI ⟨M,?_⟩;refine K6 _ _ ?_;clear K6;refine kP H<|SC<|Rm M<|Rd M<|Ra M ?_;clear H;intro a H;refine aI ?_;refine dO ((ck+1,v87,A5++cB z.id 0 z.flow,asV,_)) (by exact H.sub ⟨M,M,M,M,M,M,M,M,aC⟩) ?_
    (try dsimp only);exact⟨O,AV.app aDv amQ.symm aB4,by rw[<-Nf,iG],fun b o h=>M7 b o<|hg4 b o h⟩
   intro CG a H
   try have p62:=dF CG
   refine dS ?_;refine K5 _ _ ?_;clear K5;refine kP H<|SC<|Rm M<|Rd M<|Ra M ?_;clear H;intro a H;refine aI ?_;refine dO ((rk+1,_,A5,Lo5,g4)) (by exact H.sub ⟨M,M,M,M,M,M,M,aC⟩) ?_
   (try dsimp only);rw[mh O,kU,fQ]at Nf;exact⟨O,hr5,Nf.trans wL,fun b o h=>hg4 b o<|hg3 b o h⟩
  intro jE a H
  try have p51:=dF jE
  refine dS ?_;refine K1 _ _ ?_;clear K1;refine kP H<|SC<|Rm M ?_;clear H;intro a H;refine aY bL (cs:=[_,_,_,_,_,_,_,_,_,_,_]) H wn M M (H.hp.dB 0 M M) M ?_;clear H;intro a H;refine s_call aaD H wn M (aep _ _ H.ro x _ _ _ _ _ _ _ _ _ O) M ?_;clear H;rintro v90 _ a w ⟨rfl,rfl⟩-H;refine kH H<|Rd M<|bZ K2 M<|SC<|Rm M<|Rd M<|Ra M ?_;clear H K2;intro a H;refine aI ?_;refine dO ((k+1,t+bO x,_,A4,Lo4,g3)) (by exact(H.dR (Pl:=[_]) (dH:=[]) [] Z M).sub ⟨M,M,M,M,M,aC⟩) ?_
  try dsimp only
  have Io:(if x.kind=7 then jT x.rows else[])=jT x.rows:=by
   by_cases h7:x.kind=7
   ·rw[ay h7]
   rw[au h7,hox.R3 h7];rfl
  rw[mh O,jT,iR]at wL;exact⟨O,hr4,by rw[wL,J8,hX2,<-hX,Io];simp only[iG],hok2,O,fun b o h=>hg3 b o<|hg2 b o<|hg1 b o h⟩
 intro dW a H
 try have kF:=dF dW
 refine dS ?_;refine K4 _ _ ?_;clear K4;refine kP H<|SR fun _ K2=>Rm M<|ak K2 M ?_;clear H K2;intro a H;refine lr H results66 M ?_;rw[mh O,cB,iR]at hX;obtain⟨Gr,hmr,hrep,H⟩:=St.qy (Li:=[]) H hr1 (rows:=A1.map cZ.dat) (by simp)<|YA _ _;exact H.rt (by rw[<-hX];exact hrep)
theorem aoD:∀m:Nat,m<=1073741825->Yb m
 |0,_=>fun _ _ _ _ _ _ _ _ h=>absurd h O
 |m+1,hm=>aEW (aoD m O) O
def Ar(A:List cZ)(c i:Int):Int:=match A.findIdx? (fun a=>decide (a.code=c∧a.id=i))with|some k=>k|none=>-1
theorem ali(G:GH)(w0:World)(hG:Hold G w0)(A:List cZ)(v:aj)(c i:Int)(hv:av G (.sl 5<|A.map cZ.dat) v)(hl:A.length<=4294967296) :
  Calls prog 144 #[v,vi c,vi i] w0 (bD w0 G fun u G'=>u=vi (Ar A c i)∧G=G'):=by
 obtain⟨vA,n,cc,rfl⟩:=hv.form;have hn:=hv.len;rw[bM]at hn;subst hn;refine eN [(0,_),(1,_),(2,_)] func144 M ntmps144 M M hG ?_;intro a H;refine kP H<|SR fun _ K1=>ak K1 M<|SQ fun _ K2=>SR fun _ K3=>ak K3 M<|SB ?_;clear H K1 K3;intro a H;skip;refine dY (ι:=Nat) (Tc:=[(0,_),(1,_),(2,_)]) (Lc:=[]) (fun gh=>[(7,vi gh)]) (fun gh=>[]) (fun gh=>G) (fun gh=>gh<=A.length∧(A.take gh).findIdx? (fun a=>decide<|a.code=c∧a.id=i)=none) (fun gh=>A.length-gh) (0) (by exact H.sub ⟨M,M,M,M,aC⟩) ?_ ?_
 ·exact⟨O,M⟩
 clear H;intro k a w hI H;obtain⟨hk,hno⟩:=hI;dsimp only[lca,bq]at H;refine kP H (SQ fun _ K1=>SR fun _ K3=>Rm M<|Rm M<|Rl oQ M<|Rc M<|Kz K3<|Cd M ?_ ?_)<;>clear H K3
 ·intro h11 a H
  try have pR:=dT h11
  have hk2:k<A.length:=by omega
  obtain⟨b,o,rfl,hrow⟩:=Jp hv hk2;refine kP H (Kc K1<|SQ fun _ K3=>SB<|SR fun _ K4=>Rm M<|Rm M<|Ri oQ kG M M<|Rf Hu M<|Rg aF M (hrow 0 _ M)<|Rm M<|Rc M<|Rm M<|Sp 21 M ?_ ?_)<;>clear H K1
  ·intro h21 a H
   try have sG:=dT h21
   refine kH H (YM h21 M<|YM h21 M<|YI oQ kG h21 M M<|YF D9 h21 M<|YR aF h21 M (hrow 1 _ M)<|YM h21 M<|YC h21 M<|Pt h21 M<|Kz K4<|Cd M ?_ ?_)<;>clear H K4
   ·intro kD a H
    try have p29:=dT kD
    exact kP H (SR fun _ K1=>Rm M<|ak K1 M<|LR results144 M fun H=>H.rt ⟨by unfold Ar;rw[VT hk2 hno (by simp_all)],M⟩)
   intro kD a H
   try have p29:=dF kD
   refine kP H<|Kc K3<|SC<|Rm M<|Rd M<|Ra M ?_;clear H K3;intro a H;refine aI ?_;refine dO ((k+1)) (by exact H.sub ⟨M,M,M,M,aC⟩) ?_
   exact⟨O,VR hk2 hno (by simp_all)⟩
  intro h21 a H
  try have sG:=dF h21
  refine kH H<|bJ h21 M<|aU h21 M<|aU h21 M<|Pf h21 M<|Kz K4<|Cf M M<|Kc K3<|SC<|Rm M<|Rd M<|Ra M ?_;clear H K4 K3;intro a H;refine aI ?_;refine dO ((k+1)) (by exact H.sub ⟨M,M,M,M,aC⟩) ?_
  exact⟨O,VR hk2 hno (by simp_all)⟩
 intro h11 a H
 try have pR:=dF h11
 refine dS ?_;refine K2 _ _ ?_;clear K2;exact kP H (SR fun _ K2=>ak K2 M<|LR results144 M fun H=>H.rt ⟨by rw[show A.take k=A from jX O]at hno;unfold Ar;rw[hno],M⟩)
section
section
variable{N:Nat}{D:List Deferred}{w0:World}{F:Nat->Prop}{G0 G G1 G2:GH}{L L1 L2:OL}{T Xs:List (Nat×aj)}
variable{r:Option Nat}{P:Program}{Q:Exit->Act->World->Prop}{l:List Oper}{a a':Act}{w w':World}
theorem auY{id:Nat}(hm:P.follows .mixedOrders=true)(bK:List (List Nat))(B:List Nat)(hk:xO l bK=true)(hB:yx l bK B=true)(m1 m2:Nat)(aCM:B.contains m1=false)(Vx:B.contains m2=false)(h12:(bK.getD m2 []).contains m1=true)(hne:Nat.beq m1 m2=false)(KR KS:Obj)(pr:Nat->Nat->aj->GH->Prop)
  (hp1:∀b b' i v G,Nat.beq i m1=false->(bK.getD i []).contains m1=false->pr b i v G->pr b' i v G)
  (H:St N D w0 F G0 G L T a w)
  (hstep:allI (fun i o=>∀b L' S a w G1,(∀x,x∈L->x∈L')->B.contains i=false->Nat.beq i m1=false->Nat.beq i m2=false->S i=false->(∀j∈bK.getD i [],S j=true)->(∀k o,G k=some o->G1 k=some o)->St N D w0 F G0 G1 L' T a w->(∀i d,S i=true->dZ l i=some d->∃v,a.tmps[d]?=some v∧pr b i v G1)->
   WL r P l.toArray (fun e a' w'=>e=.normal∧DX N D w0 F G0 G L' T l (pr b) (dD S i) a' w') [o] a w) 0 l)
  (QV:∀o S a w G1,l[m1]?=some o->S m1=false->(∀j∈bK.getD m1 [],S j=true)->(∀k o,G k=some o->G1 k=some o)->St N D w0 F G0 G1 L T a w->(∀b i d,i≠m1->S i=true->dZ l i=some d->∃v,a.tmps[d]?=some v∧pr b i v G1)->
   WL r P l.toArray (fun e a' w'=>e=.normal∧∃b,DX N D w0 F G0 G ((b,KR)::L) T l (pr b) (dD S m1) a' w') [o] a w)
  (QW:∀o b S a w G1,l[m2]?=some o->S m2=false->(∀j∈bK.getD m2 [],S j=true)->(∀k o,G k=some o->G1 k=some o)->St N D w0 F G0 G1 ((b,KR)::L) T a w->(∀i d,S i=true->dZ l i=some d->∃v,a.tmps[d]?=some v∧pr b i v G1)->
   WL r P l.toArray (fun e a' w'=>e=.normal∧DX N D w0 F G0 G ((b,KS)::L) T l (pr b) (dD S m2) a' w') [o] a w)
  (hend:∀b a w G1,(∀k o,G k=some o->G1 k=some o)->St N D w0 F G0 G1 ((b,KS)::L) T a w->(∀i d,B.contains i=false->dZ l i=some d->∃v,a.tmps[d]?=some v∧pr b i v G1)->WL r P l.toArray (fun e a w=>e=.normal∧Q .normal a w) (qM l B) a w)
  (FQ:Nat.blt m2 l.length=true):WP r P (.region id l.toArray true) Q a w:=by
 have hne':m1≠m2:=fun e=>by subst e;rw[Nat.beq_refl]at hne;cases hne
 refine JG hm bK B hk hB (fun S a w=>(S m2=true->S m1=true)∧∃b L',L'=(bif S m2 then(b,KS)::L else bif S m1 then(b,KR)::L else L)∧DX N D w0 F G0 G L' T l (pr b) S a w)
  ⟨fun h=>h,0,L,M,G,fun _ _ h=>h,H.move H.hp.drew,fun _ _ h=>absurd (show false=true from h) Z⟩ ?_ ?_
 ·rintro i o S a w ho hb aM jA hdesc ⟨FR,b,L',hL,G1,hG,HS,hv⟩
  have hsub:∀x,x∈L->x∈L':=fun x hx=>by
   rw[hL]
   cases S m2 with
   |true=>exact gH _ hx
   |false=>cases S m1 with
    |true=>exact gH _ hx
    |false=>exact hx
  have hno:∀j,j<l.length->S j=true->(bK.getD j []).contains i=false:=fun j hjl hj=>by
   cases hc:(bK.getD j []).contains i with
   |false=>rfl
   |true=>
    have:=hdesc j hjl (by simpa using hc)
    rw[this]at hj;cases hj
  by_cases h1:i=m1
  ·subst h1
   have hs2:S m2=false:=by
    cases hs:S m2 with
    |false=>rfl
    |true=>rw[FR hs]at aM;cases aM
   rw[hs2,aM]at hL
   subst hL
   have h:=QV o S a w G1 ho aM jA hG HS fun b' j d hj hSj hd=>by
    obtain⟨v,hv1,hv2⟩:=hv j d hSj hd
    exact⟨v,hv1,hp1 b b' j v _ (qY hj) (hno j (rR hd) hSj) hv2⟩
   refine mU (fun e a' w'⟨he,b',hD⟩=>⟨he,fun _=>ay M,b',_,?_,hD⟩) h
   rw[show dD S i i=true from ay M,show dD S i m2=S m2 from au (fun e=>hne' e.symm),hs2]
   rfl
  ·by_cases h2:i=m2
   ·subst h2
    have hs1:S m1=true:=jA m1 (by simpa using h12)
    rw[aM,hs1]at hL
    subst hL
    have h:=QW o b S a w G1 ho aM jA hG HS hv
    refine mU (fun e a' w'⟨he,hD⟩=>⟨he,fun _=>by rw[show dD S i m1=S m1 from au hne'];exact hs1,b,_,?_,hD⟩) h
    rw[show dD S i i=true from ay M]
    rfl
   ·have h:=zM hstep i o ho
    rw[fB]at h
    have e1:dD S i m1=S m1:=au<|fun e=>h1 e.symm
    have e2:dD S i m2=S m2:=au<|fun e=>h2 e.symm
    refine mU (fun e a' w'⟨he,hD⟩=>⟨he,by rw[e1,e2];exact FR,b,L',?_,hD⟩)<|h b L' S a w G1 hsub hb (qY h1) (qY h2) aM jA hG HS hv
    rw[e1,e2];exact hL
 ·rintro S a w hall Nt ⟨FR,b,L',hL,G1,hG,HS,hv⟩
  have hs2:S m2=true:=hall m2 (Eq.mp Nat.blt_eq FQ) Vx
  rw[hs2]at hL
  subst hL
  exact hend b a w G1 hG HS fun j d hb hd=>hv j d (hall j (rR hd) hb) hd
theorem aiL{id:Nat}{κ:Type}(k0:κ)(hm:P.follows .mixedOrders=true)(bK:List (List Nat))(B:List Nat)(hk:xO l bK=true)(hB:yx l bK B=true)(m0 m1 m2:Nat)(Vx:B.contains m2=false)(h02:(bK.getD m2 []).contains m0=true)(h12:(bK.getD m2 []).contains m1=true)(hne:Nat.beq m1 m2=false)(hne0:Nat.beq m0 m2=false)(hne1:Nat.beq m0 m1=false)(KR:Obj)(KS:κ->Obj)(pr:Nat->κ->Nat->aj->GH->Prop)
  (hp1:∀b b' k i v G,Nat.beq i m1=false->(bK.getD i []).contains m1=false->pr b k i v G->pr b' k i v G)
  (hp0:∀b k k' i v G,Nat.beq i m0=false->(bK.getD i []).contains m0=false->pr b k i v G->pr b k' i v G)
  (H:St N D w0 F G0 G L T a w)
  (hstep:allI (fun i o=>∀b k L' S a w G1,(∀x,x∈L->x∈L')->B.contains i=false->Nat.beq i m0=false->Nat.beq i m1=false->Nat.beq i m2=false->S i=false->(∀j∈bK.getD i [],S j=true)->(∀k o,G k=some o->G1 k=some o)->St N D w0 F G0 G1 L' T a w->(∀i d,S i=true->dZ l i=some d->∃v,a.tmps[d]?=some v∧pr b k i v G1)->
   WL r P l.toArray (fun e a' w'=>e=.normal∧DX N D w0 F G0 G L' T l (pr b k) (dD S i) a' w') [o] a w) 0 l)
  (aCO:∀o b L' S a w G1,(∀x,x∈L->x∈L')->l[m0]?=some o->S m0=false->(∀j∈bK.getD m0 [],S j=true)->(∀k o,G k=some o->G1 k=some o)->St N D w0 F G0 G1 L' T a w->(∀k i d,i≠m0->S i=true->dZ l i=some d->∃v,a.tmps[d]?=some v∧pr b k i v G1)->
   WL r P l.toArray (fun e a' w'=>e=.normal∧∃k,DX N D w0 F G0 G L' T l (pr b k) (dD S m0) a' w') [o] a w)
  (QV:∀o k S a w G1,l[m1]?=some o->S m1=false->(∀j∈bK.getD m1 [],S j=true)->(∀k o,G k=some o->G1 k=some o)->St N D w0 F G0 G1 L T a w->(∀b i d,i≠m1->S i=true->dZ l i=some d->∃v,a.tmps[d]?=some v∧pr b k i v G1)->
   WL r P l.toArray (fun e a' w'=>e=.normal∧∃b,DX N D w0 F G0 G ((b,KR)::L) T l (pr b k) (dD S m1) a' w') [o] a w)
  (QW:∀o b k S a w G1,l[m2]?=some o->S m2=false->(∀j∈bK.getD m2 [],S j=true)->(∀k o,G k=some o->G1 k=some o)->St N D w0 F G0 G1 ((b,KR)::L) T a w->(∀i d,S i=true->dZ l i=some d->∃v,a.tmps[d]?=some v∧pr b k i v G1)->
   WL r P l.toArray (fun e a' w'=>e=.normal∧DX N D w0 F G0 G ((b,KS k)::L) T l (pr b k) (dD S m2) a' w') [o] a w)
  (hend:∀b k a w G1,(∀k o,G k=some o->G1 k=some o)->St N D w0 F G0 G1 ((b,KS k)::L) T a w->(∀i d,B.contains i=false->dZ l i=some d->∃v,a.tmps[d]?=some v∧pr b k i v G1)->WL r P l.toArray (fun e a w=>e=.normal∧Q .normal a w) (qM l B) a w)
  (FQ:Nat.blt m2 l.length=true):WP r P (.region id l.toArray true) Q a w:=by
 have hne':m1≠m2:=fun e=>by subst e;rw[Nat.beq_refl]at hne;cases hne
 have aCR:m0≠m2:=fun e=>by subst e;rw[Nat.beq_refl]at hne0;cases hne0
 have aKk:m0≠m1:=fun e=>by subst e;rw[Nat.beq_refl]at hne1;cases hne1
 refine JG hm bK B hk hB (fun S a w=>(S m2=true->S m1=true∧S m0=true)∧∃b k L',L'=(bif S m2 then(b,KS k)::L else bif S m1 then(b,KR)::L else L)∧DX N D w0 F G0 G L' T l (pr b k) S a w)
  ⟨fun h=>⟨h,h⟩,0,k0,L,M,G,fun _ _ h=>h,H.move H.hp.drew,fun _ _ h=>absurd (show false=true from h) Z⟩ ?_ ?_
 ·rintro i o S a w ho hb aM jA hdesc ⟨FR,b,k,L',hL,G1,hG,HS,hv⟩
  have hsub:∀x,x∈L->x∈L':=fun x hx=>by
   rw[hL]
   cases S m2 with
   |true=>exact gH _ hx
   |false=>cases S m1 with
    |true=>exact gH _ hx
    |false=>exact hx
  have hno:∀j,j<l.length->S j=true->(bK.getD j []).contains i=false:=fun j hjl hj=>by
   cases hc:(bK.getD j []).contains i with
   |false=>rfl
   |true=>
    have:=hdesc j hjl (by simpa using hc)
    rw[this]at hj;cases hj
  have hnot:i=m1∨i=m0->S m2=false:=fun h=>by
   cases hs:S m2 with
   |false=>rfl
   |true=>
    obtain⟨g1,g0⟩:=FR hs
    rcases h with rfl|rfl
    ·rw[g1]at aM;cases aM
    ·rw[g0]at aM;cases aM
  by_cases h1:i=m1
  ·have hs2:=hnot (.inl h1);clear hnot
   subst h1
   rw[hs2,aM]at hL
   subst hL
   have h:=QV o k S a w G1 ho aM jA hG HS fun b' j d hj hSj hd=>by
    obtain⟨v,hv1,hv2⟩:=hv j d hSj hd
    exact⟨v,hv1,hp1 b b' k j v _ (qY hj) (hno j (rR hd) hSj) hv2⟩
   refine mU (fun e a' w'⟨he,b',hD⟩=>⟨he,fun hx=>?_,b',k,_,?_,hD⟩) h
   ·rw[show dD S i m2=S m2 from au (fun e=>hne' e.symm),hs2]at hx;cases hx
   ·rw[show dD S i i=true from ay M,show dD S i m2=S m2 from au (fun e=>hne' e.symm),hs2]
    rfl
  ·by_cases h2:i=m2
   ·subst h2
    have hs1:S m1=true:=jA m1 (by simpa using h12)
    have hs0:S m0=true:=jA m0 (by simpa using h02)
    rw[aM,hs1]at hL
    subst hL
    have h:=QW o b k S a w G1 ho aM jA hG HS hv
    refine mU (fun e a' w'⟨he,hD⟩=>⟨he,fun _=>?_,b,k,_,?_,hD⟩) h
    ·rw[show dD S i m1=S m1 from au hne',show dD S i m0=S m0 from au aCR];exact⟨hs1,hs0⟩
    ·rw[show dD S i i=true from ay M]
     rfl
   ·have e1:dD S i m1=S m1:=au<|fun e=>h1 e.symm
    have e2:dD S i m2=S m2:=au<|fun e=>h2 e.symm
    by_cases h0:i=m0
    ·have hs2:=hnot (.inr h0);clear hnot
     subst h0
     have h:=aCO o b L' S a w G1 hsub ho aM jA hG HS fun k' j d hj hSj hd=>by
      obtain⟨v,hv1,hv2⟩:=hv j d hSj hd
      exact⟨v,hv1,hp0 b k k' j v _ (qY hj) (hno j (rR hd) hSj) hv2⟩
     refine mU (fun e a' w'⟨he,k',hD⟩=>⟨he,fun hx=>?_,b,k',L',?_,hD⟩) h
     ·rw[e2,hs2]at hx;cases hx
     ·rw[e1,e2,hL,hs2];rfl
    ·have h:=zM hstep i o ho
     rw[fB]at h
     have e0:dD S i m0=S m0:=au<|fun e=>h0 e.symm
     refine mU (fun e a' w'⟨he,hD⟩=>⟨he,by rw[e1,e2,e0];exact FR,b,k,L',?_,hD⟩)<|h b k L' S a w G1 hsub hb (qY h0) (qY h1) (qY h2) aM jA hG HS hv
     rw[e1,e2];exact hL
 ·rintro S a w hall Nt ⟨FR,b,k,L',hL,G1,hG,HS,hv⟩
  have hs2:S m2=true:=hall m2 (Eq.mp Nat.blt_eq FQ) Vx
  rw[hs2]at hL
  subst hL
  exact hend b k a w G1 hG HS fun j d hb hd=>hv j d (hall j (rR hd) hb) hd
end
end
theorem ajN:aW 144:=aX func144 M
theorem agq {p:Prop} (h:p:=by
 exact ⟨h1,k,hk,M,fun j hj=>by simpa using h2 j hj⟩):p:=h
theorem aoc{A:List cZ}{p:cZ->Bool}:match A.findIdx? p with|some k=>∃hk:k<A.length,A.find? p=some A[k]|none=>A.find? p=none:=by
 cases h:A.findIdx? p with
 |none=>
  dsimp only;rw[List.find?_eq_none];intro x hx;have:=List.findIdx?_eq_none_iff.1 h x hx
  simp[this]
 |some k=>
  obtain⟨hk,h1,h2⟩:=List.findIdx?_eq_some_iff_getElem.1 h;refine⟨hk,?_⟩;rw[List.find?_eq_some_iff_getElem];exact agq
theorem acJ{A:List cZ}{c i:Int}(h:¬0<=Ar A c i):mH A c i=none:=by
 have:=aoc (A:=A) (p:=fun a=>decide<|a.code=c∧a.id=i)
 unfold Ar at h
 cases hk:A.findIdx? (fun a=>decide<|a.code=c∧a.id=i)with
 |none=>rw[hk]at this;exact this
 |some k=>rw[hk]at h;exact absurd (Int.natCast_nonneg k) h
theorem aoa{A:List cZ}{c i:Int}(h:0<=Ar A c i):∃(j:Nat)(hj:j<A.length),Ar A c i=j∧mH A c i=some A[j]:=by
 have:=aoc (A:=A) (p:=fun a=>decide<|a.code=c∧a.id=i)
 unfold Ar at h|-
 cases hk:A.findIdx? (fun a=>decide<|a.code=c∧a.id=i)with
 |none=>rw[hk]at h;exact absurd h Z
 |some k=>rw[hk]at this;obtain⟨hj,e⟩:=this;exact⟨k,hj,M,e⟩
theorem anZ{A:List cZ}(hnd:A.Nodup){c:Int}{k:Nat}(hk:k<A.length)(hc:A[k].code=c):(!decide (Ar A c A[k].id=(k:Int)))=!uZ A c A[k]:=by
 have hmem:0<=Ar A c A[k].id:=by
  unfold Ar
  cases hi:A.findIdx? (fun a=>decide<|a.code=c∧a.id=A[k].id)with
  |none=>
   have:=List.findIdx?_eq_none_iff.1 hi A[k]<|ig hk
   simp[hc]at this
  |some j=>exact Int.natCast_nonneg j
 obtain⟨j,hj,e1,e2⟩:=aoa hmem
 unfold uZ
 rw[e1,e2]
 congr 1
 rw[zL,decide_eq_true_iff,decide_eq_true_iff]
 constructor
 ·intro e
  obtain rfl:j=k:=by omega
  exact⟨hc,M⟩
 rintro⟨-,e⟩;have:=(List.getElem_inj hnd).1<|Option.some.inj e
 omega
theorem auF {p:Prop} (h:p:=by
 exact ⟨O,by rw [aqN hk2 (by first|(simp [uZ,pV];done)|(have:=anZ hnd hk2 (nL.1 pV);simp_all))];exact hrw,hgm⟩):p:=h
theorem agr {p:Prop} (h:p:=by
 exact Ht HT Hb hG hv (aC8 bP) H M):p:=h
theorem Y4 {p:Prop} (h:p:=by
 exact awP M HT hG hv H):p:=h
theorem auH {p:Prop} (h:p:=by
 exact kH H (YR aF (aG c0) M (aH hG (by have:=Il 3 _ M;rw [e1];exact this)) fun _ H=>fin H iJ M)):p:=h
theorem auI {p:Prop} (h:p:=by
 first|exact absurd f1 c1|(have:=of_decide_eq_false Qs;omega)|exact absurd h0 c0):p:=h
theorem Mw {p:Prop} (h:p:=by
 intro bP gI aZ a w G1 gU _ _ _ aM hc hG HT hv;have H:=HT;clear aM;have Hb:=H.full;have H:=Hb;clear hc;refine kH H (Rm M ?_);clear H;intro a H;refine aI ⟨M,?_⟩;exact agr):p:=h
theorem Hq {p:Prop} (h:p:=by
 clear H;intro a H;refine aI ⟨M,?_⟩;exact agr):p:=h
theorem aie {p:Prop} (h:p:=by
 refine dS ?_;refine K2 _ _ ?_;clear K2;refine kP H (SC (Rm M (Rd M (Ra M ?_))));clear H;intro a H;refine aI ?_;refine dO ((k+1,_,Lo,g)) (by exact H.sub ⟨M,M,M,M,aC⟩) ?_
 (try dsimp only);exact auF):p:=h
theorem ZN {p:Prop} (h:p:=by
 obtain⟨j,e1,hj,e2,-⟩:=hrow' h0;rw[e2];dsimp only;rintro⟨f1,f2⟩
 exact auI):p:=h
theorem agX {p:Prop} (h:p:=by
 refine fu 7 75 2 70 M M fun _ a w G1 hG HT H fin=>?_;obtain ⟨j,e1,hj,e2,Il⟩:=hrow' c0;exact auH):p:=h
theorem aht {p:Prop} (h:p:=by
 refine xC 3 71 4 72 2 70 M M fun _ a w G1 hG HT H fin=>?_;obtain ⟨j,e1,hj,e2,Il⟩:=hrow' c0;refine Dp oQ kG K.toNat H (wg H M M (aG c0)) M M O O M ?_;exact jD):p:=h
theorem Zl {p:Prop} (h:p:=by
 have Hb:=H.full;have H:=Hb;clear hc;refine kH H (Ri oQ kG M M ?_);exact Hq):p:=h
set_option maxHeartbeats 4000000 in
theorem aEX(G:GH)(w0:World)(hG:Hold G w0)(A:List cZ)(v:aj)(code:Int)(hv:av G (.sl 5<|A.map cZ.dat) v)(hl:A.length<=1073741824)(hnd:A.Nodup)(Ie:∀a∈A,0<=a.at_∧a.at_<=4294967296)(hc:0<=code∧code<=100) :
  Calls prog 67 #[v,vi code] w0 (bD w0 G fun u G'=>av G' (.sl 6 ((sI A code).map lI.dat)) u):=by
 obtain⟨vA,n,cc,rfl⟩:=hv.form;have hn:=hv.len;rw[bM]at hn;subst hn;have hml:maxLen=9223372036854775807:=rfl;refine eN [(0,_),(1,_)] func67 M ntmps67 M M hG ?_;intro a H;refine kP H<|SR fun _ K1=>ak K1 M<|SR fun _ K2=>ak K2 M<|SQ fun _ K3=>SR fun _ K4=>ak K4 M<|SB ?_;clear H K1 K2 K4;intro a H;skip;refine dY (ι:=Nat×aj×OL×GH) (Tc:=[(0,_),(1,_)]) (Lc:=[]) (fun gh=>[(5,gh.2.1),(6,vi gh.1)]) (fun gh=>[]++gh.2.2.1) (fun gh=>gh.2.2.2) (fun gh=>gh.1<=A.length∧bT 67 6 gh.2.1 (wV A code gh.1).length (K9<|wV A code gh.1) gh.2.2.1∧(∀b o,G b=some o->gh.2.2.2 b=some o)) (fun gh=>A.length-gh.1) ((0,.slice none 0 0,[],G)) (by exact H.sub ⟨M,M,M,M,aC⟩) ?_ ?_
 ·exact⟨fP _,bT.nil,fun _ _ h=>h⟩
 clear H;rintro⟨k,v5,Lo,g⟩ a w hI H;dsimp only at hI H;obtain⟨hk,hrw,hgm⟩:=hI;have hsl:=aqM A code k hk;obtain⟨v5A,v5c,rfl,-,-⟩:=hrw.shape;dsimp only[lca,bq]at H;refine kP H (SQ fun _ K1=>SR fun _ K2=>Rm M<|Rm M<|Rl oQ M<|Rc M<|Kz K2<|Cd M ?_ ?_)<;>clear H K2
 ·intro h12 a H
  try have nU:=dT h12
  have hk2:k<A.length:=by omega
  obtain⟨b,o,rfl,hrow⟩:=Jp (hv.mono hgm) hk2;obtain⟨ha0,ha1⟩:=Ie A[k]<|ig hk2;refine kP H (Kc K1<|SQ fun _ K2=>SB<|SQ fun _ K4=>SR fun _ K5=>Rm M<|Rm M<|Ri oQ kG M M<|Rf Hu M<|Rg aF M (hrow 0 _ M)<|Rm M<|Rc M<|Rm M<|Sp 22 M ?_ ?_)<;>clear H K1
  ·intro h22 a H
   try have pV:=dT h22
   refine kH H<|bJ h22 M<|bJ h22 M<|aU h22 M<|aU h22 M<|Pt h22 M<|Kz K5<|Ct M M ?_;clear H K5;intro a H;exact aie
  intro h22 a H
  try have pV:=dF h22
  refine kH H<|YM h22 M<|YM h22 M<|YM h22 M<|YM h22 M<|YI oQ kG h22 M M<|YF D9 h22 M<|YR aF h22 M (hrow 1 _ M) ?_;clear H;intro a H;refine s_call ajN H (wg H M M h22) M (ali _ _ H.ro A _ code A[k].id (hv.mono hgm) O) M ?_;clear H;rintro v30 _ a w ⟨rfl,rfl⟩-H;refine kH H (YM h22 M<|YC h22 M<|Pf h22 M<|Kz K5<|Cd M ?_ ?_)<;>clear H K5
  ·intro M6 a H
   try have p33:=dT M6
   exact aie
  intro M6 a H
  try have p33:=dF M6
  have hst:uZ A code A[k]=true:=by
   have h1:A[k].code=code:=by first|exact nL.1 pV|simp_all
   have h2:=anZ hnd hk2 h1
   have h3:Ar A code A[k].id=(k:Int):=by simp_all
   rw[kZ h3]at h2
   simpa using h2
  refine fU ?_;refine K4 _ _ ?_;clear K4;refine bU<|fun _ K1=>?_
  have aC8:∀(bP cu:Nat)(v:aj)(G G':GH),(∀k o,G k=some o->G' k=some o)->(fun(bP cu:Nat)(v:aj)(G:GH)=>match cu with|0=>v=.slice (some ⟨b,o,none⟩) A.length cc|1=>v=vi k|2=>v=(aK b<|o+k*5)|3=>v=(aK b<|o+k*5+1)|4=>v=vi A[k].id|5=>v=.slice (some ⟨b,o,none⟩) A.length cc|6=>v=vi k|7=>v=(aK b<|o+k*5)|8=>v=(aK b<|o+k*5+2)|9=>v=.string A[k].name|10=>v=.slice (some ⟨b,o,none⟩) A.length cc|11=>v=vi k|12=>v=(aK b<|o+k*5)|13=>v=(aK b<|o+k*5+3)|14=>v=.agg #[vi A[k].flow,vi A[k].at_]|15=>v=.agg #[vi A[k].id,.string A[k].name,vi A[k].flow,vi A[k].at_,vi 0,vi 0]|16=>v=(aK bP 0)|_=>True) bP cu v G->(fun(bP cu:Nat)(v:aj)(G:GH)=>match cu with|0=>v=.slice (some ⟨b,o,none⟩) A.length cc|1=>v=vi k|2=>v=(aK b<|o+k*5)|3=>v=(aK b<|o+k*5+1)|4=>v=vi A[k].id|5=>v=.slice (some ⟨b,o,none⟩) A.length cc|6=>v=vi k|7=>v=(aK b<|o+k*5)|8=>v=(aK b<|o+k*5+2)|9=>v=.string A[k].name|10=>v=.slice (some ⟨b,o,none⟩) A.length cc|11=>v=vi k|12=>v=(aK b<|o+k*5)|13=>v=(aK b<|o+k*5+3)|14=>v=.agg #[vi A[k].flow,vi A[k].at_]|15=>v=.agg #[vi A[k].id,.string A[k].name,vi A[k].flow,vi A[k].at_,vi 0,vi 0]|16=>v=(aK bP 0)|_=>True) bP cu v G':=by
   intro bP cu v G G' hm h
   match cu,h with
   |0,h=>exact h
   |1,h=>exact h
   |2,h=>exact h
   |3,h=>exact h
   |4,h=>exact h
   |5,h=>exact h
   |6,h=>exact h
   |7,h=>exact h
   |8,h=>exact h
   |9,h=>exact h
   |10,h=>exact h
   |11,h=>exact h
   |12,h=>exact h
   |13,h=>exact h
   |14,h=>exact h
   |15,h=>exact h
   |16,h=>exact h
   |17,h=>exact trivial
   |_+18,h=>exact trivial
  refine auY (hmx) [[],[],[0,1],[0,1,2],ra 0 4,[],[],[5,6],[5,6,7],ra 5 4,[],[],[10,11],[10,11,12],ra 10 4,ra 0 15,[],ra 0 17] [] V V 16 17 Z Z Z Z (.cells #[vi 0,.string ⟨#[]⟩,vi 0,vi 0,vi 0,vi 0] 67 (0,0)) (.cells #[vi A[k].id,.string A[k].name,vi A[k].flow,vi A[k].at_,vi 0,vi 0] 67 (0,0)) (fun(bP cu:Nat)(v:aj)(G:GH)=>match cu with|0=>v=.slice (some ⟨b,o,none⟩) A.length cc|1=>v=vi k|2=>v=(aK b<|o+k*5)|3=>v=(aK b<|o+k*5+1)|4=>v=vi A[k].id|5=>v=.slice (some ⟨b,o,none⟩) A.length cc|6=>v=vi k|7=>v=(aK b<|o+k*5)|8=>v=(aK b<|o+k*5+2)|9=>v=.string A[k].name|10=>v=.slice (some ⟨b,o,none⟩) A.length cc|11=>v=vi k|12=>v=(aK b<|o+k*5)|13=>v=(aK b<|o+k*5+3)|14=>v=.agg #[vi A[k].flow,vi A[k].at_]|15=>v=.agg #[vi A[k].id,.string A[k].name,vi A[k].flow,vi A[k].at_,vi 0,vi 0]|16=>v=(aK bP 0)|_=>True) (fun b b' i v G hi hc h=>by(iterate 18 (rcases i with _|i;(first|exact h|exact absurd hi Z|exact absurd hc Z)));exact trivial) H ?_ ?_ ?_ ?_ V
  ·clear H;refine aD ?_ ?_ ?_ ?_<|aD ?_ ?_ ?_ ?_<|aD ?_ ?_ ?_ ?_<|aD ?_ ?_ ?_ ?_<|bE ?_<|bE ?_ dz
   ·exact Mw
   ·exact Mw
   ·intro bP gI aZ a w G1 gU _ _ _ aM hc hG HT hv;have H:=HT;clear aM;have H:=H.aQ (hv 0 34 (hc 0 Z) M) M;have H:=H.aQ (hv 1 35 (hc 1 Z) M) M;exact Zl
   ·intro bP gI aZ a w G1 gU _ _ _ aM hc hG HT hv;have H:=HT;clear aM;have H:=H.aQ (hv 2 36 (hc 2 Z) M) M;have Hb:=H.full;have H:=Hb;clear hc;refine kH H<|Rf D9 M ?_;exact Hq
   ·intro bP gI aZ a w G1 gU _ _ _ aM hc hG HT hv;have H:=HT;clear aM;have H:=H.aQ (hv 3 37 (hc 3 Z) M) M;have Hb:=H.full;have H:=Hb;clear hc;refine kH H<|Rg aF M (aH hG<|hrow 1 _ M) ?_;exact Hq
   ·exact Mw
   ·exact Mw
   ·intro bP gI aZ a w G1 gU _ _ _ aM hc hG HT hv;have H:=HT;clear aM;have H:=H.aQ (hv 5 39 (hc 5 Z) M) M;have H:=H.aQ (hv 6 40 (hc 6 Z) M) M;exact Zl
   ·intro bP gI aZ a w G1 gU _ _ _ aM hc hG HT hv;have H:=HT;clear aM;have H:=H.aQ (hv 7 41 (hc 7 Z) M) M;have Hb:=H.full;have H:=Hb;clear hc;refine kH H<|Rf akG M ?_;exact Hq
   ·intro bP gI aZ a w G1 gU _ _ _ aM hc hG HT hv;have H:=HT;clear aM;have H:=H.aQ (hv 8 42 (hc 8 Z) M) M;have Hb:=H.full;have H:=Hb;clear hc;refine kH H<|Rg gN M (aH hG<|hrow 2 _ M) ?_;exact Hq
   ·exact Mw
   ·exact Mw
   ·intro bP gI aZ a w G1 gU _ _ _ aM hc hG HT hv;have H:=HT;clear aM;have H:=H.aQ (hv 10 44 (hc 10 Z) M) M;have H:=H.aQ (hv 11 45 (hc 11 Z) M) M;exact Zl
   ·intro bP gI aZ a w G1 gU _ _ _ aM hc hG HT hv;have H:=HT;clear aM;have H:=H.aQ (hv 12 46 (hc 12 Z) M) M;have Hb:=H.full;have H:=Hb;clear hc;refine kH H<|Rf Bh M ?_;exact Hq
   ·intro bP gI aZ a w G1 gU _ _ _ aM hc hG HT hv;have H:=HT;clear aM;have H:=H.aQ (hv 13 47 (hc 13 Z) M) M;have Hb:=H.full;have H:=Hb;clear hc;refine aY DF (cs:=[vi A[k].flow,vi A[k].at_]) H wn M M (fun j v hj=>H.hp.aJ<|aH hG (by match j,hj with|0,hj=>exact hrow 3 v hj|1,hj=>exact hrow 4 v hj)) M ?_;exact Hq
   ·intro bP gI aZ a w G1 gU _ _ _ aM hc hG HT hv;have H:=HT;clear aM;have H:=H.aQ (hv 4 38 (hc 4 Z) M) M;have H:=H.aQ (hv 9 43 (hc 9 Z) M) M;have H:=H.aQ (hv 14 48 (hc 14 Z) M) M;have Hb:=H.full;have H:=Hb;clear hc;refine jM WZ [_,_,_,_,_,_] H wn M M M M ?_;exact Hq
   ·exact Fg
   exact TQ
  ·clear H;intro o_ aZ a w G1 kg _ hc hG HT hv;obtain rfl:_=o_:=Option.some.inj kg;clear kg;have H:=HT;have Hb:=H.full;have H:=Hb;clear hc;refine dK mQ H wn M ?_;clear H;intro b7 a w Bt H;refine aI ⟨M,b7,?_⟩;exact Tx
  ·clear H;intro o_ bP aZ a w G1 kg _ hc hG HT hv;obtain rfl:_=o_:=Option.some.inj kg;clear kg;have H:=HT;have H:=H.aQ (hv 16 7 (hc 16 Z) M) M;have H:=H.aQ (hv 15 49 (hc 15 Z) M) M;have Hb:=H.full;have H:=Hb;clear hc;refine bH mQ 0 (vs:=[_,_,_,_,_,_]) H wn M ?_;clear H;intro w H;refine aI ⟨M,?_⟩;exact Y4
  clear H;intro b7 a w G mI H hv;have H:=H.aQ (hv 16 7 M M) M;clear hv;refine aI ⟨M,?_⟩;refine K1 _ _ ?_;clear K1;refine kP H<|SR fun _ K1=>Rf Ac M<|aV yQ aF 0 M M<|Rd M<|Rf Ac M<|Rf yQ M ?_;clear H;intro a H;refine bH aF 0 (vs:=[_]) H wn M ?_;clear H;intro w H;refine K1 _ _ ?_;clear K1;refine kP H<|SR fun _ K1=>Rf Ac M ?_;clear H;intro a H;refine aY DF (cs:=[_,_]) H wn M M (H.hp.dB 0 M M) M ?_;clear H;intro a H;refine kH H<|Rf HZ M ?_;clear H;intro a H;refine bH DF 0 (vs:=[_,_]) H wn M ?_;clear H;intro w H;refine K1 _ _ ?_;clear K1;refine rQ (ι:=Int×Int×GH) (Tc:=[(0,_),(1,_),(5,_),(6,_),(7,_)]) (Lc:=[]) (fun gh=>[]) (fun gh=>[(b7,.cells #[vi A[k].id,.string A[k].name,vi A[k].flow,vi (A[k].at_+1),vi gh.1,vi gh.2.1] 67 (0,0))]++Lo) (fun gh=>gh.2.2) (fun gh=>(gh.1,gh.2.1)=Cq A code A[k]∧(∀b o,g b=some o->gh.2.2 b=some o)) (by exact H.sub ⟨M,M,M,M,M,aC⟩) ?_ ?_
  ·skip;refine kP H<|SR fun _ K1=>Rm M<|Rm M<|Rd M<|Rm M<|Rm M<|Ri oQ kG M M<|Rf D9 M<|Rg aF M (aH mI<|hrow 1 _ M) ?_;clear H;intro a H;refine s_call ajN H wn M (ali _ _ H.ro A _ (code+1) A[k].id ((hv.mono hgm).mono mI) O) M ?_;clear H;rintro v67 _ a w ⟨rfl,rfl⟩-H;obtain⟨K,hK⟩:∃K,K=Ar A (code+1) A[k].id:=⟨_,M⟩;rw[<-hK]at H;obtain⟨q,hq⟩:∃q,q=(mH A (code+1) A[k].id).getD GI:=⟨_,M⟩
   have hrow':0<=K->∃j:Nat,K=j∧j<A.length∧mH A (code+1) A[k].id=some q∧∀i u,q.cells[i]?=some u->aJ G b (o+j*5+i)=some u:=by
    intro h0;rw[hK]at h0;obtain⟨j,hj,e1,e2⟩:=aoa h0
    have hqe:q=A[j]:=by rw[hq,e2];rfl
    obtain⟨b2,o2,e3,hrow2⟩:=Jp ((hv.mono hgm).mono mI) hj
    injection e3 with e3
    injection e3 with e4 e5 _
    subst e4;subst e5;exact⟨j,by rw[hK,e1],hj,by rw[hqe];exact e2,by rw[hqe];exact hrow2⟩
   refine kH H<|ak K1 M<|SQ fun _ K4=>?_;clear H K1;intro a H;have hjj:=hrow'
   by_cases c0:0<=K
   ·skip
    by_cases c1:q.flow=A[k].flow
    ·skip;refine dI hmx [[],[0],[0,1],[0,1,2],[0,1,2],ra 0 5,ra 0 6,ra 0 7,ra 0 8,[0,1,2],[0,1,2,9],[0,1,2,9,10],ra 0 12,ra 0 13,ra 0 14,ra 0 15,ra 0 15,ra 0 17,ra 0 18,ra 0 19,ra 0 20,ra 0 15,ra 0 15++[21],(ra 0 15++[21,22]),ra 0 24,ra 0 25] [] V [_,_,_,_,_,(aK b<|o+K.toNat*5),_,_,vi q.flow,_,_,vi A[k].flow,_,_,_,_,_,(aK b<|o+K.toNat*5),_,_,vi q.at_,_,_,vi (A[k].at_+1),_,_] H (aD (Z0 M<|Rm M) (Z1 0 68 M<|Rc M) (Z1 1 69 M<|Rm M) (Z1 2 70 M<|YM (aG c0) M)<|aD (Z1 2 70 M<|YM (aG c0) M) ?_ (Z2 5 73 2 70 M<|YF Bh (aG c0) M) (Z2 6 74 2 70 M<|YF HY (aG c0) M)<|aD ?_ (Z1 2 70 M<|YF Ac (aG c0) M) (Z2 9 77 2 70 M<|YF HY (aG c0) M) (Z2 10 78 2 70 M<|YO aF 0 (aG c0) M)<|aD (Z3 8 76 11 79 2 70 M<|YC (aG c0) M) (Z2 2 70 12 80 M<|Pt (aG c0) M) (Z1 13 81 M<|Rm M) (Z1 14 82 M<|YM (aG c1) M)<|aD (Z1 14 82 M<|YM (aG c1) M) ?_ (Z2 17 85 14 82 M<|YF Bh (aG c1) M) (Z2 18 86 14 82 M<|YF yQ (aG c1) M)<|aD ?_ (Z1 14 82 M<|YF Ac (aG c1) M) (Z2 21 89 14 82 M<|YF yQ (aG c1) M) (Z2 22 90 14 82 M<|YO aF 0 (aG c1) M)<|bE (Z3 20 88 23 91 14 82 M<|YC (aG c1) M)<|bE (Z2 14 82 24 92 M<|Pt (aG c1) M) dz) ?_
     ·exact aht
     ·exact agX
     ·refine xC 15 83 16 84 14 82 M M fun _ a w G1 hG HT H fin=>?_;obtain⟨j,e1,hj,e2,Il⟩:=hrow' c0;refine Dp oQ kG K.toNat H (wg H M M<|aG c1) M M O O M ?_;exact jD
     ·refine fu 19 87 14 82 M M fun _ a w G1 hG HT H fin=>?_;obtain⟨j,e1,hj,e2,Il⟩:=hrow' c0;exact kH H (YR aF (aG c1) M (aH hG (by have:=Il 4 _ M;rw[e1];exact this)) fun _ H=>fin H iJ M)
     clear H;intro a w G qI H hv;have H:=H.aQ (hv 25 93 M M) M;clear hv;refine aI ⟨M,?_⟩;refine K4 _ _ ?_;clear K4;refine jU H M ?_ ?_
     ·intro Qs
      try have p93:=dT Qs
      refine kP H<|SC<|Rm M<|Rm M ?_;clear H;intro a H;obtain⟨j,e1,hj,e2,Il⟩:=hrow' c0;refine Dp oQ kG j H wn M M e1 hj M ?_;clear H;intro a H;refine kH H<|Rf Bh M ?_;clear H;intro a H;refine aY DF (cs:=[vi q.flow,vi q.at_]) H wn M M (fun i v hi=>H.hp.aJ<|aH qI (by match i,hi with|0,hi=>exact Il 3 v hi|1,hi=>exact Il 4 v hi)) M ?_;clear H;intro a H;refine kH H<|Rf HZ M ?_;clear H;intro a H;refine bH DF 0 (vs:=[_,_]) H wn M ?_;clear H;intro w H;refine aI ?_;refine⟨(q.flow,q.at_,_),by exact H.sub ⟨M,M,M,M,M,aC⟩,?_⟩;(try dsimp only);obtain⟨j,e1,hj,e2,-⟩:=hrow' c0;exact⟨(aku ⟨e2,c1,by have:=mW Qs;omega⟩).symm,fun b o h=>qI b o<|mI b o h⟩
     intro Qs
     try have p93:=dF Qs
     refine fU ?_;refine⟨(A[k].flow,A[k].at_+1,_),by exact H.sub ⟨M,M,M,M,M,aC⟩,?_⟩;(try dsimp only);refine⟨(ML ?_).symm,fun b o h=>qI b o<|mI b o h⟩
     by_cases h0:0<=K
     ·exact ZN
     rw[acJ (by rw[<-hK];exact h0)];trivial
    skip;refine dI hmx [[],[0],[0,1],[0,1,2],[0,1,2],ra 0 5,ra 0 6,ra 0 7,ra 0 8,[0,1,2],[0,1,2,9],[0,1,2,9,10],ra 0 12,ra 0 13,ra 0 14,ra 0 15,ra 0 15,ra 0 17,ra 0 18,ra 0 19,ra 0 20,ra 0 15,ra 0 15++[21],(ra 0 15++[21,22]),ra 0 24,ra 0 25] [] V [_,_,_,_,_,(aK b<|o+K.toNat*5),_,_,vi q.flow,_,_,vi A[k].flow,_,_,_,undef,undef,undef,undef,undef,undef,undef,undef,undef,undef,_] H (aD (Z0 M<|Rm M) (Z1 0 68 M<|Rc M) (Z1 1 69 M<|Rm M) (Z1 2 70 M<|YM (aG c0) M)<|aD (Z1 2 70 M<|YM (aG c0) M) ?_ (Z2 5 73 2 70 M<|YF Bh (aG c0) M) (Z2 6 74 2 70 M<|YF HY (aG c0) M)<|aD ?_ (Z1 2 70 M<|YF Ac (aG c0) M) (Z2 9 77 2 70 M<|YF HY (aG c0) M) (Z2 10 78 2 70 M<|YO aF 0 (aG c0) M)<|aD (Z3 8 76 11 79 2 70 M<|YC (aG c0) M) (Z2 2 70 12 80 M<|Pt (aG c0) M) (Z1 13 81 M<|Rm M) (aL 14 (aO c1) M M)<|aD (aL 14 (aO c1) M M) (aL 14 (aO c1) M M) (aL 14 (aO c1) M M) (aL 14 (aO c1) M M)<|aD (aL 14 (aO c1) M M) (aL 14 (aO c1) M M) (aL 14 (aO c1) M M) (aL 14 (aO c1) M M)<|bE (aL 14 (aO c1) M M)<|bE (Z2 14 82 24 92 M<|Pf (aO c1) M) dz) ?_
    ·exact aht
    ·exact agX
    clear H;intro a w G qI H hv;have H:=H.aQ (hv 25 93 M M) M;clear hv;refine aI ⟨M,?_⟩;refine K4 _ _ ?_;clear K4;refine oJ H M M ?_;refine fU ?_;refine⟨(A[k].flow,A[k].at_+1,_),by exact H.sub ⟨M,M,M,M,M,aC⟩,?_⟩;(try dsimp only);refine⟨(ML ?_).symm,fun b o h=>qI b o<|mI b o h⟩
    by_cases h0:0<=K
    ·exact ZN
    rw[acJ (by rw[<-hK];exact h0)];trivial
   skip;refine dI hmx [[],[0],[0,1],[0,1,2],[0,1,2],ra 0 5,ra 0 6,ra 0 7,ra 0 8,[0,1,2],[0,1,2,9],[0,1,2,9,10],ra 0 12,ra 0 13,ra 0 14,ra 0 15,ra 0 15,ra 0 17,ra 0 18,ra 0 19,ra 0 20,ra 0 15,ra 0 15++[21],(ra 0 15++[21,22]),ra 0 24,ra 0 25] [] V [_,_,_,undef,undef,undef,undef,undef,undef,undef,undef,undef,undef,_,_,undef,undef,undef,undef,undef,undef,undef,undef,undef,undef,_] H (aD (Z0 M<|Rm M) (Z1 0 68 M<|Rc M) (Z1 1 69 M<|Rm M) (aL 2 (aO c0) M M)<|aD (aL 2 (aO c0) M M) (aL 2 (aO c0) M M) (aL 2 (aO c0) M M) (aL 2 (aO c0) M M)<|aD (aL 2 (aO c0) M M) (aL 2 (aO c0) M M) (aL 2 (aO c0) M M) (aL 2 (aO c0) M M)<|aD (aL 2 (aO c0) M M) (Z2 2 70 12 80 M<|Pf (aO c0) M) (Z1 13 81 M<|Rm M) (aL 14 M M M)<|aD (aL 14 M M M) (aL 14 M M M) (aL 14 M M M) (aL 14 M M M)<|aD (aL 14 M M M) (aL 14 M M M) (aL 14 M M M) (aL 14 M M M)<|bE (aL 14 M M M)<|bE (Z2 14 82 24 92 M<|Pf M M) dz) ?_
   clear H;intro a w G qI H hv;have H:=H.aQ (hv 25 93 M M) M;clear hv;refine aI ⟨M,?_⟩;refine K4 _ _ ?_;clear K4;refine oJ H M M ?_;refine fU ?_;refine⟨(A[k].flow,A[k].at_+1,_),by exact H.sub ⟨M,M,M,M,M,aC⟩,?_⟩;(try dsimp only);refine⟨(ML ?_).symm,fun b o h=>qI b o<|mI b o h⟩
   by_cases h0:0<=K
   ·exact ZN
   rw[acJ (by rw[<-hK];exact h0)];trivial
  clear H;rintro⟨tf,ta,g12⟩ a w hI H;dsimp only at hI H;obtain⟨hend,aCm⟩:=hI;dsimp only[lca,bq]at H;refine kP H<|SC<|Rm M ?_;clear H;intro a H;refine aY mQ (cs:=[_,_,_,_,_,_]) H wn M M (H.hp.dB 0 M M) M ?_;clear H;intro a H;refine iT DK mQ [_,_,_,_,_,_] [_,_,_,_,_,_] H wn M M M M M (by intro i q h;match i,h with|0,h=>exact h|n+1,h=>simp at h) M M ?_;clear H;intro aJz a w aJL H;refine lW (Li:=[_,_]) (Lo:=Lo) (news:=[vi A[k].id,.string A[k].name,vi A[k].flow,vi (A[k].at_+1),vi tf,vi ta]) DK mQ M M H wn M M hrw M (H.hp.dB 0 M M) M O O M ?_;clear H;intro aIK asN a w ang H;rw[show[vi A[k].id,Value.string A[k].name,vi A[k].flow,vi (A[k].at_+1),vi tf,vi ta]=(zx A code A[k]).cells by simp only[zx,lI.cells,<-hend]]at ang;refine kH H<|bZ K2 M<|SC<|Rm M<|Rd M<|Ra M ?_;clear H K2;intro a H;refine aI ?_;refine dO ((k+1,aIK,asN,_)) (by exact(H.dR (Pl:=[_,_]) (dH:=[]) [] Z M).sub ⟨M,M,M,M,aC⟩) ?_
  (try dsimp only);exact⟨O,by rw[aqO hk2 hst,gT,aqL];exact ang,fun b o h=>aCm b o<|hgm b o h⟩
 intro h12 a H
 try have nU:=dF h12
 obtain rfl:k=A.length:=by omega
 have hall:wV A code A.length=sI A code:=by unfold wV sI;rw[oI]
 rw[hall]at hrw;refine dS ?_;refine K3 _ _ ?_;clear K3;refine kP H<|SR fun _ K2=>Rm M<|ak K2 M ?_;clear H K2;intro a H;refine lr H results67 M ?_;obtain⟨Gr,hmr,hrep,H⟩:=St.qy (Li:=[]) H hrw (rows:=(sI A code).map lI.dat) (by simp)<|adW _ _;exact H.rt (by rw[hall];exact hrep)
theorem azt:OT prog 67 [(0,0),(1,1),(2,2),(4,2)]:=⟨V,V,V,V,V⟩
theorem WX{G:GH}{A:List lI}{v:Option Addr}{n c k:Nat}(h:av G (.sl 6<|A.map lI.dat) (.slice v n c))(hk:k<A.length):∃b o,v=some ⟨b,o,none⟩∧∀j u,A[k].cells[j]?=some u->aJ G b (o+k*6+j)=some u:=by
 obtain⟨b,o,cs,rfl,hcl,hrow,hr⟩:=h.at_ k A[k].dat (by simp[hk]);obtain rfl:=aqQ hr;exact⟨b,o,M,hrow⟩
theorem axq:aW 139:=aX func139 M
theorem ale:dG prog 67 1 1:=⟨V⟩
theorem akl:aW 57:=aX func57 M
theorem azd:aW 72:=aX func72 M
theorem aze:aW 73:=aX func73 M
theorem aiH(G:GH)(w0:World)(hG:Hold G w0)(D:jh)(l:List ah)(hv:av G (.sl 11<|l.map ah.dat) (bN D.f))(hok:eT l)(hz:aR l<=1073741824) :
  Calls prog 57 #[D.val] w0 (bD w0 G fun u G'=>av G' (.sl 6 ((sI (cB 0 0 l) 1).map lI.dat)) u):=by
 refine eN [(0,_)] func57 M ntmps57 M M hG fun a H=>dw<|fun _ K1=>eD (cs:=[_,_,_,_,_,_,_,_,_,_,_]) H wn M M M fun b1 a w hb1 H=>kH H<|ak K1 M<|SQ fun _ K2=>?_;clear H K1;intro a H;obtain⟨Ga,hma,hb',H⟩:=H.eX;have hga:=fun j v hj=>lQ hb' 0 D.cells M j v hj;refine mF<|aY jc (cs:=D.cells) H wn M M (fun j v hj=>H.hp.aJ<|hga j v hj) M fun a H=>s_call axq H wn M (aHW _ _ H.ro D l (hv.mono hma) hok hz 1 O) M ?_;rintro v4 G4 a w hr Kj H;obtain⟨A4,n4,c4,rfl⟩:=hr.form;exact kH H<|bZ K2 M<|LR results57 M fun H=>H.rt hr
theorem aAb{G:GH}{b:Nat}{s:ByteArray}(hb:aJ G b 0=some (.string s))(x:lI):wB (.func (.func 73) #[] #[aK b 0]) G x.dat (decide<|x.name=s):=by
 intro G1 w0 cs hm hG hr;obtain rfl:=aqQ hr;refine kJ (caps:=[aK b 0]) aze ?_;replace hb:=aH hm hb;exact eN [(0,_),(1,_)] func73 M ntmps73 M M hG fun a H=>dw (fun _ K1=>eD (cs:=[_,_,_,_,_,_]) H wn M M M fun b2 a w hb2 H=>kH H<|ak K1 M<|SR fun _ K2=>aV ale gN 0 M M<|Rg gN M hb fun a H=>BN H wn M M M<|ak K2 M<|LR results73 M fun H=>H.rt<|iN (by rw[zL,decide_eq_true_iff,beq_iff_eq];exact⟨ZR,fun h=>by rw[h]⟩))
theorem aD4(G:GH)(w0:World)(hG:Hold G w0)(l:List lI)(p:lI->Bool)(v fv:aj)(hv:av G (.sl 6<|l.map lI.dat) v)(hf:∀x∈l,wB fv G x.dat<|p x) :
  Calls prog 72 #[v,fv] w0 (bD w0 G fun u G'=>u=vi (om<|l.findIdx? p)):=by
 obtain⟨A,c,rfl,hc1,hc2,-⟩:=hv.slice;have hml:maxLen=9223372036854775807:=rfl;rw[bM]at *;refine eN [(0,_),(1,_)] func72 M ntmps72 M M hG ?_;intro a H;refine kP H<|SR fun _ K1=>ak K1 M<|SQ fun _ K2=>SR fun _ K3=>Rm M<|Rl DK M<|Rm M<|Kz K3<|SB ?_;clear H K1 K3;intro a H;skip;refine dY (ι:=Nat×GH) (Tc:=[(0,_),(1,_),(7,_)]) (Lc:=[]) (fun gh=>[(8,vi gh.1)]) (fun gh=>[]) (fun gh=>gh.2) (fun gh=>gh.1<=l.length∧(l.take gh.1).findIdx? p=none∧(∀b o,G b=some o->gh.2 b=some o)) (fun gh=>l.length-gh.1) ((0,G)) (by exact H.sub ⟨M,M,M,M,aC⟩) ?_ ?_
 ·exact zO
 clear H;rintro⟨k,g⟩ a w hI H;dsimp only at hI H;obtain⟨hk,hno,hgm⟩:=hI;dsimp only[lca,bq]at H;refine kP H (SR fun _ K1=>Rc M<|Kz K1<|SQ fun _ K3=>Cd M ?_ ?_)<;>clear H K1
 ·intro h9 a H
  try have p9:=dT h9
  have hk2:k<l.length:=by omega
  obtain⟨b,o,rfl,hrow⟩:=WX hv hk2;refine kP H<|Kc K3<|SQ fun _ K1=>SB<|SR fun _ K4=>Rm M<|ak K4 M<|SR fun _ K5=>Rm M<|Rm M<|Rm M<|Ri DK mQ M M ?_;clear H K3 K4;intro a H;refine aY mQ (cs:=l[k].cells) H wn M M (fun j v hj=>H.hp.aJ<|aH hgm<|hrow j v hj) M ?_;clear H;intro a H;refine ow H wn M M (hf _ (ig hk2) _ _ _ hgm H.ro<|aqR _ l[k]) M ?_;clear H;rintro v16 xu a w rfl xW H;refine K5 _ _ ?_;clear K5;refine jU H M ?_ ?_
  ·intro h16
   try have p16:=dT h16
   refine kP H<|SR fun _ K3=>Rm M<|ak K3 M ?_;clear H K3;intro a H;refine lr H results72 M ?_
   exact Ba
  exact Mt
 intro h9 a H
 try have p9:=dF h9
 refine dS ?_;refine K2 _ _ ?_;clear K2;refine kP H<|SR fun _ K1=>ak K1 M ?_;clear H K1;intro a H;refine lr H results72 M ?_
 exact Ba
def aJf:lI:=⟨0,⟨#[]⟩,0,0,0,0⟩
def uW(l:List ah)(s:ByteArray):Option lI:=(sI (cB 0 0 l) 1).find? fun x=>decide (x.name=s)
theorem aEg{l:List lI}{p:lI->Bool}:(¬0<=om (l.findIdx? p)->l.find? p=none)∧(0<=om (l.findIdx? p)->∃(k:Nat)(hk:k<l.length),om (l.findIdx? p)=k∧l.find? p=some l[k]):=by
 cases h:l.findIdx? p with
 |none=>
  refine⟨fun _=>?_,fun h=>absurd h Z⟩;rw[List.find?_eq_none];intro x hx;have:=List.findIdx?_eq_none_iff.1 h x hx
  simp[this]
 |some k=>
  obtain⟨hk,h1,h2⟩:=List.findIdx?_eq_some_iff_getElem.1 h;refine⟨fun hn=>absurd (Int.natCast_nonneg k) hn,fun _=>⟨k,hk,M,?_⟩⟩;rw[List.find?_eq_some_iff_getElem];exact agq
theorem Ta(G:GH)(w0:World)(hG:Hold G w0)(D:jh)(l:List ah)(s:ByteArray)(hv:av G (.sl 11<|l.map ah.dat) (bN D.f))(hok:eT l)(hz:aR l<=1073741824) :
  Calls prog 24 #[D.val,.string s] w0 (bD w0 G fun u G'=>u=.tuple #[.agg ((uW l s).getD aJf).cells.toArray,.bool (uW l s).isSome]):=by
 refine eN [(0,_),(1,_)] func24 M ntmps24 M M hG fun a H=>dw<|fun _ K1=>eD (cs:=[_,_,_,_,_,_,_,_,_,_,_]) H wn M M M fun b2 a w hb2 H=>eD (cs:=[_]) H wn M M M fun b3 a w hb3 H=>dK mQ H wn M fun b4 a w hb4 H=>kH H<|ak K1 M<|SQ fun _ K2=>?_;clear H K1;intro a H;have H:=H.dR (Pl:=[_,_,_]) (dH:=[_,_,_]) [2,1,0] Z M;obtain⟨Ga,hma,hb',H⟩:=H.eX;obtain⟨Gb,hmb,uq,H⟩:=H.eX;have hga:=fun j v hj=>aH hmb<|lQ hb' 0 D.cells M j v hj;replace hv:=(hv.mono hma).mono hmb
 have hs3:aJ Gb b3 0=some (.string s):=by unfold aJ;rw[uq];rfl
 refine mF<|aY jc (cs:=D.cells) H wn M M (fun j v hj=>H.hp.aJ<|hga j v hj) M fun a H=>s_call akl H wn M (aiH _ _ H.ro D l hv hok hz) M ?_;rintro v9 G9 a w hr ze H;obtain⟨R,hR⟩:∃R,R=sI (cB 0 0 l) 1:=⟨_,M⟩
 have hfn:uW l s=R.find? fun x=>decide (x.name=s):=by rw[hR];rfl
 rw[<-hR]at hr;obtain⟨A9,n9,c9,rfl⟩:=hr.form;have hn9:=hr.len;rw[bM]at hn9;subst hn9;refine kH H<|bZ K2 M<|SQ fun _ K1=>SR fun _ K3=>Rm M fun a H=>wU H wn M M fun a H=>s_call azd H wn M (aD4 _ _ H.ro R (fun x=>decide<|x.name=s) _ _ hr<|fun x _=>aAb (aH ze hs3) x) M ?_;rintro v12 EX a w rfl CV H;obtain⟨hx1,hx2⟩:=aEg (l:=R) (p:=fun x=>decide<|x.name=s);replace hr:=hr.mono CV;refine kH H (ak K3 M<|SR fun _ K2=>Rm M<|Rc M<|Kz K2<|Cd M ?_ ?_)<;>clear H K3 K2
 ·intro dW a H
  try have kF:=dT dW
  obtain⟨k,hk,e1,e2⟩:=hx2 kF;obtain⟨b,o,rfl,hrow⟩:=WX hr hk;rw[e1]at H;refine kP H<|SR fun _ K2=>Rm M<|Rm M<|Ri DK mQ M M fun a H=>aY mQ (cs:=R[k].cells) H wn M M (fun j v hj=>H.hp.aJ<|hrow j v hj) M fun a H=>bH mQ 0 (vs:=[_,_,_,_,_,_]) H wn M fun w H=>kH H<|ak K2 M fun a H=>eH ((gV H results24 (.cons (vk mQ (cs:=[_,_,_,_,_,_]) H M M<|H.hp.dB 0 M M) (.cons (cK H M) .nil)) ?_).1);exact H.rt (by rw[hfn,e2];rfl)
 intro dW a H
 try have kF:=dF dW
 have e2:=hx1 kF;refine fU<|K1 _ _<|dw<|fun _ K1=>jM WZ [_,_,_,_,_,_] H wn M M M M fun a H=>bH mQ 0 (vs:=[_,_,_,_,_,_]) H wn M fun w H=>kH H<|ak K1 M fun a H=>eH ((gV H results24 (.cons (vk mQ (cs:=[_,_,_,_,_,_]) H M M<|H.hp.dB 0 M M) (.cons (cK H M) .nil)) ?_).1);exact H.rt (by rw[hfn,e2];rfl)
theorem Lg:Ty prog 46 1 24 [.slice none 0 0] false:=⟨V,V⟩
theorem aD7(G:GH)(n:Int):bg G [li n] [vi n]:=by simp[bg,av,Value.oneCell']
def sJ(A:List eU):Int:=A.foldl (fun n f=>n+kL f.items) 0
theorem aen{A:List eU}{k:Nat}(h:k<A.length):sJ (A.take<|k+1)=sJ (A.take k)+kL A[k].items:=by
 rw[sJ,ji h,List.foldl_append];rfl
theorem aIy(G:GH)(w0:World)(hG:Hold G w0)(D:jh)(l:List ah)(hv:av G (.sl 11<|l.map ah.dat) (bN D.f))(hz:aR l<=4294967296)(hm:∀k,k<=(gJ l).length->0<=sJ ((gJ l).take k)∧sJ ((gJ l).take k)<=4611686018427387904) :
  Calls prog 30 #[D.val] w0 (bD w0 G fun v G'=>v=vi (sJ<|gJ l)):=by
 refine eN [(0,_)] func30 M ntmps30 M M hG fun a H=>dw<|fun _ K1=>eD (cs:=[_,_,_,_,_,_,_,_,_,_,_]) H wn M M M fun b1 a w hb1 H=>kH H<|ak K1 M<|SR fun _ K2=>fun a H=>dK aF H wn M fun b3 a w hb3 H=>bH aF 0 (vs:=[_]) H wn M fun w H=>K2 _ _<|bU<|fun _ K1=>dw<|fun _ K2=>aY jc (cs:=[_,_,_,_,_,_,_,_,_,_,_]) H wn M M (H.hp.dB 1 M M) M fun a H=>s_call aaE H wn M (adh _ _ H.ro D l hv hz) M ?_;rintro v9 G9 a w ⟨ba,bl,bp,rfl,hit⟩ ze H;refine K2 _ _<|xK ?_;skip;refine PS (ι:=Unit) (κ:=Empty) (Lc:=[(_,_)]) (fun(k:Nat)(gh:Unit)=>[(b3,.cells #[vi<|sJ ((gJ l).take k)] 3 (0,0))]) (fun(k:Nat)(gh:Unit)=>[]) (fun(k:Nat)(gh:Unit)(g:GH)=>True) (fun x=>x.elim) (fun x=>x.elim) (fun x=>x.elim) (fun x=>x.elim) (()) (by exact H.dR (Pl:=[_,_]) (dH:=[_,_]) [1,0] Z M) M Ux (hit) (fun _ _ h=>h) M (fun k args g h=>by obtain⟨_,_,_,_,rfl,_⟩:=MX h;rfl) (fun _ _ _ _ _ h=>h) (fun x=>x.elim) (trivial) ?_ ?_ ?_
 ·clear H;intro l3 Dj zQ bk k args gh G3 w3 F3 B3 a hk3 Kh hI abx abU aDD H;obtain⟨hk,vA,vn,vc,rfl,hfr⟩:=MX hk3;dsimp only[yJ,List.cons_append,List.nil_append]at H;refine mF (dK Xh H wn M fun b5 a w hb5 H=>bH Xh 0 (vs:=[_,_,_,_]) H wn M fun w H=>aI (abx _ _ _ _ _ _ (by exact H.dR (Pl:=[_,_,_,_]) (dH:=[_,_,_,_]) [1,0,2,3] Z M) fun w H=>kP H<|SB<|SR fun _ K2=>aV akH eG 1 M M fun a H=>s_call UF H wn M (V4 _ _ H.ro (gJ l)[k].items _ hfr<|Nat.le_trans (Qq<|ig hk) hz) M ?_));rintro v15 _ a w ⟨rfl,rfl⟩-H;refine kH H<|Rm M ?_;intro a H;(iterate 2 refine iH H wn M M M ?_;intro a H);refine kH H<|Ra M<|ak K2 M ?_;clear H K2;intro a H;have aBD:=hm (k+1) hk;rw[aen hk]at aBD;refine kP H<|SC<|Ro aF 3 M<|Rm M<|Rd M ?_;intro a H;rw[<-aen hk]at H;refine bH aF 3 (vs:=[_]) H wn M fun w H=>aI (abU (()) _ _ _ _ _ (by exact H.dR (Pl:=[_,_,_,_]) (dH:=[_,_,_]) [0,2,3] Z M) ?_)
  trivial
 ·clear H;intro Dk3 gh Gd3 a w Kh hI H;dsimp only[lca,bq]at H;refine K1 _ _<|bU<|fun _ K1=>?_;rw[jX (by simp)]at H;refine kP H<|SC<|Ro aF 2 M<|bZ K1 M fun a H=>eH ((Iu H 0 M ?_).1);intro a w H;dsimp only[List.eraseIdx_cons_succ,List.eraseIdx_cons_zero]at H;exact lv H results30 M Bb
 intro Dk x;exact x.elim
mutual
theorem aIU(note:Bool)(t:Int):∀x:ah,(qh note t x).length<bY x.dat
 |.mk k c i tx h f r=>by
  have h4:=lY (.mk k c i tx h f r);have hf:=Sm true t f;have hr:=arY note t r;dsimp only[ah.text,ah.head,ah.flow,ah.rows]at h4;rw[qh]
  split
  ·rw[lK];omega
  split <;>first|omega|(simp only[List.length_nil];omega)
theorem Sm(note:Bool)(t:Int):∀l:List ah,(iD note t l).length<=aR l
 |[]=>by simp[iD]
 |x::l=>by
  have h1:=aIU note t x;have h2:=Sm note t l;rw[iD,gT]
  simp only[aR,dV,fE]at *;omega
theorem aIX(note:Bool)(t:Int):∀x:aN,(qW note t x).length<=bY x.dat
 |.mk h cs=>by
  have h4:=zC (.mk h cs);have hc:=arV note t cs;dsimp only[aN.head,aN.cells]at h4;rw[qW];omega
theorem arY(note:Bool)(t:Int):∀l:List aN,(kR note t l).length<=gB l
 |[]=>by simp[kR]
 |x::l=>by
  have h1:=aIX note t x;have h2:=arY note t l;rw[kR,gT]
  simp only[gB,dV,fE]at *;omega
theorem aIR(note:Bool)(t:Int):∀x:aP,(qg note t x).length<=bY x.dat
 |.mk i h f=>by
  have h4:=AU (.mk i h f);have hf:=Sm note (t+1) f;dsimp only[aP.head,aP.flow]at h4;rw[qg,lK];omega
theorem arV(note:Bool)(t:Int):∀l:List aP,(kX note t l).length<=iU l
 |[]=>by simp[kX]
 |x::l=>by
  have h1:=aIR note t x;have h2:=arV note t l;rw[kX,gT]
  simp only[iU,dV,fE]at *;omega
end
theorem awM(G:GH)(w0:World)(hG:Hold G w0)(D:jh)(l:List ah)(hv:av G (.sl 11<|l.map ah.dat) (bN D.f))(hz:aR l<=4294967296) :
  Calls prog 28 #[D.val] w0 (bD w0 G fun u G'=>av G' (.sl 1 ((gJ l).map fun f:eU=>[li f.id])) u):=by
 have hml:4294967299<=maxLen:=by decide
 have hn:(gJ l).length<=4294967297:=by
  have:=Sm false 0 l;rw[gJ,lK];omega
 refine eN [(0,_)] func28 M ntmps28 M M hG fun a H=>dw<|fun _ K1=>eD (cs:=[_,_,_,_,_,_,_,_,_,_,_]) H wn M M M fun b1 a w hb1 H=>kH H<|ak K1 M<|SR fun _ K2=>fun a H=>dK Lg H wn M fun b3 a w hb3 H=>K2 _ _<|bU<|fun _ K1=>bU<|fun _ K2=>?_;have H:=H.dR (Pl:=[_,_]) (dH:=[_,_]) [1,0] Z M;refine mF<|aY jc (cs:=[_,_,_,_,_,_,_,_,_,_,_]) H wn M M (H.hp.dB 0 M M) M fun a H=>s_call aaE H wn M (adh _ _ H.ro D l hv hz) M ?_;rintro v6 G6 a w ⟨ba,bl,bp,rfl,hit⟩ Kl H;refine aI<|K2 _ _<|xK ?_;skip;refine PS (ι:=aj×List aj×OL) (κ:=Empty) (Lc:=[(_,_)]) (fun(k:Nat)(gh:aj×List aj×OL)=>[(b3,.cells #[gh.1] 46 (0,0))]) (fun(k:Nat)(gh:aj×List aj×OL)=>gh.2.2) (fun(k:Nat)(gh:aj×List aj×OL)(g:GH)=>bT 3 1 gh.1 k gh.2.1 gh.2.2∧bR g 1 (((gJ l).take k).map fun f:eU=>[li f.id]) gh.2.1) (fun x=>x.elim) (fun x=>x.elim) (fun x=>x.elim) (fun x=>x.elim) ((.slice none 0 0,[],[])) (by exact H.NV (A:=[_,_])) M Ux (hit) (fun _ _ h=>h) M (fun k args g h=>by obtain⟨_,_,_,_,rfl,_⟩:=MX h;rfl) (fun k i G G' hm h=>⟨h.1,h.2.mono hm⟩) (fun x=>x.elim) (⟨bT.nil,bR.nil⟩) ?_ ?_ ?_
 ·clear H;intro l3 Dj zQ bk k args gh G3 w3 F3 B3 a hk3 Kh hI abx abU aDD H;obtain⟨v,xs,Lo⟩:=gh;dsimp only at hI H;obtain⟨hk,vA,vn,vc,rfl,hfr⟩:=MX hk3;dsimp only[yJ,List.cons_append,List.nil_append]at H;obtain⟨hrw,gK⟩:=hI;refine kP H (SC (Ra M fun a H=>aI (abx _ _ _ _ _ _ (by exact H) fun w H=>kP H (SB (SC (Ro Lg 2 M (Rm M fun a H=>iT qV aF [_] [_] H wn M M M M M (by intro i q h;match i,h with|0,h=>exact h|n+1,h=>simp at h) M M fun b11 a w Qx H=>lW (Li:=[_,_,_,_]++bk) (Lo:=Lo) (news:=[vi (gJ l)[k].id]) qV aF M M (St.un (A:=[_,_,_,_]) H) wn M M hrw M (H.hp.dB 0 M M) M O O M ?_)))))));intro v12 asO a w NA H;obtain⟨A12,c12,rfl,-,-⟩:=NA.shape
  simp only[iG,jl,fQ]at H
  exact bH Lg 3 (vs:=[_]) H wn M fun w H=>aI (abU ((.slice A12 (k+1) c12,xs++[vi (gJ l)[k].id],asO)) _ _ _ _ _ (by exact H.dR (Pl:=[_,_,_,_]) (dH:=[_,_,_]) [1,2,3] Z M) ⟨NA,by rw[ji hk,iy];exact gK.snoc (aD7 _ _) M⟩)
 ·clear H;intro Dk3 gh Gd3 a w Kh hI H;obtain⟨v,xs,Lo⟩:=gh;dsimp only at hI H;dsimp only[lca,bq]at H;obtain⟨hrw,gK⟩:=hI;rw[bM]at hrw gK;rw[oI]at gK;refine K1 _ _<|kP H<|SR fun _ K1=>Ro Lg 2 M<|ak K1 M fun a H=>eH ((Iu H 0 M ?_).1);intro a w H;dsimp only[List.eraseIdx_cons_succ,List.eraseIdx_cons_zero]at H;refine lv H results28 M ?_;obtain⟨Gr,hmr,hrep,H⟩:=St.qy (Li:=[_,_]) H hrw (rows:=(gJ l).map fun f:eU=>[li f.id]) (by simp) gK;exact H.rt hrep
 intro Dk x;exact x.elim
theorem aIs(l:List ah)(hz:aR l<=1073741824)(k:Nat)(hk:k<=(gJ l).length):0<=sJ ((gJ l).take k)∧sJ ((gJ l).take k)<=4611686018427387904:=by
 have hn:=Sm false 0 l
 have hl:(gJ l).length<=1073741825:=by rw[gJ,lK];omega
 have h:∀k,k<=(gJ l).length->0<=sJ ((gJ l).take k)∧sJ ((gJ l).take k)<=k*1073741824:=by
  intro k
  induction k with
  |zero=>intro _;exact⟨by simp[sJ],by simp[sJ]⟩
  |succ k ih=>
   intro hk;obtain⟨h1,h2⟩:=ih O;have h3:=Qq (ig (show k<(gJ l).length by omega))
   have h4:0<=kL (gJ l)[k].items∧kL (gJ l)[k].items<=aR (gJ l)[k].items:=by
    unfold kL
    have h5:=Lb (gJ l)[k].items;have h6:=Dt (gJ l)[k].items
    split <;>omega
   rw[aen O]
   push_cast
   omega
 obtain⟨h1,h2⟩:=h k hk;exact⟨h1,O⟩
theorem wY:Ty prog 59 18 256 [.int .i64 0,.int .i64 0,.int .i64 0,.int .i64 0,.int .i64 0,.int .i64 0,.int .i64 0,.int .i64 0,.int .i64 0,.int .i64 0,.bool false,.slice none 0 0,.slice none 0 0,.slice none 0 0,.slice none 0 0,.slice none 0 0,.slice none 0 0,.slice none 0 0] true:=⟨V,V⟩
theorem HV:dG prog 51 0 0:=⟨V⟩
theorem WY:sO prog 118 [(0,1),(1,1),(2,1),(3,1),(4,5),(9,1),(10,1)] [.int .i64 0,.int .i64 0,.int .i64 0,.string ⟨#[]⟩,.slice none 0 0,.int .i64 0,.int .i64 0,.slice none 0 0,.slice none 0 0,.slice none 0 0,.slice none 0 0]:=⟨V,V⟩
theorem adY:sO prog 59 [(0,1),(1,1),(2,1),(3,1),(4,1),(5,1),(6,1),(7,1),(8,1),(9,1),(10,1),(11,1),(12,1),(13,1),(14,4)] [.int .i64 0,.int .i64 0,.int .i64 0,.int .i64 0,.int .i64 0,.int .i64 0,.int .i64 0,.int .i64 0,.int .i64 0,.int .i64 0,.bool false,.slice none 0 0,.slice none 0 0,.slice none 0 0,.slice none 0 0,.slice none 0 0,.slice none 0 0,.slice none 0 0]:=⟨V,V⟩
theorem GA:prog.underlying 52=some (.slice 59):=by kernel_rfl
theorem Uz:aW 24:=aX func24 M
theorem UE:aW 61:=aX func61 M
theorem ayY:aW 64:=aX func64 M
theorem Ab:dG prog 51 1 1:=⟨V⟩
theorem Cv:dG prog 51 2 2:=⟨V⟩
theorem ayU:aW 30:=aX func30 M
theorem ayZ:aW 65:=aX func65 M
def Ef:fI:=⟨[],⟨0,0,[],[]⟩⟩
def jN(code id:Int)(tx:ByteArray):ah:=.mk 8 code id tx Ef [] []
abbrev Ti(code id:Int)(tx:ByteArray):List aj:=[vi 8,vi code,vi id,.string tx,.slice none 0 0,vi 0,vi 0,.slice none 0 0,.slice none 0 0,.slice none 0 0,.slice none 0 0]
theorem YB(G:GH)(code id:Int)(tx:ByteArray):bg G (jN code id tx).dat (Ti code id tx) :=
 bg.mkItem (x:=jN code id tx) ⟨av.nT M Z,av.nT M Z,av.nT M Z⟩ (av.nT M Z) (av.nT M Z)
def Qd(k f t:Int)(X:List ah):List Dat:=[li k,li f,li t,li 0,li 0,li 0,li 0,li 0,li 0,li 0,.lf (.bool false),.sl 11 (X.map ah.dat),.lf (.slice none 0 0),.lf (.slice none 0 0),.lf (.slice none 0 0),.lf (.slice none 0 0),.lf (.slice none 0 0),.lf (.slice none 0 0)]
theorem Ut{G:GH}{k f t:Int}{X:List ah}{v:aj}(h:av G (.sl 11<|X.map ah.dat) v):bg G (Qd k f t X) (lg k f t v) :=
 ⟨_,_,rfl,⟨rfl,rfl⟩,_,_,rfl,⟨rfl,rfl⟩,_,_,rfl,⟨rfl,rfl⟩,_,_,rfl,⟨rfl,rfl⟩,_,_,rfl,⟨rfl,rfl⟩,_,_,rfl,⟨rfl,rfl⟩,_,_,rfl,⟨rfl,rfl⟩,_,_,rfl,⟨rfl,rfl⟩,_,_,rfl,⟨rfl,rfl⟩,_,_,rfl,⟨rfl,rfl⟩,_,_,rfl,⟨rfl,rfl⟩,_,_,rfl,h,_,_,rfl,⟨rfl,rfl⟩,_,_,rfl,⟨rfl,rfl⟩,_,_,rfl,⟨rfl,rfl⟩,_,_,rfl,⟨rfl,rfl⟩,_,_,rfl,⟨rfl,rfl⟩,_,_,rfl,⟨rfl,rfl⟩,rfl⟩
theorem ajH{G:GH}{k f t:Int}{X:List ah}{cs:List aj}(h:bg G (Qd k f t X) cs):∃v,cs=lg k f t v∧av G (.sl 11<|X.map ah.dat) v:=by
 simp only[Qd,bg]at h
 obtain⟨_,_,rfl,h1,_,_,rfl,h2,_,_,rfl,h3,_,_,rfl,h4,_,_,rfl,h5,_,_,rfl,h6,_,_,rfl,h7,_,_,rfl,h8,_,_,rfl,h9,_,_,rfl,h10,_,_,rfl,h11,v,_,rfl,hv,_,_,rfl,g1,_,_,rfl,g2,_,_,rfl,g3,_,_,rfl,g4,_,_,rfl,g5,_,_,rfl,g6,rfl⟩:=h
 simp only[av]at h1 h2 h3 h4 h5 h6 h7 h8 h9 h10 h11 g1 g2 g3 g4 g5 g6
 obtain⟨rfl,-⟩:=h1;obtain⟨rfl,-⟩:=h2;obtain⟨rfl,-⟩:=h3;obtain⟨rfl,-⟩:=h4;obtain⟨rfl,-⟩:=h5;obtain⟨rfl,-⟩:=h6;obtain⟨rfl,-⟩:=h7;obtain⟨rfl,-⟩:=h8;obtain⟨rfl,-⟩:=h9;obtain⟨rfl,-⟩:=h10;obtain⟨rfl,-⟩:=h11;obtain⟨rfl,-⟩:=g1;obtain⟨rfl,-⟩:=g2;obtain⟨rfl,-⟩:=g3;obtain⟨rfl,-⟩:=g4;obtain⟨rfl,-⟩:=g5;obtain⟨rfl,-⟩:=g6;exact⟨v,M,hv⟩
theorem apD(G:GH)(w0:World)(hG:Hold G w0)(br bi:Nat)(F id:Int)(hr:aJ G br 0=some (vi F))(hi:aJ G bi 0=some (vi id))(code t:Int)(tx:ByteArray) :
  uN prog (.func (.func 65) #[] #[aK br 0,aK bi 0]) [vi code,vi t,.string tx] w0 (bD w0 G fun u G'=>∃A n c,u=.agg (lg 11 F t (.slice A n c)).toArray∧av G' (.sl 11 ([jN code id tx].map ah.dat)) (.slice A n c)):=by
 refine kJ (caps:=[aK br 0,aK bi 0]) ayZ (eN [(0,_),(1,_),(2,_),(3,_),(4,_)] func65 M ntmps65 M M hG fun a H=>dw<|fun _ K1=>dK wY H wn M fun b8 a w Ee H=>K1 _ _<|kP H<|SR fun _ K1=>Rf HV M<|Rg aF M hr<|Rm M<|Rm M<|Rg aF M hi<|Rm M fun a H=>jM WY [_,_,_,_,_,_,_,_,_,_,_] H wn M M M M fun a H=>iT dM bL _ (Ti code id tx) H wn M M M M M (by intro i q h;match i,h with|0,h=>exact h|n+1,h=>simp at h) M M ?_);intro b16 a w abt H;obtain⟨xu,xW,aDd,H⟩:=St.Qr H M<|YB _ code id tx;refine jM adY [_,_,_,_,_,_,_,_,_,_,_,_,_,_,_,_,_,_] H wn M M M M fun a H=>bH wY 0 (vs:=[_,_,_,_,_,_,_,_,_,_,_,_,_,_,_,_,_,_]) H wn M fun w H=>K1 _ _<|eH ((leave1 H results65 (.cons (vk wY (cs:=[_,_,_,_,_,_,_,_,_,_,_,_,_,_,_,_,_,_]) H M M<|H.hp.dB 0 M M) .nil) ?_).1);exact H.rt ⟨_,_,_,M,aDd⟩
def sw(m:Int)(a:cZ):Int:=if a.code=1∨a.code=2 then max m (a.id+1)else m
def uJ(A:List cZ):Int:=A.foldl sw 1
theorem IE{A:List cZ}{k:Nat}(hk:k<A.length):uJ (A.take<|k+1)=sw (uJ<|A.take k) A[k]:=by
 unfold uJ;rw[ji hk,List.foldl_append];rfl
theorem NU:∀(A:List cZ)(m:Int),m<=A.foldl sw m
 |[],m=>Int.le_refl _
 |a::A,m=>Int.le_trans (by unfold sw;split <;>omega)<|NU A<|sw m a
theorem apa(A:List cZ)(h:∀a∈A,1<=a.id∧a.id<=1073741824):∀m:Int,m<=1073741825->A.foldl sw m<=1073741825:=by
 induction A with
 |nil=>intro m hm;exact hm
 |cons a A ih=>
  intro m hm;have ha:=h a fJ
  exact ih (fun b hb=>h b<|gH _ hb) _ (by unfold sw;split <;>omega)
def uf(nm:ByteArray)(JR:Bool)(L:Option (List ah))(f t Wt un:Int):Int :=
 if pq nm=false then 13 else if JR=true then 7 else if L.isSome=false then 8 else if f<0∨t<f∨kL (L.getD [])<t then 2 else if 1073741824<Wt then 18 else if 16382<un then 9 else 0
def Jl(nm:ByteArray)(F f t id:Int):List (List Dat):=[Qd 11 F t [jN 2 id ⟨#[]⟩],Qd 11 F f [jN 1 id nm]]
theorem ags {p:Prop} (h:p:=by
 first
  | (have c4:f < 0∨t < f∨kL ((iZ l F).getD []) < t:=by omega
     exact H.rt ⟨_,_,M,by unfold uf;rw [au c1,au c2,au c3,ay c4],fun _=>rfl,fun h=>absurd h Z⟩)
  | (have c4:¬ (f < 0∨t < f∨kL ((iZ l F).getD []) < t):=by omega
     have c5:1073741824<uJ A:=by rw[<-hm0];omega
     exact H.rt ⟨_,_,M,by unfold uf;rw [au c1,au c2,au c3,au c4,ay c5],fun _=>rfl,fun h=>absurd h Z⟩)
  | (have c4:¬ (f < 0∨t < f∨kL ((iZ l F).getD []) < t):=by omega
     have c5:¬1073741824<uJ A:=by rw[<-hm0];omega
     have c6:16382<sJ (gJ l):=by omega
     exact H.rt ⟨_,_,M,by unfold uf;rw [au c1,au c2,au c3,au c4,au c5,ay c6],fun _=>rfl,fun h=>absurd h Z⟩)
  | (have c4:¬ (f < 0∨t < f∨kL ((iZ l F).getD []) < t):=by omega
     have c5:¬1073741824<uJ A:=by rw[<-hm0];omega
     have c6:¬16382<sJ (gJ l):=by omega
     exact H.rt ⟨_,0,M,by unfold uf;rw [au c1,au c2,au c3,au c4,au c5,au c6],fun h=>absurd M h,fun _=>by rw [<- hm0];exact aDg⟩)):p:=h
theorem Y6 {p:Prop} (h:p:=by
 intro a H;refine eH ?_;refine(gV H results19 (.cons (cK H M) (.cons (cK H M) .nil)) ?_).1
 have c1:¬pq nm=false:=by simpa using h20
 have c2:¬(uW l nm).isSome=true:=by simpa using h27
 have c3:¬(iZ l F).isSome=false:=fun e=>by rw[e]at lS;cases lS
 exact ags):p:=h
theorem ahd {p:Prop} (h:p:=by
 cases hfo:iZ l F with
 |none=>exact fP _
 | some y=>exact Nat.le_trans (aaU hfo) hz):p:=h
theorem Zm {p:Prop} (h:p:=by
 refine kP H (SR fun _ K2=>Ra M (ak K2 M ?_));clear H K2;exact Y6):p:=h
theorem Zn {p:Prop} (h:p:=by
 refine dN [] M trivial V Ik M M ?_;exact JA):p:=h
set_option maxHeartbeats 4000000 in
theorem atx(G:GH)(w0:World)(hG:Hold G w0)(D:jh)(l:List ah)(nm:ByteArray)(F f t:Int)(hv:av G (.sl 11<|l.map ah.dat) (bN D.f))(hok:eT l)(hz:aR l<=1073741824)(hnm:nm.size<=4294967296)(hid:∀a∈cB 0 0 l,1<=a.id∧a.id<=1073741824) :
    Calls prog 19 #[D.val,.string nm,.agg #[vi F,vi f,vi t]] w0 (bD w0 G fun u G'=>∃x e,u=.tuple #[x,vi e]∧e=uf nm (uW l nm).isSome (iZ l F) f t (uJ<|cB 0 0 l) (sJ<|gJ l)∧(e≠0->x=.slice none 0 0)∧(e=0->av G' (.sl 18<|Jl nm F f t<|uJ<|cB 0 0 l) x)):=by
  have hn:=DZ 0 0 l;have hml:maxLen=9223372036854775807:=rfl;obtain⟨A,hA⟩:∃A,A=cB 0 0 l:=⟨_,M⟩;rw[<-hA]at hn hid|-;refine eN [(0,_),(1,_),(2,_)] func19 M ntmps19 M M hG ?_;intro a H;refine dw<|fun _ K1=>?_;refine eD (cs:=[_,_,_,_,_,_,_,_,_,_,_]) H wn M M M ?_;clear H;intro b3 a w hb3 H;refine eD (cs:=[_,_,_]) H wn M M M ?_;clear H;intro b5 a w hb5 H;refine kH H<|Ra M<|ak K1 M<|SQ fun _ K2=>SQ fun _ K3=>?_;clear H K1;intro a H;obtain⟨Ga,hma,rE,H⟩:=H.eX;obtain⟨Gb,hmb,uq,H⟩:=H.eX;have hga:=fun j v hj=>lQ uq 0 D.cells M j v hj;have q0:aJ Gb b5 0=some (vi F):=aH hmb<|lQ rE 0 [vi F,vi f,vi t] M 0 _ M;have q1:aJ Gb b5 1=some (vi f):=aH hmb<|lQ rE 0 [vi F,vi f,vi t] M 1 _ M;have q2:aJ Gb b5 2=some (vi t):=aH hmb<|lQ rE 0 [vi F,vi f,vi t] M 2 _ M;replace hv:=(hv.mono hma).mono hmb;refine kP H<|SC<|Rm M ?_;clear H;intro a H;refine s_call UD H wn M (Ul _ _ H.ro nm O) M ?_;clear H;rintro v19 _ a w ⟨rfl,rfl⟩-H;refine kH H (Rn M<|Kn K3<|Cd M ?_ ?_)<;>clear H K3
  · intro h20 a H
    refine kP H<|SR fun _ K1=>Ra M<|ak K1 M ?_;clear H K1;intro a H;refine eH ?_;refine(gV H results19 (.cons (cK H M) (.cons (cK H M) .nil)) ?_).1;exact H.rt ⟨_,_,M,by unfold uf;rw[ay (by simpa using h20)],fun _=>rfl,fun h=>absurd h Z⟩
  intro h20 a H
  try have BJ:=dF h20
  refine kP H<|Kc K2<|SQ fun _ K1=>SR fun _ K3=>?_;clear H K2;intro a H;refine aY jc (cs:=D.cells) H wn M M (fun j v hj=>H.hp.aJ<|hga j v hj) M ?_;clear H;intro a H;refine kH H<|Rm M ?_;clear H;intro a H;refine s_call Uz H wn M (Ta _ _ H.ro D l nm hv hok hz) M ?_;clear H;rintro v24 yF a w rfl rW H;replace hv:=hv.mono rW;replace hga:=fun j v hj=>aH rW<|hga j v hj;replace q0:=aH rW q0;replace q1:=aH rW q1;replace q2:=aH rW q2;refine kH H<|Rm M ?_;clear H;intro a H;(iterate 2 refine iH H wn M M M ?_;clear H;intro a H);refine dK mQ H wn M ?_;clear H;intro b8 a w Ee H;refine bH mQ 0 (vs:=[_,_,_,_,_,_]) H wn M ?_;clear H;intro w H;refine kH H (ak K3 M<|SR fun _ K2=>Rm M<|Kz K2<|Cd M ?_ ?_)<;>clear H K3 K2
  · intro h27 a H
    refine kP H<|SR fun _ K2=>Ra M<|ak K2 M ?_;clear H K2;intro a H;refine eH ?_;refine(gV H results19 (.cons (cK H M) (.cons (cK H M) .nil)) ?_).1;exact H.rt ⟨_,_,M,by unfold uf;rw[au (by simpa using h20),ay (by simpa using h27)],fun _=>rfl,fun h=>absurd h Z⟩
  intro h27 a H
  try have p27:=dF h27
  refine fU ?_;refine K1 _ _ ?_;clear K1;refine dw<|fun _ K1=>?_;refine aY jc (cs:=D.cells) H wn M M (fun j v hj=>H.hp.aJ<|hga j v hj) M ?_;clear H;intro a H;refine kH H<|Rf HV M<|Rg aF M q0 ?_;clear H;intro a H;refine s_call UE H wn M (UY _ _ H.ro D l F hv O) M ?_;clear H;rintro v32 G32 a w ⟨y32,rfl,hy32⟩ QN H;obtain⟨yA,yn,yc,rfl⟩:=hy32.form
  have hfz:aR ((iZ l F).getD [])<=1073741824:=by
    exact ahd
  replace hv:=hv.mono QN;replace hga:=fun j v hj=>aH QN<|hga j v hj;replace q1:=aH QN q1;replace q2:=aH QN q2;replace q0:=aH QN q0;refine kH H<|Rm M ?_;clear H;intro a H;(iterate 2 refine iH H wn M M M ?_;clear H;intro a H);refine kH H (Ra M<|ak K1 M<|SQ fun _ K2=>SR fun _ K3=>Rm M<|Rn M<|Kz K3<|Cd M ?_ ?_)<;>clear H K1 K3
  · intro lS a H
    refine kP H<|SR fun _ K1=>Ra M<|ak K1 M ?_;clear H K1;intro a H;refine eH ?_;refine(gV H results19 (.cons (cK H M) (.cons (cK H M) .nil)) ?_).1;exact H.rt ⟨_,_,M,by unfold uf;rw[au (by simpa using h20),au (by simpa using h27),ay (by simpa using lS)],fun _=>rfl,fun h=>absurd h Z⟩
  intro lS a H
  try have p36:=dF lS
  refine kP H<|Kc K2<|SR fun _ K1=>Rm M ?_;clear H K2;intro a H;refine s_call UF H wn M (V4 _ _ H.ro ((iZ l F).getD []) _ hy32 O) M ?_;clear H;rintro v39 _ a w ⟨rfl,rfl⟩-H;refine kH H<|Rm M ?_;clear H;intro a H;(iterate 2 refine iH H wn M M M ?_;clear H;intro a H);refine kH H<|Ra M<|ak K1 M<|SR fun _ K2=>?_;clear H K1;intro a H;refine dK aF H wn M ?_;clear H;intro b14 a w Nh H;refine bH aF 0 (vs:=[_]) H wn M ?_;clear H;intro w H;refine K2 _ _ ?_;clear K2;refine bU<|fun _ K1=>?_;refine dw<|fun _ K2=>?_;refine aY jc (cs:=D.cells) H wn M M (fun j v hj=>H.hp.aJ<|hga j v hj) M ?_;clear H;intro a H;refine s_call akn H wn M (aom _ _ H.ro D l hv hok O) M ?_;clear H;rintro v43 GU a w hr uD H;rw[<-hA]at hr;obtain⟨vA,n43,Ue,rfl⟩:=hr.form;have hn43:=hr.len;rw[bM]at hn43;subst hn43;replace hv:=hv.mono uD;replace hga:=fun j v hj=>aH uD<|hga j v hj;replace q1:=aH uD q1;replace q2:=aH uD q2;replace q0:=aH uD q0;refine kH H<|Rl oQ M<|Rm M<|Kz K2<|SB ?_;clear H K2;intro a H;skip;refine dY (ι:=Nat×Int×GH) (Tc:=[(1,_),(3,_),(5,_),(12,_),(14,_),(43,_),(44,_)]) (Lc:=[(_,_)]) (fun gh=>[(45,vi gh.1)]) (fun gh=>[(b14,.cells #[vi gh.2.1] 3 (0,0))]) (fun gh=>gh.2.2) (fun gh=>gh.1<=A.length∧gh.2.1=uJ (A.take gh.1)∧(∀b o,GU b=some o->gh.2.2 b=some o)) (fun gh=>A.length-gh.1) ((0,1,GU)) (by exact(H.dR (Pl:=[_,_]) (dH:=[_,_]) [1,0] Z M).sub ⟨M,M,M,M,M,M,M,M,aC⟩) ?_ ?_
  · exact Fb
  clear H;rintro⟨k,m,g⟩ a w hI H;dsimp only at hI H;obtain⟨hk,hm0,hgm⟩:=hI;have abR:=apa (A.take k) (fun a ha=>hid a<|List.mem_of_mem_take ha) 1 Z;have abS:=NU (A.take k) 1;rw[show(A.take k).foldl sw 1=m from hm0.symm]at abR abS;dsimp only[lca,bq]at H;refine kP H (SR fun _ K2=>Rc M<|Kz K2<|SQ fun _ K3=>Cd M ?_ ?_)<;>clear H K2
  · intro h46 a H
    try have p46:=dT h46
    have hk2:k<A.length:=by omega
    obtain⟨b,o,rfl,hrow⟩:=Jp (hr.mono hgm) hk2;have aCt:=hid _<|ig hk2;refine kP H<|Kc K3<|SQ fun _ K2=>SB<|SR fun _ K4=>Ri oQ kG M M ?_;clear H K3;intro a H;refine aY kG (cs:=A[k].cells) H wn M M (fun j v hj=>H.hp.aJ<|hrow j v hj) M ?_;clear H;intro a H;refine dK kG H wn M ?_;clear H;intro b16 a w abt H;refine bH kG 0 (vs:=[_,_,_,_,_]) H wn M ?_;clear H;intro w H;refine K4 _ _ ?_;clear K4;refine dw<|fun _ K3=>?_;refine aY kG (cs:=[_,_,_,_,_]) H wn M M (H.hp.dB 0 M M) M ?_;clear H;intro a H;refine s_call ayY H wn M (auQ _ _ H.ro A[k]) M ?_;clear H;rintro v50 XT a w rfl Kk H;refine K3 _ _ ?_;clear K3;refine jU H M ?_ ?_
    · intro h50
      try have p50:=dT h50
      refine kP H<|SC<|Ro aF 2 M<|aV D9 aF 0 M M<|Rd M ?_;clear H;intro a H;refine KZ H wn M M M ?_;clear H;intro a H;refine bH aF 2 (vs:=[_]) H wn M ?_;clear H;intro w H;refine kH H<|Kn K2<|SC<|Rd M<|Rm M ?_;clear H K2;intro a H;refine aI ?_;refine dO ((k+1,_,_)) (by exact(H.dR (Pl:=[_,_,_]) (dH:=[_,_]) [1,2] Z M).sub ⟨M,M,M,M,M,M,M,M,aC⟩) ?_
      try dsimp only
      first
      |exact⟨O,by rw[IE hk2,<-hm0,sw,ay (by simpa using h50)],fun b o h=>Kk b o<|hgm b o h⟩
      |exact⟨O,by rw[IE hk2,<-hm0,sw,au (by simpa using h50)],fun b o h=>Kk b o<|hgm b o h⟩
    intro h50
    try have p50:=dF h50
    refine kP H<|Kc K2<|SC<|Rd M<|Rm M ?_;clear H K2;intro a H;refine aI ?_;refine dO ((k+1,_,_)) (by exact(H.dR (Pl:=[_,_,_]) (dH:=[_,_]) [1,2] Z M).sub ⟨M,M,M,M,M,M,M,M,aC⟩) ?_
    try dsimp only
    first
    |exact⟨O,by rw[IE hk2,<-hm0,sw,ay (by simpa using h50)],fun b o h=>Kk b o<|hgm b o h⟩
    |exact⟨O,by rw[IE hk2,<-hm0,sw,au (by simpa using h50)],fun b o h=>Kk b o<|hgm b o h⟩
  intro h46 a H
  try have p46:=dF h46
  obtain rfl:k=A.length:=by omega
  rw[oI]at hm0;replace hv:=hv.mono hgm;replace hga:=fun j v hj=>aH hgm<|hga j v hj;replace q1:=aH hgm q1;replace q2:=aH hgm q2;replace q0:=aH hgm q0;refine dS ?_;refine K1 _ _ ?_;clear K1;refine kP H (SQ fun _ K1=>SB<|SR fun _ K2=>Rf Ab M<|Rg aF M q1<|Rc M<|Rm M<|Sp 61 M ?_ ?_)<;>clear H
  · intro tu a H
    try have p61:=dT tu
    refine kH H<|bJ tu M<|aU tu M<|Pt tu M<|Rm M<|aU M M<|aU M M<|Pt M M<|ak K2 M<|Ct M M<|SR fun _ K4=>Ra M<|ak K4 M ?_;clear H K2 K4;exact Y6
  intro tu a H
  try have p61:=dF tu
  refine kH H (YF Ab tu M<|YR aF tu M q1<|YF Cv tu M<|YR aF tu M q2<|YC tu M<|Pf tu M<|Rm M<|Sp 68 M ?_ ?_)<;>clear H
  · intro h68 a H
    try have p68:=dT h68
    refine kH H<|aU h68 M<|aU h68 M<|Pt h68 M<|ak K2 M<|Ct M M<|SR fun _ K4=>Ra M<|ak K4 M ?_;clear H K2 K4;exact Y6
  intro h68 a H
  try have p68:=dF h68
  refine kH H (YF Cv h68 M<|YR aF h68 M q2<|YM h68 M<|YC h68 M<|Pf h68 M<|ak K2 M<|Cd M ?_ ?_)<;>clear H K2
  · intro h57 a H
    try have p57:=dT h57
    exact Zm
  intro h57 a H
  try have p57:=dF h57
  refine kP H (SR fun _ K2=>Ro aF 1 M<|Rc M<|ak K2 M<|Cd M ?_ ?_)<;>clear H K2
  · intro h74 a H
    try have p74:=dT h74
    exact Zm
  intro h74 a H
  try have p74:=dF h74
  refine dw<|fun _ K2=>?_;refine aY jc (cs:=D.cells) H wn M M (fun j v hj=>H.hp.aJ<|hga j v hj) M ?_;clear H;intro a H;refine s_call ayU H wn M (aIy _ _ H.ro D l hv O<|aIs l hz) M ?_;clear H;rintro v79 G79 a w rfl abP H;replace q1:=aH abP q1;replace q2:=aH abP q2;replace q0:=aH abP q0;refine kH H (Rc M<|ak K2 M<|Cd M ?_ ?_)<;>clear H K2
  · intro wJ a H
    try have F9:=dT wJ
    exact Zm
  intro wJ a H
  try have F9:=dF wJ
  refine fU ?_;refine K1 _ _ ?_;clear K1;refine bU<|fun _ K1=>?_;obtain⟨G22,aCB,-,H⟩:=H.eX;obtain⟨Je,aCC,abp,H⟩:=H.eX;have rV:=fun(b:Nat)(o:Obj)(h:G79 b=some o)=>aCC b o<|aCB b o h;have qi:aJ Je b14 0=some (vi m):=lQ abp 0 [vi m] M 0 _ M;replace q1:=aH rV q1;replace q2:=aH rV q2;replace q0:=aH rV q0;refine mF ?_;refine wU H wn M M ?_;clear H;intro a H;refine kH H<|bZ K1 M<|SQ fun _ K2=>?_;clear H K1;intro a H
  have Ik:yG (fun(cu:Nat)(v:aj)(G:GH)=>match cu with|0=>v=.func (.func 65) #[] #[aK b5 0,aK b14 0]|1=>v=(aK b5 (0+2))|2=>v=vi t|3=>∃A n c,v=.agg (lg 11 F t (.slice A n c)).toArray∧av G (.sl 11 ([jN 2 m ⟨#[]⟩].map ah.dat)) (.slice A n c)|4=>v=.func (.func 65) #[] #[aK b5 0,aK b14 0]|5=>v=(aK b5 (0+1))|6=>v=vi f|7=>v=.string nm|8=>∃A n c,v=.agg (lg 11 F f (.slice A n c)).toArray∧av G (.sl 11 ([jN 1 m nm].map ah.dat)) (.slice A n c)|_=>True):=by intro cu v G G' hm h;(iterate 12 (rcases cu with _|cu;(first|exact h|exact let⟨x,y,z,h1,h2⟩:=h;⟨x,y,z,h1,h2.mono hm⟩)));exact trivial
  refine yM (hmx) [[],[],[1],[0,1,2],[],[],[5],[],ra 0 8,ra 0 9,ra 0 10,ra 0 11] [9,10,11] V V _ Ik H ?_ ?_
  · clear H;refine aD ?_ ?_ ?_ ?_<|aD ?_ ?_ ?_ ?_<|aD ?_ (bX M) (bX M) (bX M) dz
    · exact Zn
    · refine dN [] M trivial V Ik M M ?_;intro aZ a w G1 hG HT H fin;exact kH H<|Rf Cv M fun _ H=>fin H iJ M
    · refine dN [(1,83,_)] M ⟨fun _ _ h=>h,aC⟩ V Ik M M ?_;intro aZ a w G1 hG HT H fin;exact kH H<|Rg aF M (aH hG q2) fun _ H=>fin H iJ M
    · refine dN [(0,82,_),(2,84,_)] M ⟨fun _ _ h=>h,fun _ _ h=>h,aC⟩ V Ik M M ?_;intro aZ a w G1 hG HT H fin;refine ow H wn M M (apD _ _ H.ro b5 b14 F m (aH hG q0) (aH hG qi) 2 t ⟨#[]⟩) M ?_;clear H;rintro v85 G85 a w ⟨eA,en,ec,rfl,abG⟩ aBg H;exact fin H aBg (⟨eA,en,ec,M,abG⟩)
    · exact Zn
    · refine dN [] M trivial V Ik M M ?_;intro aZ a w G1 hG HT H fin;exact kH H<|Rf Ab M fun _ H=>fin H iJ M
    · refine dN [(5,87,_)] M ⟨fun _ _ h=>h,aC⟩ V Ik M M ?_;intro aZ a w G1 hG HT H fin;exact kH H<|Rg aF M (aH hG q1) fun _ H=>fin H iJ M
    · exact Zn
    refine dN [(4,86,_),(6,88,_),(7,89,_)] M ⟨fun _ _ h=>h,fun _ _ h=>h,fun _ _ h=>h,aC⟩ V Ik M M ?_;intro aZ a w G1 hG HT H fin;refine ow H wn M M (apD _ _ H.ro b5 b14 F m (aH hG q0) (aH hG qi) 1 f nm) M ?_;clear H;rintro v90 G90 a w ⟨dA,dn,dc,rfl,abH⟩ aBi H;exact fin H aBi (⟨dA,dn,dc,M,abH⟩)
  clear H;intro a w G aJJ H hv;obtain⟨u85,aDM,amV⟩:=hv 3 85 Z M;(try dsimp only at amV);obtain⟨eA,en,ec,rfl,abG⟩:=amV;have H:=H.fT aDM;obtain⟨u90,aDN,amX⟩:=hv 8 90 Z M;(try dsimp only at amX);obtain⟨dA,dn,dc,rfl,abH⟩:=amX;have H:=H.fT aDN;clear hv;refine adL GA wY [lg 11 F t (.slice eA en ec),lg 11 F f (.slice dA dn dc)] H wn M M M M M M M ?_;clear H;intro b91 a w aJ1 H;obtain⟨XU,QT,aBO,H⟩:=H.eX;have aDg:av XU (.sl 18<|Jl nm F f t m) (.slice (some ⟨b91,0,none⟩) 2 2):=av.uK (xs:=[lg 11 F t (.slice eA en ec),lg 11 F f (.slice dA dn dc)].flatten) aBO M (eP _) Z M (by simpa[Jl]using((bR.nil (sz:=18)).snoc (Ut<|abG.mono QT) M).snoc (Ut<|abH.mono QT) M);refine kH H<|Ra M<|Ra M ?_;clear H;intro a H;refine aI ⟨M,?_⟩;refine K2 _ _ ?_;clear K2;refine eH ?_;refine(gV H results19 (.cons (cK H M) (.cons (cK H M) .nil)) ?_).1
  have c1:¬pq nm=false:=by simpa using h20
  have c2:¬(uW l nm).isSome=true:=by simpa using h27
  have c3:¬(iZ l F).isSome=false:=fun e=>by rw[e]at lS;cases lS
  exact ags
end Go.Proofs.YtdgnnpjijhafaaaGreat
