/-
  What the claim stands on, part 6: Nm Nml Nd13 Hg24 Ne13 Npre Rv24 Dx24 Cd24 Wh24 Dn Mw24 Kt Par Pas L14 L14b L14c It Div Nrm L14d L14e Sl Sm16 Kn24 Sn24 Fg24 Vs24 Ls24 Eqi En Stq Dms Deq Rl24 Rk24 Vw24 Rj24 Cm24 Cn24 Cp24 Pj24 Dnc Dpk Sd24 Odc Va24 Kp24.
-/
import Derived.Test.YtdiflmikikiedaaGreatWle
namespace Go.Proofs.YtdiflmikikiedaaGreat
set_option linter.all false
open Go.Proofs.Tryz
open Go.RowKit
theorem WW:aR 58:=aS func58 M
theorem aqs:aR 109:=aS func109 M
theorem asI:aR 52:=aS func52 M
theorem aqu:aR 112:=aS func112 M
theorem arj:aR 173:=aS func173 M
theorem aqt:aR 111:=aS func111 M
theorem azS {G:GH} (r:aO):qW (.func (.func 112) #[] #[]) G r.dat (decide (r.cells.length=0)):=by
 intro G1 w0 cs hm hG hr;refine kD (caps:=[]) aqu ?_;obtain ⟨pA,pn,pc,dA,dn,dc,yA,yn,yc,fA,fn,fc,rfl,-,hf⟩:=hr.row;have hn:=hf.len;rw [bK] at hn;subst hn;refine eN [(0,_)] func112 M ntmps112 M M hG ?_;intro a H;refine cZ (fun _ K1=>?_);refine dZ (cs:=[_,_,_,_,_,_]) H wn M M M ?_;clear H;intro b1 a w hb1 H;exact kH H (aj K1 M (SR fun _ K2=>bC wm wL 0 M M (Rl oK M (Rc M (aj K2 M (LR results112 M fun H=>H.rt (iP (decide_eq_decide.2 O))))))))
theorem apX (G:GH) (w0:World) (hG:Hold G w0) (l:List aO) (v:ah) (hv:av G (.sl 6 (l.map aO.dat)) v) (hne:∀ r∈l,r.cells≠[]) :
  Calls prog 109 #[v,.func (.func 112) #[] #[]] w0 (bE w0 G fun u G'=>av G' (.sl 6 (l.map aO.dat)) u):=by
 obtain ⟨A,n,c,rfl⟩:=hv.form
 have hno:l.findIdx? (fun r=>decide (r.cells.length=0))=none:=by
  rw [List.findIdx?_eq_none_iff];intro r hr;exact qE fun h=>hne r hr (List.length_eq_zero_iff.1 h)
 refine eN [(0,_),(1,_)] func109 M ntmps109 M M hG ?_;intro a H;refine kP H (SR fun _ K1=>aj K1 M (SR fun _ K2=>Rm M (Rm M ?_)));clear H K1;intro a H;refine s_call afC H wn M (aiT _ _ H.ro l (fun r=>decide (r.cells.length=0)) _ _ hv (fun r _=>azS r)) M ?_;clear H;rintro v10 GL a w rfl FH H;rw [hno] at H;refine kH H (aj K2 M (SQ fun _ K3=>SR fun _ K4=>Rm M (Rc M (Kz K4 (Cd M ?_ ?_))))) <;> clear H K2 K4
 ·intro h12 a H
  exact kP H (SR fun _ K5=>Rm M (aj K5 M (LR results109 M fun H=>H.rt (hv.mono FH))))
 intro h12 a H
 try have rM:=dF h12
 exact absurd M rM
def Hf (n:Nat):Prop:=∀ (G:GH) (w0:World),Hold G w0->∀ (l:List ak) (v:ah),av G (.sl 11 (l.map ak.dat)) v->xE l->bq l < n ->
 Calls prog 58 #[v] w0 (bE w0 G fun u G'=>av G' (.sl 11 ((iA l).map ak.dat)) u)
theorem azN {n:Nat} (ih:Hf n) (hn:n<=4294967296) (G:GH) (w0:World) (hG:Hold G w0) (x:aQ) (cs:List ah) (hv:aX G x.dat cs) (hne:F7 x) (hz:bX x.dat < n+1) :
  Calls prog 173 #[.agg cs.toArray] w0 (bE w0 G fun u G'=>∃ cs',u=.agg cs'.toArray∧aX G' (nC x).dat cs'):=by
 have he:=zO x;obtain ⟨pA,pn,pc,dA,dn,dc,yA,yn,yc,fA,fn,fc,rfl,hh,hf⟩:=hv.cell;rw [azB] at hne;refine eN [(0,_)] func173 M ntmps173 M M hG ?_;intro a H;refine cZ (fun _ K1=>?_);refine dZ (cs:=[_,_,_,_,_,_,_]) H wn M M M ?_;clear H;intro b1 a w hb1 H;refine dW kL H wn M ?_;clear H;intro b2 a w hb2 H;refine K1 _ _ ?_;clear K1;refine bL (fun _ K2=>?_)
 have jd:zR (fun (bV:Nat) (v:ah) (G:GH)=>match bV with|0=>v=(aH b1 0)|1=>v=vi x.id|2=>v=(aH b1 1)|3=>v=.agg #[.slice pA pn pc,vi x.head.marks.ins,vi x.head.marks.move,.slice dA dn dc,.slice yA yn yc]|4=>∃ p d l,v=.agg #[p,vi x.head.marks.ins,vi x.head.marks.move,d,l]∧jG G x.head p d l|5=>v=(aH b1 6)|6=>v=.slice fA fn fc|7=>av G (.sl 11 ((iA x.flow).map ak.dat)) v|_=>True):=by intro bV v G G' hm h;(iterate 10 (rcases bV with _|bV;(first|exact h|exact let ⟨p,d,l,h1,h2⟩:=h;⟨p,d,l,h1,h2.mono hm⟩|exact av.mono hm h)));exact trivial
 refine yU (hmx) [[],[0],[],[2],[2,3],[],[5],ra 2 5,ra 0 8,ra 0 9] [8,9] V V _ jd H ?_ ?_
 ·clear H;refine aB ?_ ?_ ?_ ?_ (aB ?_ ?_ ?_ ?_ (bN (bS M) (bN (bS M) dz)))
  ·exact aeb
  ·exact adZ
  ·exact aec
  ·exact adw
  ·exact adG
  ·exact aed
  ·exact aeh
  refine eY [(6,9,_)] M ⟨fun _ _ h=>h,aC⟩ V jd M M ?_;intro aW a w G1 hG HT H fin;refine s_call WW H wn M (ih _ _ H.ro x.flow _ (hf.mono hG) hne O) M ?_;exact Vo
 clear H;intro a w G nO H hv;have H:=H.aM (hv 1 4 M M) M;obtain ⟨u7,YW,IV⟩:=hv 4 7 Z M;(try dsimp only at IV);obtain ⟨p7,d7,l7,rfl,Ef⟩:=IV;obtain ⟨a1,a2,a3,rfl⟩:=Ef.props.form;obtain ⟨a4,a5,a6,rfl⟩:=Ef.bD.form;obtain ⟨a7,a8,a9,rfl⟩:=Ef.layers.form;have H:=H.gU YW;obtain ⟨u10,I6,rE⟩:=hv 7 10 Z M;(try dsimp only at rE);obtain ⟨Uo,n10,c10,rfl⟩:=rE.form;have H:=H.gU I6;clear hv;refine jM aaB [_,_,_,_,_,_,_] H wn M M M M ?_;clear H;intro a H;refine bJ kL 0 (vs:=[_,_,_,_,_,_,_]) H wn M ?_;clear H;intro w H;refine aD ⟨M,?_⟩;refine K2 _ _ ?_;clear K2;refine eP ?_;refine (leave1 H results173 (.cons (qM kL (cs:=[_,_,_,_,_,_,_]) H M M (H.hp.dG 0 M M)) .nil) ?_).1;exact H.rt ⟨_,M,by rw [azs];exact aX.SG (x:=.mk x.id x.head (iA x.flow)) Ef rE⟩
theorem azO {n:Nat} (ih:Hf n) (hn:n<=4294967296) {G:GH} {w0:World} (x:aQ) (hne:F7 x) (hz:bX x.dat < n+1):Dy (.func (.func 173) #[] #[]) w0 G x.dat (nC x).dat:=by
 intro G1 w1 cs hm1 hG1 hr;have h:=azN ih hn _ _ hG1 x cs hr hne hz;have h2:=kD (P:=prog) (caps:=[]) (args:=[.agg cs.toArray]) arj h;exact h2
theorem azP {n:Nat} (ih:Hf n) (hn:n<=4294967296) (G:GH) (w0:World) (hG:Hold G w0) (x:aO) (cs:List ah) (hv:aX G x.dat cs) (hne:F9 x) (hz:bX x.dat < n+1) :
  Calls prog 111 #[.agg cs.toArray] w0 (bE w0 G fun u G'=>∃ cs',u=.agg cs'.toArray∧aX G' (nR x).dat cs'):=by
 have he:=zP x;have hl:=JG x.cells;obtain ⟨pA,pn,pc,dA,dn,dc,yA,yn,yc,fA,fn,fc,rfl,hh,hf⟩:=hv.row;rw [ajJ] at hne;refine eN [(0,_)] func111 M ntmps111 M M hG ?_;intro a H;refine cZ (fun _ K1=>?_);refine dZ (cs:=[_,_,_,_,_,_]) H wn M M M ?_;clear H;intro b1 a w hb1 H;refine dW jO H wn M ?_;clear H;intro b2 a w hb2 H;refine K1 _ _ ?_;clear K1;refine bL (fun _ K2=>?_)
 have jd:zR (fun (bV:Nat) (v:ah) (G:GH)=>match bV with|0=>v=(aH b1 0)|1=>v=.agg #[.slice pA pn pc,vi x.head.marks.ins,vi x.head.marks.move,.slice dA dn dc,.slice yA yn yc]|2=>∃ p d l,v=.agg #[p,vi x.head.marks.ins,vi x.head.marks.move,d,l]∧jG G x.head p d l|3=>v=(aH b1 5)|4=>v=.slice fA fn fc|5=>av G (.sl 7 (x.cells.map fun y=>(nC y).dat)) v|_=>True):=by intro bV v G G' hm h;(iterate 8 (rcases bV with _|bV;(first|exact h|exact let ⟨p,d,l,h1,h2⟩:=h;⟨p,d,l,h1,h2.mono hm⟩|exact av.mono hm h)));exact trivial
 refine yU (hmx) [[],[0],[0,1],[],[3],ra 0 5,ra 0 6,ra 0 7] [6,7] V V _ jd H ?_ ?_
 ·clear H;refine aB ?_ ?_ ?_ ?_ (aB ?_ ?_ (bS M) (bS M) dz)
  ·exact aee
  ·exact VD
  ·exact VF
  ·exact aef
  ·exact adY
  refine eY [(4,7,_)] M ⟨fun _ _ h=>h,aC⟩ V jd M M ?_;intro aW a w G1 hG HT H fin;refine s_call afD H wn M (afp nC _ _ H.ro x.cells _ _ (hf.mono hG) O (fun y hy=>azO ih hn y (ajH hne.2 y hy) (by have:=amA hy;omega))) rfl ?_;exact Vq
 clear H;intro a w G nO H hv;obtain ⟨u5,I8,wC⟩:=hv 2 5 Z M;(try dsimp only at wC);obtain ⟨p5,d5,l5,rfl,uG⟩:=wC;obtain ⟨a1,a2,a3,rfl⟩:=uG.props.form;obtain ⟨a4,a5,a6,rfl⟩:=uG.bD.form;obtain ⟨a7,a8,a9,rfl⟩:=uG.layers.form;have H:=H.gU I8;obtain ⟨u8,zx,mI⟩:=hv 5 8 Z M;(try dsimp only at mI);obtain ⟨A8,n8,c8,rfl⟩:=mI.form;have H:=H.gU zx;clear hv;refine jM aaA [_,_,_,_,_,_] H wn M M M M ?_;clear H;intro a H;refine bJ jO 0 (vs:=[_,_,_,_,_,_]) H wn M ?_;clear H;intro w H;refine aD ⟨M,?_⟩;refine K2 _ _ ?_;clear K2;refine eP ?_;refine (leave1 H results111 (.cons (qM jO (cs:=[_,_,_,_,_,_]) H M M (H.hp.dG 0 M M)) .nil) ?_).1;exact H.rt ⟨_,M,by rw [ajC];exact aX.SH (x:=.mk x.head (x.cells.map nC)) uG (by show av _ (.sl 7 ((x.cells.map nC).map aQ.dat)) _;rw [List.map_map];exact mI)⟩
theorem azQ {n:Nat} (ih:Hf n) (hn:n<=4294967296) {G:GH} {w0:World} (x:aO) (hne:F9 x) (hz:bX x.dat < n+1):Dy (.func (.func 111) #[] #[]) w0 G x.dat (nR x).dat:=by
 intro G1 w1 cs hm1 hG1 hr;have h:=azP ih hn _ _ hG1 x cs hr hne hz;have h2:=kD (P:=prog) (caps:=[]) (args:=[.agg cs.toArray]) aqt h;exact h2
theorem joined {G:GH} {o:List ak} {z y:ak} {x0:List ah} {s p d q f r:ah} (hc:dx G 11 (o.map ak.dat) x0) (hl:x0.length=o.length*11) (hh:jG G z.head p d q) (hf:av G (.sl 11 (z.flow.map ak.dat)) f) (hr:av G (.sl 6 (z.rows.map aO.dat)) r) (hs:s=.string (z.text++y.text)) :
  dx G 11 ((o++[mJ z y]).map ak.dat) ((x0++[vi z.kind,vi z.code,vi z.id,.string z.text,p,vi z.head.marks.ins,vi z.head.marks.move,d,q,f,r]).set (((o++[z]).length - 1)*11+3) s):=by
 rw [ji,gF,List.length_singleton,Nat.add_sub_cancel,List.set_append_right _ _ O,hl,Ho];refine hc.snoc ?_ M;rw [hs];exact aX.mkItem (x:=mJ z y) hh hf hr
theorem QD {s:ByteArray} {k:Int} {n:Nat} (hk:k=1):(s.toList == (⟨#[]⟩:ByteArray).toList)=true↔(k=7∧n=0)∨(k=1∧s.size=0):=by
 rw [beq_iff_eq,ByteArray.toList_eq,ByteArray.toList_eq]
 constructor
 ·intro h;refine .inr ⟨hk,?_⟩;have:=cO List.length h
  simpa using this
 rintro (⟨h,-⟩|⟨-,h⟩)
 ·omega
 have:s.data.toList.length=0:=by simpa using h
 rw [List.length_eq_zero_iff.1 this]
theorem acA {p:Prop} (h:p:=by
 exact fin H iJ (by show _=_;first|rfl|exact cO (fun A=>Value.slice A out.length vc) (hvA c2))):p:=h
theorem M6 {p:Prop} (h:p:=by
 first
  | exact absurd ((aJ c4).symm.trans h) Z
  | (rw [hos]
     refine AQ hnd fun o2 z2 e2 hj=>?_;rw [pE,hyk,hyh] at hj;obtain ⟨j1,j2,j3⟩:=hj
     first
       | exact c1 j1
       | (have c2':0 < (out.length:Int):=by rw [e2,gF,List.length_singleton];omega
          obtain ⟨o,z,_,_,_,e,_,epk,_⟩:=LH c2';obtain ⟨-,ez⟩:=List.append_inj' (e2.symm.trans e) M
          injection ez with ez
          subst ez
          first
            | exact c2 c2'
            | exact c3 (by rw [epk];exact j2)
            | exact c4 (by rw [epk];exact j3)))):p:=h
theorem adB {p:Prop} (h:p:=by
 refine eT 21 74 16 69 M M fun _ a w G1 hG HT H fin=>?_;obtain ⟨_,_,_,_,_,_,rfl,_,_,_,_,_,_,_,_,hx⟩:=LH c2
 refine bQ gB (cs:=[pp,vi pk.1.marks.ins,vi pk.1.marks.move,pd,pl]) H (wg H M M (aJ c3)) M M (fun j u hj=>hrw.at H.hp (fun x hx=>gI _ hx) (by
     rw [gZ,Nat.add_assoc];refine hx (4+j) u ?_
     match j,hj with
     | 0,hj=>exact hj
     | 1,hj=>exact hj
     | 2,hj=>exact hj
     | 3,hj=>exact hj
     | 4,hj=>exact hj)) M ?_;clear H;intro a H
 exact Kg):p:=h
theorem adC {p:Prop} (h:p:=by
 refine zS 22 75 24 77 16 69 M M fun _ a w G1 hG HT H fin=>?_;refine s_call asI H (wg H M M (aJ c3)) M (ati _ _ H.ro pk.1 l[k].head _ _ _ _ _ _ (by obtain ⟨_,_,_,_,_,_,_,e,_,_,_,_,hh,_⟩:=LH c2;rw [e];exact hh.mono hG) (Oa.mono fun b o h=>hG b o (La b o (CO b o (sW b o h))))) M ?_;clear H;rintro v78 G78 a w rfl auU H;exact fin H auU (rfl)):p:=h
theorem VR {p:Prop} (h:p:=by
 refine iO 7 60 M M fun _ a w G1 hG HT H fin=>?_;refine kH H (YM (aJ c2) M ?_);clear H;intro a H;exact acA):p:=h
theorem acH {p:Prop} (h:p:=by
 refine iO 16 69 M M fun _ a w G1 hG HT H fin=>?_;refine kH H (YM (aJ c3) M ?_);clear H;intro a H;exact acA):p:=h
theorem Vw {p:Prop} (h:p:=by
 refine eT 12 65 7 60 M M fun _ a w G1 hG HT H fin=>?_;obtain ⟨_,_,_,_,_,_,rfl,_,_,_,_,_,_,_,_,hx⟩:=LH c2;refine sF aF H (wg H M M (aJ c2)) M (hrw.at H.hp (fun x hx=>gI _ hx) (by rw [gZ];exact hx 0 _ M)) M ?_;exact jH):p:=h
theorem Vx {p:Prop} (h:p:=by
 refine eT 9 62 7 60 M M fun _ a w G1 hG HT H fin=>?_;refine Dj _ H (wg H M M (aJ c2)) M M M O O M ?_;exact Nc):p:=h
theorem adf {p:Prop} (h:p:=by
 refine eT 23 76 16 69 M M fun _ a w G1 hG HT H fin=>?_;refine bQ gB (cs:=[_,_,_,_,_]) H (wg H M M (aJ c3)) M M (H.hp.dG 0 M M) M ?_;exact jH):p:=h
set_option maxHeartbeats 4000000 in
theorem azR {n:Nat} (ih:Hf n) (hn:n<=1073741824):Hf (n+1):=by
  intro G w0 hG l v hv hne hz;obtain ⟨A,c,rfl,hc1,hc2,hg⟩:=hv.slice
  have hml:4294967297<=maxLen:=by decide
  have htl:nA l<=bq l:=aaJ l;have hll:l.length<=nA l:=Sy l;rw [bK] at *;refine eN [(0,_)] func58 M ntmps58 M M hG ?_;intro a H;refine kP H (SR fun _ K1=>aj K1 M (SR fun _ K2=>aj K2 M (SQ fun _ K3=>SR fun _ K4=>Rm M (Rl iB M (Rm M (Kz K4 (SB ?_)))))));clear H K1 K2 K4;intro a H;skip;refine fD (ι:=Nat × ah × List ah × OL × GH) (Tc:=[(7,_),(8,_)]) (Lc:=[]) (fun gh=>[(3,gh.2.1),(9,vi gh.1)]) (fun gh=>[]++gh.2.2.2.1) (fun gh=>gh.2.2.2.2) (fun gh=>gh.1<=l.length∧bY 68 11 gh.2.1 (vE l gh.1).length gh.2.2.1 gh.2.2.2.1∧dx gh.2.2.2.2 11 ((vE l gh.1).map ak.dat) gh.2.2.1∧(∀ b o,G b=some o->gh.2.2.2.2 b=some o)) (fun gh=>l.length - gh.1) ((0,.slice none 0 0,[],[],G)) (by exact H.sub ⟨M,M,M,M,aC⟩) ?_ ?_
  · exact Kh
  clear H;rintro ⟨k,v,xs,Lo,g⟩ a w hI H;dsimp only at hI H;obtain ⟨hk,hrw,fu,hgm⟩:=hI;have hol:=aAe hk;obtain ⟨out,hout⟩:∃ o,o=vE l k:=⟨_,M⟩;rw [<- hout] at hrw fu hol;dsimp only [lca,bM] at H;refine kP H (SR fun _ K5=>Rc M (Kz K5 (SQ fun _ K6=>Cd M ?_ ?_))) <;> clear H K5
  · intro h10 a H
    try have ni:=dT h10
    have hk2:k < l.length:=by omega
    have hos:=ajX hk2;have hot:=ZT (l:=l) (k:=k) O;have htt:=aaK l (k+1);rw [jK hk2,JC] at htt
    simp only [nA] at htt
    rw [<- hout] at hos hot;obtain ⟨vA,vc,rfl,-,-⟩:=hrw.shape;obtain ⟨b,o,pA,pn,pc,dA,dn,dc,yA,yn,yc,fA,fn,fc,rA,rn,rc,rfl,hrow,hhd,hfl,hrs⟩:=DV hk2 hg;replace hrow:=fun j u hj=>aG hgm (hrow j u hj);have hnx:=ajI hne _ (jS hk2);rw [azC] at hnx;obtain ⟨hnf,hnr⟩:=hnx;have hzi:=Uk hk2;have hze:=uP l[k];have hrl:=JH l[k].rows
    have axl:∀ r∈l[k].rows.map nR,r.cells≠[]:=fun r hr=>by
      obtain ⟨x,hx,rfl⟩:=List.mem_map.1 hr;have h1:=ZO hnr x hx;rw [ajJ] at h1;rw [ajC];exact fun e=>h1.1 (List.map_eq_nil_iff.1 e)
    refine kP H (Kc K6 (SQ fun _ K7=>SB (SR fun _ K8=>Ri iB eZ M M ?_)));clear H K6;intro a H;refine bQ eZ (cs:=[_,_,_,_,_,_,_,_,_,_,_]) H wn M M (fun j v hj=>H.hp.aI (hrow j v hj)) M ?_;clear H;intro a H;refine dW eZ H wn M ?_;clear H;intro b5 a w hb5 H;refine bJ eZ 0 (vs:=[_,_,_,_,_,_,_,_,_,_,_]) H wn M ?_;clear H;intro w H;refine K8 _ _ ?_;clear K8;refine kP H (SR fun _ K9=>Rf wU M ?_);clear H;intro a H;refine bQ gB (cs:=[_,_,_,_,_]) H wn M M (H.hp.dG 0 M M) M ?_;clear H;intro a H;refine s_call QY H wn M (QJ _ _ H.ro _ _ _ _ _ _ _ _ _ _ (hhd.mono hgm) O) M ?_;clear H;rintro v15 GN a w ⟨sD,d15,l15,rfl,Oa⟩ Ej H;obtain ⟨a1,a2,a3,rfl⟩:=Oa.props.form;obtain ⟨a4,a5,a6,rfl⟩:=Oa.bD.form;obtain ⟨a7,a8,a9,rfl⟩:=Oa.layers.form;refine kH H (Rf wU M ?_);clear H;intro a H;refine bJ gB 0 (vs:=[_,_,_,_,_]) H wn M ?_;clear H;intro w H;refine K9 _ _ ?_;clear K9;refine kP H (SR fun _ aT=>bC Af jy 0 M M ?_);clear H;intro a H;refine s_call WW H wn M (ih _ _ H.ro l[k].flow _ (hfl.mono fun b o h=>Ej b o (hgm b o h)) hnf O) M ?_;clear H;rintro v19 GQ a w Ol sW H;obtain ⟨JJ,n19,c19,rfl⟩:=Ol.form;refine kH H (Rf Af M ?_);clear H;intro a H;refine bJ jy 0 (vs:=[_]) H wn M ?_;clear H;intro w H;refine aT _ _ ?_;clear aT;refine kP H (SR fun _ bR=>bC qd qw 0 M M ?_);clear H;intro a H;refine s_call afs H wn M (afq nR _ _ H.ro l[k].rows _ _ (hrs.mono fun b o h=>sW b o (Ej b o (hgm b o h))) O (fun x hx=>azQ ih O x (ZO hnr x hx) (by have:=amE hx;omega))) rfl ?_;clear H;rintro v23 Uy a w Yx CO H;rw [show (l[k].rows.map fun x=>(nR x).dat)=(l[k].rows.map nR).map aO.dat by rw [List.map_map];rfl] at Yx;obtain ⟨A23,n23,c23,rfl⟩:=Yx.form;refine s_call aqs H wn M (apX _ _ H.ro (l[k].rows.map nR) _ Yx axl) M ?_;clear H;rintro v24 EP a w Yy La H;obtain ⟨Us,n24,c24,rfl⟩:=Yy.form;have ahV:=Yy.len;rw [bK,bK] at ahV;subst ahV;refine kH H (Rf qd M ?_);clear H;intro a H;refine bJ qw 0 (vs:=[_]) H wn M ?_;clear H;intro w H;refine bR _ _ ?_;clear bR;refine bL (fun _ cu=>?_);obtain ⟨y,hy⟩:∃ y,y=nI l[k]:=⟨_,M⟩;have hye:=hy.trans (SL l[k])
    have hyk:y.kind=l[k].kind:=by rw [hye];rfl
    have OC:y.text=l[k].text:=by rw [hye];rfl
    have hyh:y.head=l[k].head:=by rw [hye];rfl
    have Sm:y.rows.length=l[k].rows.length:=by rw [hye];simp [ak.rows]
    rw [<- hy] at hos;obtain ⟨Wu,RQ⟩:∃ x,x=[vi l[k].kind,vi l[k].code,vi l[k].id,.string l[k].text,.slice a1 a2 a3,vi l[k].head.marks.ins,vi l[k].head.marks.move,.slice a4 a5 a6,.slice a7 a8 a9,.slice JJ n19 c19,.slice Us l[k].rows.length c24]:=⟨_,M⟩
    have aiv:aX EP y.dat Wu:=by
      rw [RQ,hye];exact aX.mkItem (x:=.mk l[k].kind l[k].code l[k].id l[k].text l[k].head (iA l[k].flow) (l[k].rows.map nR)) (Oa.mono fun b o h=>La b o (CO b o (sW b o h))) (Ol.mono fun b o h=>La b o (CO b o h)) Yy
    have RO:=fu.mono fun b o h=>La b o (CO b o (sW b o (Ej b o h)));have ahF:∀ b o,G b=some o->EP b=some o:=fun b o h=>La b o (CO b o (sW b o (Ej b o (hgm b o h))));refine kP H (SC (Rm M (Rl iB M (bF cu M (SB ?_)))));clear H cu;intro a H;refine uo (ι:=Bool) (Tc:=[(3,_),(5,_),(6,_),(7,_),(8,_),(9,_)]) (Lc:=[]) (fun gh=>[(32,.bool gh)]) (fun gh=>[(b5,.cells [vi l[k].kind,vi l[k].code,vi l[k].id,.string l[k].text,.slice a1 a2 a3,vi l[k].head.marks.ins,vi l[k].head.marks.move,.slice a4 a5 a6,.slice a7 a8 a9,.slice JJ n19 c19,.slice Us l[k].rows.length c24].toArray 68 (0,0))]++Lo) (fun gh=>EP) (fun gh=>gh=true↔qG y) (by exact H.sub ⟨M,M,M,M,M,M,aC⟩) ?_ ?_
    · skip;refine kP H (SC (bC kF aF 0 M M (Rc M (Rm M (Sp 36 M ?_ ?_))))) <;> clear H
      · intro wY a H
        try have p36:=dT wY
        refine kH H (YF qd wY M (YO qw 0 wY M (YL mR wY M (YC wY M (Pt wY M (Rm M (Sp 42 M ?_ ?_))))))) <;> clear H
        · intro jV a H
          try have p42:=dT jV
          refine kH H (aU jV M (aU jV M (Ku M (Ku M (Ku M (Ks jV M (Pt jV M (Ra M ?_))))))));clear H;intro a H;refine aD ?_;refine ⟨_,by exact H.sub ⟨M,M,M,M,M,M,M,aC⟩,?_⟩;rw [qG,hyk,Sm,OC]
          first
            | exact ⟨fun _=>.inl ⟨p36,O⟩,fun _=>by first|rfl|exact mY p42⟩
            | exact ⟨fun h=>(by cases h),fun h=>(by exfalso;omega)⟩
            | exact QD p46
            | fail
        intro jV a H
        try have p42:=dF jV
        refine kH H (YF kF jV M (YO aF 0 jV M (YC jV M (YM jV M (Sp 46 M ?_ ?_))))) <;> clear H
        · intro h46 a H
          try have p46:=dT h46
          exfalso;omega
        intro h46 a H
        try have p46:=dF h46
        refine kH H (bH h46 M (PF jV h46 M (Pf jV M (Ra M ?_))));clear H;intro a H;refine aD ?_;refine ⟨_,by exact H.sub ⟨M,M,M,M,M,M,M,aC⟩,?_⟩;rw [qG,hyk,Sm,OC]
        first
          | exact ⟨fun _=>.inl ⟨p36,O⟩,fun _=>by first|rfl|exact mY p42⟩
          | exact ⟨fun h=>(by cases h),fun h=>(by exfalso;omega)⟩
          | exact QD p46
          | fail
      intro wY a H
      try have p36:=dF wY
      refine kH H (aU wY M (aU wY M (Pf wY M (Rm M ?_))));clear H;intro a H;refine Ms kF H (wg H M M M) M M ?_;clear H;intro a H;refine sF aF H (wg H M M M) M (H.hp.uN 0 M M) M ?_;clear H;intro a H;refine Jv H (wg H M M M) M M M M ?_;clear H;intro a H;refine Jy H (wg H M M M) M M ?_;clear H;intro a H;refine aat H 46 M ?_ ?_
      · intro h46
        try have p46:=dT h46
        refine kH H (YF wh h46 M (YO jf 0 h46 M ?_));clear H;intro a H;refine Gp H (wg H M M h46) M M M ?_;clear H;intro a H;refine O4 H (wg H M M M) M h46 M M ?_;clear H;intro a H;refine kH H (Pf M M (Ra M ?_));clear H;intro a H;refine aD ?_;refine ⟨_,by exact H.sub ⟨M,M,M,M,M,M,M,aC⟩,?_⟩;rw [qG,hyk,Sm,OC]
        first
          | exact ⟨fun _=>.inl ⟨p36,O⟩,fun _=>by first|rfl|exact mY p42⟩
          | exact ⟨fun h=>(by cases h),fun h=>(by exfalso;omega)⟩
          | exact QD p46
          | fail
      intro h46
      try have p46:=dF h46
      refine kH H (bH h46 M ?_);clear H;intro a H;refine TP H (wg H M M M) M h46 M M ?_;clear H;intro a H;refine kH H (Pf M M (Ra M ?_));clear H;intro a H;refine aD ?_;refine ⟨_,by exact H.sub ⟨M,M,M,M,M,M,M,aC⟩,?_⟩;rw [qG,hyk,Sm,OC]
      first
        | exact ⟨fun _=>.inl ⟨p36,O⟩,fun _=>by first|rfl|exact mY p42⟩
        | exact ⟨fun h=>(by cases h),fun h=>(by exfalso;omega)⟩
        | exact QD p46
        | fail
    clear H;intro db a w hI H;skip;dsimp only [lca,bM] at H;refine jL H M ?_ ?_
    · intro h32
      try have p32:=dT h32
      have hdp:=hI.1 (by assumption);rw [E8 hdp] at hos;refine kP H (Kc K7 (SC (Rd M (Rm M ?_))));clear H K7;intro a H;refine aD ?_;refine dQ ((k+1,_,xs,Lo,_)) (by exact (H.eD (Pl:=[_]) (dK:=[]) [] Z M).sub ⟨M,M,M,M,aC⟩) ?_
      (try dsimp only);exact ⟨O,by rw [hos];exact hrw,by rw [hos];exact RO,ahF⟩
    intro h32
    try have p32:=dF h32
    have hnd:¬ qG y:=fun h=>by have:=hI.2 h;simp_all
    obtain ⟨bo,pk,pt,pp,pd,pl,LH⟩:∃ (bo:Nat) (pk:dD × Int) (pt:ByteArray) (pp pd pl:ah),0 < (out.length:Int)->∃ (o:List ak) (z:ak) (x0:List ah) (f r:ah),out=o++[z]∧vA=some ⟨bo,0,none⟩∧pk=(z.head,z.kind)∧pt=z.text ∧
        xs=x0++[vi z.kind,vi z.code,vi z.id,.string z.text,pp,vi z.head.marks.ins,vi z.head.marks.move,pd,pl,f,r]∧x0.length=o.length*11∧dx EP 11 (o.map ak.dat) x0∧jG EP z.head pp pd pl∧av EP (.sl 11 (z.flow.map ak.dat)) f∧av EP (.sl 6 (z.rows.map aO.dat)) r ∧
        ∀ j u,[vi pk.2,vi z.code,vi z.id,.string pt,pp,vi pk.1.marks.ins,vi pk.1.marks.move,pd,pl][j]?=some u->xs[(out.length - 1)*11+j]?=some u:=by
      by_cases h0:0 < out.length
      · obtain ⟨bo,hbo⟩:=hrw.ptr h0;obtain ⟨o,z,e⟩:∃ o z,out=o++[z]:=⟨_,_,(List.dropLast_concat_getLast (fun e=>by rw [e] at h0;simp at h0)).symm⟩;rw [e,ji] at RO;obtain ⟨x0,cs,hxs,hc0,hrz,hcl,hxl⟩:=RO.aCT;obtain ⟨qA,qn,qc,sA,sn,sc,tA,tn,tc,fA2,fn2,fc2,rA2,rn2,rc2,rfl,hh,hf2,hr2⟩:=hrz.item;rw [bK] at hxl;refine ⟨bo,(z.head,z.kind),z.text,.slice qA qn qc,.slice sA sn sc,.slice tA tn tc,fun _=>⟨o,z,x0,_,_,e,hbo,M,M,hxs,hxl,hc0,hh,hf2,hr2,fun j u hj=>?_⟩⟩;rw [hxs,e,gF,List.length_singleton,Nat.add_sub_cancel,um O,hxl,Ho];rw [<- hj]
        match j,hj with
        | 0,hj=>rfl
        | 1,hj=>rfl
        | 2,hj=>rfl
        | 3,hj=>rfl
        | 4,hj=>rfl
        | 5,hj=>rfl
        | 6,hj=>rfl
        | 7,hj=>rfl
        | 8,hj=>rfl
        | _+9,hj=>simp at hj
      exact ⟨0,(⟨[],⟨0,0,[],[]⟩⟩,0),⟨#[]⟩,.slice none 0 0,.slice none 0 0,.slice none 0 0,fun h=>by omega⟩
    have hvA:0 < (out.length:Int)->vA=some ⟨bo,0,none⟩:=fun h=>by obtain ⟨_,_,_,_,_,_,e,_⟩:=LH h;exact e
    refine uo (ι:=Bool × GH) (Tc:=[(3,_),(5,_),(6,_),(7,_),(8,_),(9,_)]) (Lc:=[]) (fun gh=>[(52,.bool gh.1)]) (fun gh=>[(b5,.cells [vi l[k].kind,vi l[k].code,vi l[k].id,.string l[k].text,.slice a1 a2 a3,vi l[k].head.marks.ins,vi l[k].head.marks.move,.slice a4 a5 a6,.slice a7 a8 a9,.slice JJ n19 c19,.slice Us l[k].rows.length c24].toArray 68 (0,0))]++Lo) (fun gh=>gh.2) (fun gh=>(gh.1=true->(l[k].kind=1∧0 < (out.length:Int)∧pk.2=1∧pk.1=l[k].head))∧(gh.1=false->vE l (k+1)=out++[y])∧(∀ b o,EP b=some o->gh.2 b=some o)) (by exact H.sub ⟨M,M,M,M,M,M,aC⟩) ?_ ?_
    · skip
      by_cases c1:l[k].kind=1
      · skip
        by_cases c2:0 < (out.length:Int)
        · skip
          by_cases c3:pk.2=1
          · skip
            by_cases c4:pk.1=l[k].head
            · skip;refine dI hmx [[],[0],[0,1],[0,1,2],ra 0 4,ra 0 5,ra 0 6,ra 0 7,ra 0 8,ra 0 8,(ra 0 8++[9]),ra 0 11,ra 0 12,ra 0 13,ra 0 14,ra 0 15,ra 0 16,ra 0 17,ra 0 17,(ra 0 17++[18]),ra 0 20,ra 0 21,ra 0 22,ra 0 17,(ra 0 17++[23]),ra 0 25,ra 0 26,ra 0 27] [] V [_,vi l[k].kind,_,_,_,_,_,_,.slice (some ⟨bo,0,none⟩) out.length vc,_,vi ((out.length - 1:Nat):Int),_,_,vi pk.2,_,_,_,.slice (some ⟨bo,0,none⟩) out.length vc,_,vi ((out.length - 1:Nat):Int),_,_,sQ pk.1 pp pd pl,_,sQ l[k].head (.slice a1 a2 a3) (.slice a4 a5 a6) (.slice a7 a8 a9),.bool (decide (pk.1=l[k].head)),_,_] H (aB (Z0 M (Rf kF M)) (Z1 0 53 M (Ro aF 0 M)) (Z1 1 54 M (Rc M)) (Z1 2 55 M (Rm M)) (aB (Z1 3 56 M (YM (aJ c1) M)) (Z2 4 57 3 56 M (YC (aJ c1) M)) (Z2 3 56 5 58 M (Pt (aJ c1) M)) (Z1 6 59 M (Rm M)) (aB ?_ (Z1 7 60 M (YM (aJ c2) M)) ?_ (Z3 8 61 10 63 7 60 M (YI iB eZ (aJ c2) M M)) (aB (Z2 11 64 7 60 M (YF kF (aJ c2) M)) ?_ (Z2 13 66 7 60 M (YC (aJ c2) M)) (Z2 7 60 14 67 M (Pt (aJ c2) M)) (aB (Z1 15 68 M (Rm M)) ?_ (Z1 16 69 M (YM (aJ c3) M)) ?_ (aB (Z3 17 70 19 72 16 69 M (YI iB eZ (aJ c3) M M)) (Z2 20 73 16 69 M (YF wU (aJ c3) M)) ?_ (Z1 16 69 M (YF wU (aJ c3) M)) (aB ?_ ?_ (Z2 16 69 25 78 M (Pt (aJ c3) M)) (Z1 26 79 M (Ra M)) dz))))))) ?_
              · exact VR
              · exact Vx
              · exact Vw
              · exact acH
              · refine eT 18 71 16 69 M M fun _ a w G1 hG HT H fin=>?_;exact Qq
              · exact adB
              · exact adf
              · exact adC
              clear H;intro a w G tQ H hv;have H:=H.aM (hv 27 52 M M) M;clear hv;refine aD ⟨M,?_⟩;refine ⟨(_,_),by exact H.sub ⟨M,M,M,M,M,M,M,aC⟩,?_⟩;(try dsimp only);refine ⟨fun h=>by first|exact absurd h Z|exact ⟨c1,c2,c3,rT h⟩,fun h=>?_,tQ⟩
              exact M6
            skip;refine dI hmx [[],[0],[0,1],[0,1,2],ra 0 4,ra 0 5,ra 0 6,ra 0 7,ra 0 8,ra 0 8,(ra 0 8++[9]),ra 0 11,ra 0 12,ra 0 13,ra 0 14,ra 0 15,ra 0 16,ra 0 17,ra 0 17,(ra 0 17++[18]),ra 0 20,ra 0 21,ra 0 22,ra 0 17,(ra 0 17++[23]),ra 0 25,ra 0 26,ra 0 27] [] V [_,vi l[k].kind,_,_,_,_,_,_,.slice (some ⟨bo,0,none⟩) out.length vc,_,vi ((out.length - 1:Nat):Int),_,_,vi pk.2,_,_,_,.slice (some ⟨bo,0,none⟩) out.length vc,_,vi ((out.length - 1:Nat):Int),_,_,sQ pk.1 pp pd pl,_,sQ l[k].head (.slice a1 a2 a3) (.slice a4 a5 a6) (.slice a7 a8 a9),.bool (decide (pk.1=l[k].head)),_,_] H (aB (Z0 M (Rf kF M)) (Z1 0 53 M (Ro aF 0 M)) (Z1 1 54 M (Rc M)) (Z1 2 55 M (Rm M)) (aB (Z1 3 56 M (YM (aJ c1) M)) (Z2 4 57 3 56 M (YC (aJ c1) M)) (Z2 3 56 5 58 M (Pt (aJ c1) M)) (Z1 6 59 M (Rm M)) (aB ?_ (Z1 7 60 M (YM (aJ c2) M)) ?_ (Z3 8 61 10 63 7 60 M (YI iB eZ (aJ c2) M M)) (aB (Z2 11 64 7 60 M (YF kF (aJ c2) M)) ?_ (Z2 13 66 7 60 M (YC (aJ c2) M)) (Z2 7 60 14 67 M (Pt (aJ c2) M)) (aB (Z1 15 68 M (Rm M)) ?_ (Z1 16 69 M (YM (aJ c3) M)) ?_ (aB (Z3 17 70 19 72 16 69 M (YI iB eZ (aJ c3) M M)) (Z2 20 73 16 69 M (YF wU (aJ c3) M)) ?_ (Z1 16 69 M (YF wU (aJ c3) M)) (aB ?_ ?_ (Z2 16 69 25 78 M (Pt (aJ c3) M)) (Z1 26 79 M (Ra M)) dz))))))) ?_
            · exact VR
            · exact Vx
            · exact Vw
            · exact acH
            · refine eT 18 71 16 69 M M fun _ a w G1 hG HT H fin=>?_;exact Qq
            · exact adB
            · exact adf
            · exact adC
            clear H;intro a w G tQ H hv;have H:=H.aM (hv 27 52 M M) M;clear hv;refine aD ⟨M,?_⟩;refine ⟨(_,_),by exact H.sub ⟨M,M,M,M,M,M,M,aC⟩,?_⟩;(try dsimp only);refine ⟨fun h=>by first|exact absurd h Z|exact ⟨c1,c2,c3,rT h⟩,fun h=>?_,tQ⟩
            exact M6
          skip;refine dI hmx [[],[0],[0,1],[0,1,2],ra 0 4,ra 0 5,ra 0 6,ra 0 7,ra 0 8,ra 0 8,(ra 0 8++[9]),ra 0 11,ra 0 12,ra 0 13,ra 0 14,ra 0 15,ra 0 16,ra 0 17,ra 0 17,(ra 0 17++[18]),ra 0 20,ra 0 21,ra 0 22,ra 0 17,(ra 0 17++[23]),ra 0 25,ra 0 26,ra 0 27] [] V [_,vi l[k].kind,_,_,_,_,_,_,.slice (some ⟨bo,0,none⟩) out.length vc,_,vi ((out.length - 1:Nat):Int),_,_,vi pk.2,_,_,_,undef,undef,undef,undef,undef,undef,undef,undef,undef,_,_] H (aB (Z0 M (Rf kF M)) (Z1 0 53 M (Ro aF 0 M)) (Z1 1 54 M (Rc M)) (Z1 2 55 M (Rm M)) (aB (Z1 3 56 M (YM (aJ c1) M)) (Z2 4 57 3 56 M (YC (aJ c1) M)) (Z2 3 56 5 58 M (Pt (aJ c1) M)) (Z1 6 59 M (Rm M)) (aB ?_ (Z1 7 60 M (YM (aJ c2) M)) ?_ (Z3 8 61 10 63 7 60 M (YI iB eZ (aJ c2) M M)) (aB (Z2 11 64 7 60 M (YF kF (aJ c2) M)) ?_ (Z2 13 66 7 60 M (YC (aJ c2) M)) (Z2 7 60 14 67 M (Pt (aJ c2) M)) (aB (Z1 15 68 M (Rm M)) (aZ 16 (aY c3) M M) (aZ 16 (aY c3) M M) (aZ 16 (aY c3) M M) (aB (aZ 16 (aY c3) M M) (aZ 16 (aY c3) M M) (aZ 16 (aY c3) M M) (aZ 16 (aY c3) M M) (aB (aZ 16 (aY c3) M M) (aZ 16 (aY c3) M M) (Z2 16 69 25 78 M (Pf (aY c3) M)) (Z1 26 79 M (Ra M)) dz))))))) ?_
          · exact VR
          · exact Vx
          · exact Vw
          clear H;intro a w G tQ H hv;have H:=H.aM (hv 27 52 M M) M;clear hv;refine aD ⟨M,?_⟩;refine ⟨(_,_),by exact H.sub ⟨M,M,M,M,M,M,M,aC⟩,?_⟩;(try dsimp only);refine ⟨fun h=>by first|exact absurd h Z|exact ⟨c1,c2,c3,rT h⟩,fun h=>?_,tQ⟩
          exact M6
        skip;refine dI hmx [[],[0],[0,1],[0,1,2],ra 0 4,ra 0 5,ra 0 6,ra 0 7,ra 0 8,ra 0 8,(ra 0 8++[9]),ra 0 11,ra 0 12,ra 0 13,ra 0 14,ra 0 15,ra 0 16,ra 0 17,ra 0 17,(ra 0 17++[18]),ra 0 20,ra 0 21,ra 0 22,ra 0 17,(ra 0 17++[23]),ra 0 25,ra 0 26,ra 0 27] [] V [_,vi l[k].kind,_,_,_,_,_,_,undef,undef,undef,undef,undef,undef,undef,_,_,undef,undef,undef,undef,undef,undef,undef,undef,undef,_,_] H (aB (Z0 M (Rf kF M)) (Z1 0 53 M (Ro aF 0 M)) (Z1 1 54 M (Rc M)) (Z1 2 55 M (Rm M)) (aB (Z1 3 56 M (YM (aJ c1) M)) (Z2 4 57 3 56 M (YC (aJ c1) M)) (Z2 3 56 5 58 M (Pt (aJ c1) M)) (Z1 6 59 M (Rm M)) (aB (aZ 7 (aY c2) M M) (aZ 7 (aY c2) M M) (aZ 7 (aY c2) M M) (aZ 7 (aY c2) M M) (aB (aZ 7 (aY c2) M M) (aZ 7 (aY c2) M M) (aZ 7 (aY c2) M M) (Z2 7 60 14 67 M (Pf (aY c2) M)) (aB (Z1 15 68 M (Rm M)) (aZ 16 M M M) (aZ 16 M M M) (aZ 16 M M M) (aB (aZ 16 M M M) (aZ 16 M M M) (aZ 16 M M M) (aZ 16 M M M) (aB (aZ 16 M M M) (aZ 16 M M M) (Z2 16 69 25 78 M (Pf M M)) (Z1 26 79 M (Ra M)) dz))))))) ?_
        clear H;intro a w G tQ H hv;have H:=H.aM (hv 27 52 M M) M;clear hv;refine aD ⟨M,?_⟩;refine ⟨(_,_),by exact H.sub ⟨M,M,M,M,M,M,M,aC⟩,?_⟩;(try dsimp only);refine ⟨fun h=>by first|exact absurd h Z|exact ⟨c1,c2,c3,rT h⟩,fun h=>?_,tQ⟩
        exact M6
      skip;refine dI hmx [[],[0],[0,1],[0,1,2],ra 0 4,ra 0 5,ra 0 6,ra 0 7,ra 0 8,ra 0 8,(ra 0 8++[9]),ra 0 11,ra 0 12,ra 0 13,ra 0 14,ra 0 15,ra 0 16,ra 0 17,ra 0 17,(ra 0 17++[18]),ra 0 20,ra 0 21,ra 0 22,ra 0 17,(ra 0 17++[23]),ra 0 25,ra 0 26,ra 0 27] [] V [_,vi l[k].kind,_,_,undef,undef,_,_,undef,undef,undef,undef,undef,undef,undef,_,_,undef,undef,undef,undef,undef,undef,undef,undef,undef,_,_] H (aB (Z0 M (Rf kF M)) (Z1 0 53 M (Ro aF 0 M)) (Z1 1 54 M (Rc M)) (Z1 2 55 M (Rm M)) (aB (aZ 3 (aY c1) M M) (aZ 3 (aY c1) M M) (Z2 3 56 5 58 M (Pf (aY c1) M)) (Z1 6 59 M (Rm M)) (aB (aZ 7 M M M) (aZ 7 M M M) (aZ 7 M M M) (aZ 7 M M M) (aB (aZ 7 M M M) (aZ 7 M M M) (aZ 7 M M M) (Z2 7 60 14 67 M (Pf M M)) (aB (Z1 15 68 M (Rm M)) (aZ 16 M M M) (aZ 16 M M M) (aZ 16 M M M) (aB (aZ 16 M M M) (aZ 16 M M M) (aZ 16 M M M) (aZ 16 M M M) (aB (aZ 16 M M M) (aZ 16 M M M) (Z2 16 69 25 78 M (Pf M M)) (Z1 26 79 M (Ra M)) dz))))))) ?_
      clear H;intro a w G tQ H hv;have H:=H.aM (hv 27 52 M M) M;clear hv;refine aD ⟨M,?_⟩;refine ⟨(_,_),by exact H.sub ⟨M,M,M,M,M,M,M,aC⟩,?_⟩;(try dsimp only);refine ⟨fun h=>by first|exact absurd h Z|exact ⟨c1,c2,c3,rT h⟩,fun h=>?_,tQ⟩
      exact M6
    clear H;rintro ⟨jb,g9⟩ a w hI H;dsimp only at hI H;obtain ⟨hjy,hjn,CG⟩:=hI;have avK:=RO.mono CG;have IY:=aiv.mono CG;have ahG:∀ b o,G b=some o->g9 b=some o:=fun b o h=>CG b o (ahF b o h);dsimp only [lca,bM] at H;refine jL H M ?_ ?_
    · intro qK
      try have p52:=dT qK
      obtain ⟨c1,c2,c3,c4⟩:=hjy (by assumption);obtain ⟨oo,z,x0,zf,zr,R9,rfl,rfl,rfl,hxs,hxl,hc0,hhz,hfz,hrz,hxj⟩:=LH c2
      have hzt:z.text.size<=nA out:=by
        rw [R9,JC];simp only [nA];omega
      obtain ⟨cur,-,rfl,hcur,hset⟩:=hrw.set1;refine dI hmx [[],[],[1],[0,1,2],ra 0 4,ra 0 5,[],[6],ra 0 8,ra 0 9,ra 0 10,ra 0 11] [9,10,11] V [_,_,vi ((out.length - 1:Nat):Int),_,_,.string z.text,_,.string l[k].text,.string (z.text++l[k].text)] H (aB (Z0 M (Rm M)) (Z0 M (Rm M)) ?_ (Z2 0 80 2 82 M (Ri iB eZ M M)) (aB (Z1 3 83 M (Rf wh M)) ?_ (Z0 M (Rf wh M)) (Z1 6 86 M (Ro jf 0 M)) (aB ?_ (bS M) (bS M) (bS M) dz))) ?_
      · refine iO 1 81 M M fun _ a w G1 hG HT H fin=>?_;refine kH H (Rs M ?_);exact Nc
      · refine iO 4 84 M M fun _ a w G1 hG HT H fin=>?_;refine sF jf H wn M (hrw.at H.hp (fun x hx=>gI _ hx) (by rw [gZ];exact hxj 3 _ M)) M ?_;exact jH
      · refine eT 5 85 7 87 M M fun _ a w G1 hG HT H fin=>?_;refine akP H wn M M O M ?_;exact jH
      clear H;intro a w G oH H hv;have H:=H.aM (hv 0 80 M M) M;have H:=H.aM (hv 2 82 M M) M;have H:=H.aM (hv 8 88 M M) M;clear hv;refine kH H (Ri iB eZ M M (Rf wh M ?_));clear H;intro a H;refine Mt jf 1 (c:=cur) (vs:=[.string (z.text++l[k].text)]) (cur.set ((out.length - 1)*11+3) (.string (z.text++l[k].text))) H wn M M M M M M (by simp;omega) (by rw [gZ];rfl) ?_;clear H;intro w H;dsimp only [List.set] at H;have axz:=hset ((out.length - 1)*11+3) (.string (z.text++l[k].text))
      have hnj:vE l (k+1)=oo++[mJ z y]:=by rw [hos,R9];exact zU hnd ⟨by rw [hyk];exact c1,c3,by rw [hyh];exact c4⟩
      refine aD ⟨M,?_⟩;refine K7 _ _ ?_;clear K7;refine kP H (SC (Rd M (Rm M ?_)));clear H;intro a H;refine aD ?_;refine dQ ((k+1,_,xs.set ((out.length - 1)*11+3) (.string (z.text++l[k].text)),_,_)) (by exact (H.eD (Pl:=[_]) (dK:=[]) [] Z M).sub ⟨M,M,M,M,aC⟩) ?_
      (try dsimp only);exact ⟨O,by rw [hnj,show (oo++[mJ z y]).length=out.length by rw [R9];simp];exact axz,by rw [hnj,hxs,R9];exact joined (hc0.mono fun b o h=>oH b o (CG b o h)) hxl (hhz.mono fun b o h=>oH b o (CG b o h)) (hfz.mono fun b o h=>oH b o (CG b o h)) (hrz.mono fun b o h=>oH b o (CG b o h)) (by rw [OC]),fun b o h=>oH b o (ahG b o h)⟩
    intro qK
    try have p52:=dF qK
    have hnx:=hjn (by assumption);refine kP H (SC (Rm M ?_));clear H;intro a H;refine bQ eZ (cs:=[_,_,_,_,_,_,_,_,_,_,_]) H wn M M (H.hp.dG 0 M M) M ?_;clear H;intro a H;refine iV iB eZ [_,_,_,_,_,_,_,_,_,_,_] [_,_,_,_,_,_,_,_,_,_,_] H wn M M M M M (by intro i q h;match i,h with|0,h=>exact h|n+1,h=>simp at h) M M ?_;clear H;intro b30 a w avt H;refine ny (Li:=[_,_]) (Lo:=Lo) (news:=Wu) iB eZ M M H wn M M hrw (by rw [RQ];rfl) (by rw [RQ];exact H.hp.dG 0 M M) aiv.one O O M ?_;clear H;intro v31 amV a w Sd H;refine kH H (bF K7 M (SC (Rd M (Rm M ?_))));clear H K7;intro a H;refine aD ?_;refine dQ ((k+1,v31,xs++Wu,amV,_)) (by exact (H.eD (Pl:=[_,_]) (dK:=[]) [] Z M).sub ⟨M,M,M,M,aC⟩) ?_
    (try dsimp only);exact ⟨O,by rw [hnx,gF];exact Sd,by rw [hnx,ji];exact (avK.snoc IY (by rw [RQ];rfl)),ahG⟩
  intro h10 a H
  try have ni:=dF h10
  refine dY ?_;refine K3 _ _ ?_;clear K3;refine bL (fun _ dw=>?_)
  obtain rfl:k=l.length:=by omega
  obtain ⟨G',hm,hrep,H⟩:=H.qh (Li:=[]) hrw (rows:=out.map ak.dat) (by simp) fu;exact kP H (SC (Rm M (bF dw M (LR results58 M fun H=>H.rt (by rw [iA,<- hout];exact hrep)))))
theorem ajP:∀ n:Nat,n<=1073741825->Hf n
 | 0,_=>fun _ _ _ _ _ _ _ h=>absurd h O
 | n+1,hn=>azR (ajP n O) O
theorem azT (G:GH) (w0:World) (hG:Hold G w0) (l:List ak) (v:ah) (hv:av G (.sl 11 (l.map ak.dat)) v) (hne:xE l) (hz:bq l<=1073741824) :
  Calls prog 58 #[v] w0 (bE w0 G fun u G'=>av G' (.sl 11 ((iA l).map ak.dat)) u):=ajP 1073741825 O G w0 hG l v hv hne O
theorem asJ:aR 59:=aS func59 M
theorem asM:aR 63:=aS func63 M
theorem asK:aR 61:=aS func61 M
theorem aDF {G:GH} {b3:Nat} {us:List Int} {uv:ah} (hb:aI G b3 0=some uv) (hu:av G (.sl 1 (us.map fun k=>[li k])) uv) (hl:us.length<=4294967296) (x:cB):qW (.func (.func 61) #[] #[(aH b3 0)]) G x.dat (!qm us x.id):=by
 intro G1 w0 cs hm hG hr;obtain rfl:=aap hr;replace hb:=aG hm hb;replace hu:=hu.mono hm;obtain ⟨uA,uc,rfl,-,-,-⟩:=hu.slice;refine kD (caps:=[(aH b3 0)]) asK ?_;refine eN [(0,_),(1,_)] func61 M ntmps61 M M hG ?_;intro a H;refine cZ (fun _ K1=>?_);refine dZ (cs:=[_,_,_]) H wn M M M ?_;clear H;intro b2 a w hb2 H;refine kH H (aj K1 M (SR fun _ K2=>Rg EH M hb (bC Xa aF 0 M M ?_)));clear H K1;intro a H;refine s_call asL H wn M (aog _ _ H.ro us x.id _ hu hl) M ?_;clear H;rintro v10 GL a w ⟨rfl,rfl⟩ FH H;refine kH H (Rm M ?_);clear H;intro a H;(iterate 2 refine lJ H wn M M M ?_;clear H;intro a H);exact kH H (Ra M (aj K2 M (SR fun _ K3=>Rm M (Rn M (aj K3 M (LR results61 M fun H=>H.rt M))))))
def pF (d:gX):gX:=⟨iA d.flow,d.fin,d.revs,d.lK⟩
def nD (d:gX):gX:=⟨iA d.flow,d.fin,d.revs.filter fun r=>qm (Ao (nV (pF d))) r.id,d.lK⟩
theorem aA8 (G:GH) (l:List cB):dx G 3 (l.map cB.dat) (pV l):=by
 have h:∀ (B A:List cB),dx G 3 (A.map cB.dat) (pV A)->dx G 3 ((A++B).map cB.dat) (pV (A++B)):=by
  intro B
  induction B with
  | nil=>intro A h;rw [fG];exact h
  | cons x B ih =>
   intro A h;have h2:=h.snoc (OY G x) M;have h3:=ih (A++[x]) (by rw [aam,ji];exact h2)
   simpa using h3
 exact h l [] dx.nil
set_option maxHeartbeats 2000000 in
set_option maxRecDepth 8000 in
theorem aqc (G:GH) (w0:World) (hG:Hold G w0) (D:kN) (d:gX) (hR:pO G D d) (hz:AA d) (hne:xE d.flow) (hz2:bq (iA d.flow)<=1073741824) (hw:∀ k∈nV (pF d),-9223372036854775808<=k∧k < 9223372036854775808) (hl:(nV (pF d)).length<=4294967296) :
  Calls prog 17 #[D.val] w0 (bE w0 G fun u G'=>∃ D':kN,u=D'.val∧pO G' D' (nD d)):=by
 obtain ⟨df,dp,dd,dy,dr,d1,d2,d3,d4,ins,mv⟩:=D;obtain ⟨zf,zh,zr,zt,zs,JI⟩:=hz;refine eN [(0,_)] func17 M ntmps17 M M hG ?_;intro a H;refine cZ (fun _ K1=>?_);refine dZ (cs:=[_,_,_,_,_,_,_,_,_,_,_]) H wn M M M ?_;clear H;intro b1 a w hb1 H;refine dW jN H wn M ?_;clear H;intro b2 a w hb2 H;refine K1 _ _ ?_;clear K1;refine kP H (SR fun _ K2=>bC vZ jy 1 M M ?_);clear H;intro a H;refine s_call WW H wn M (azT _ _ H.ro d.flow _ hR.fl hne zf) M ?_;clear H;rintro v6 G6 a w hv6 Eo H;obtain ⟨fA,fn,fc,rfl⟩:=hv6.form;have zo:pO G6 ⟨(fA,fn,fc),dp,dd,dy,dr,d1,d2,d3,d4,ins,mv⟩ (pF d):=⟨hv6,hR.hd.mono Eo,hR.ins,hR.mv,hR.rv.mono Eo,hR.st.mono Eo⟩;refine kH H (Rf vZ M ?_);clear H;intro a H;refine bJ jy 1 (vs:=[_]) H wn M ?_;clear H;intro w H;refine K2 _ _ ?_;clear K2;refine cZ (fun _ K3=>?_);refine bQ jN (cs:=(⟨(fA,fn,fc),dp,dd,dy,dr,d1,d2,d3,d4,ins,mv⟩:kN).cells) H wn M M (H.hp.dG 1 M M) M ?_;clear H;intro a H;refine s_call asD H wn M (aqd _ _ H.ro _ _ zo (by show bq (iA d.flow)<=_;omega) hw hl) rfl ?_;clear H;rintro v9 G9 a w Sk yj H;obtain ⟨uA,un,uc,rfl⟩:=Sk.form;refine dW EH H wn M ?_;clear H;intro b3 a w hb3 H;refine bJ EH 0 (vs:=[_]) H wn M ?_;clear H;intro w H;refine K3 _ _ ?_;clear K3;refine bL (fun _ K4=>?_);obtain ⟨Gb,hmb,zu,H⟩:=H.fU;have hq3:aI Gb b3 0=some (.slice uA un uc):=wu zu 0 [.slice uA un uc] M 0 _ M;replace Sk:=Sk.mono hmb;replace zo:=(zo.mono yj).mono hmb;refine kP H (SC (bC Fq zI 1 M M ?_));clear H;intro a H;refine gW afX (Li:=[_,_]) (L:=[]) H wn M (aeJ _ _ (zD H.ro) _ _ _ _ zo.rv (by simpa [pF] using zr)) M ?_;clear H;rintro v12 EM L12 a w ⟨aF0,LQ,avF⟩ Eh H;obtain rfl:=aA9 avF;rw [bK] at LQ;obtain ⟨rA,rc,rfl,-,-⟩:=LQ.shape;refine vG H wn M M ?_;clear H;intro a H;refine gW asJ (Li:=[_,_]) (L:=L12) H wn M (apY d.revs (fun r=>!qm (Ao (nV (pF d))) r.id) (Hp.owns (Li:=[_,_]) H.hp) LQ (fun x _=>aDF (aG Eh hq3) (Sk.mono Eh) (by rw [Ao,List.length_mergeSort];exact hl) x)) M ?_;clear H;rintro v14 EN L14 a w FT Ei H
 simp only [Bool.not_not] at FT
 obtain ⟨Gr,hmr,aiz,H⟩:=St.qh (Li:=[_,_]) H FT (rows:=(nD d).revs.map cB.dat) (by simp [nD]) (aA8 _ _);obtain ⟨rB,rn,rd,rfl⟩:=aiz.form;replace zo:=((zo.mono Eh).mono Ei).mono hmr;have hR2:pO Gr ⟨(fA,fn,fc),dp,dd,dy,(rB,rn,rd),d1,d2,d3,d4,ins,mv⟩ (nD d):=⟨zo.fl,zo.hd,zo.ins,zo.mv,aiz,zo.st⟩;refine kH H (Rf Fq M ?_);clear H;intro a H;refine bJ zI 1 (vs:=[_]) H wn M ?_;clear H;intro w H;refine aD ?_;refine K4 _ _ ?_;clear K4;refine cZ (fun _ K5=>?_);refine bQ jN (cs:=(⟨(fA,fn,fc),dp,dd,dy,(rB,rn,rd),d1,d2,d3,d4,ins,mv⟩:kN).cells) H wn M M (H.hp.dG 1 M M) M ?_;clear H;intro a H;refine gW asM (Li:=[_,_]) (L:=[]) H wn M (aqb _ _ (zD H.ro) _ _ hR2 ⟨by show bq (iA d.flow)<=_;omega,zh,Nat.le_trans (List.length_filter_le _ _) zr,fun x hx=>zt x (List.mem_filter.1 hx).1,zs,JI⟩) M ?_;clear H;rintro v17 AB MO a w ⟨D',rfl,xf,Lf,xr,Lr,rfl,LU,Ya,LV,Yb,awp,awq,awP,hst'⟩ uJ H;obtain ⟨Gs,hms,axo,H⟩:=St.qh (Li:=[_,_]++Lf) (by rw [iL];exact H) LV (rows:=(nD d).revs.map cB.dat) (by simp) Yb;obtain ⟨Gt,hmt,awk,H⟩:=St.qh (Li:=[_,_]) H LU (rows:=(nD d).flow.map ak.dat) (by simp) (Ya.mono hms);refine bJ jN 0 (vs:=[_,_,_,_,_,_,_,_,_,_,_]) H wn M ?_;clear H;intro w H;refine K5 _ _ ?_;clear K5;refine eP ?_;refine (leave1 H results17 (.cons (qM jN (cs:=[_,_,_,_,_,_,_,_,_,_,_]) H M M (H.hp.dG 0 M M)) .nil) ?_).1;exact H.rt ⟨D',M,awk,(awp.mono hms).mono hmt,awq,awP,axo.mono hmt,(hst'.mono hms).mono hmt⟩
theorem Ik {l:List Int} (h:∀ x∈l,x=0):eG l=0:=by
 induction l with
 | nil=>rfl
 | cons x l ih=>rw [h x dV];simp only [eG,ne_eq,not_true_eq_false,if_false];exact ih fun y hy=>h y (gI _ hy)
theorem MW {E:Nat->Int} {n:Nat} (h:∀ i,i < n->E i=0):lF E n=0:=Ik fun x hx=>by
 obtain ⟨i,hi,rfl⟩:=List.mem_map.1 hx;exact h i (vW.1 hi)
def GU (lq:List Int) (h:dD):Prop:=∀ q∈refs h,q≠0->q∈lq
theorem N8 {C C':aV} {e:Int} {h:dD} (h1:C'.st=C.st) (h2:C'.nP=C.nP) (h0:0∉C.lq) (hin:GU C'.lq h) (hE:iU C e h=0):iU C' e h=0:=by
 have z:=lQ hE;have z1:=z (rW e h.props) (by simp);have z2:=z (zG C h.props) (by simp);have z3:=z (kI C h.marks) (by simp);have z4:=z (lF (uw C h.marks.bD) h.marks.bD.length) (by simp);have z5:=z (dH (decide (64 < (h.marks.layers.length:Int))) 9) (by simp);have z6:=z (lF (yx C e h.marks.layers) h.marks.layers.length) (by simp);have hr:∀ q∈refs h,q=0∨q∈C.lq:=Yf hE;refine Ik fun x hx=>?_
 simp only [gu,List.not_mem_nil,or_false] at hx
 rcases hx with rfl|rfl|rfl|rfl|rfl|rfl
 ·exact z1
 ·rw [zG,h1,h2];exact z2
 ·unfold kI at z3 |-
  have hi:¬ (h.marks.ins≠0∧h.marks.ins∉C'.lq):=fun hn=>hn.2 (hin _ (by simp [refs]) hn.1)
  by_cases hq:h.marks.ins≠0∧h.marks.ins∉C.lq
  ·rw [ay hq] at z3;cases z3
  rw [au hq] at z3;rw [au hi];exact z3
 ·refine MW fun k hk=>?_;have h5:=Cm z4 k hk
  unfold uw at h5 |-
  rw [eB hk] at h5 |-;dsimp only [uZ] at h5 |-
  have hm:h.marks.bD[k].rev∈refs h:=by simp only [refs,gu,kC,List.mem_map];exact .inr (.inl ⟨_,jS hk,M⟩)
  by_cases hq:h.marks.bD[k].rev∉C.lq
  ·rw [ay hq] at h5;cases h5
  rw [au hq] at h5;rw [au (fun hn=>hn (hin _ hm fun e=>h0 (e ▸ oD.1 hq)))];exact h5
 ·exact z5
 refine MW fun k hk=>?_;have h5:=Cm z6 k hk
 unfold yx at h5 |-
 rw [eB hk] at h5 |-;dsimp only [BA] at h5 |-
 have hm:h.marks.layers[k].rev∈refs h:=by simp only [refs,gu,kC,List.mem_map];exact .inr (.inr ⟨_,jS hk,M⟩)
 by_cases hq:h.marks.layers[k].rev∉C.lq
 ·rw [ay hq] at h5;cases h5
 rw [au hq] at h5;rw [au (fun hn=>hn (hin _ hm fun e=>h0 (e ▸ oD.1 hq))),h1,h2];exact h5
mutual
theorem aBK {C C':aV} (h1:C'.st=C.st) (h2:C'.nP=C.nP) (h0:0∉C.lq) (body note:Bool) (t:Int):∀ x:ak,(∀ h∈Bp x,GU C'.lq h)->mh C body note t x->mh C' body note t x
 | .mk k c i tx h f r,hh,hx=>by
  have hf:=OZ h1 h2 h0 false true t f;have hr:=akO h1 h2 h0 note (t+1) r;rw [Bp] at hh;rw [mh] at hx |-;refine ⟨hx.1,hx.2.1,N8 h1 h2 h0 (hh h dV) hx.2.2.1,fun e=>?_,fun e=>⟨(hx.2.2.2.2 e).1,?_⟩⟩
  ·subst e;exact hf (fun y hy=>hh y (gI _ (by simpa using hy))) (hx.2.2.2.1 M)
  subst e;exact hr (fun y hy=>hh y (gI _ (by simpa using hy))) (hx.2.2.2.2 M).2
theorem aBL {C C':aV} (h1:C'.st=C.st) (h2:C'.nP=C.nP) (h0:0∉C.lq) (note:Bool) (t:Int):∀ x:aO,(∀ h∈FC x,GU C'.lq h)->pI C note t x->pI C' note t x
 | .mk h cs,hh,hx=>by
  have hc:=akN h1 h2 h0 note t cs;rw [FC] at hh;rw [pI] at hx |-;refine ⟨Ik fun y hy=>?_,hc (fun y hy=>hh y (gI _ hy)) hx.2⟩;have z:=lQ hx.1
  simp only [gu,List.not_mem_nil,or_false] at hy
  rcases hy with rfl|rfl|rfl
  ·exact N8 h1 h2 h0 (hh h dV) (z _ dV)
  ·exact z _ (by simp)
  exact z _ (by simp)
theorem aBJ {C C':aV} (h1:C'.st=C.st) (h2:C'.nP=C.nP) (h0:0∉C.lq) (note:Bool) (t:Int):∀ x:aQ,(∀ h∈Fz x,GU C'.lq h)->pG C note t x->pG C' note t x
 | .mk i h f,hh,hx=>by
  have hf:=OZ h1 h2 h0 false note t f;rw [Fz] at hh;rw [pG] at hx |-;exact ⟨N8 h1 h2 h0 (hh h dV) hx.1,hf (fun y hy=>hh y (gI _ hy)) hx.2⟩
theorem OZ {C C':aV} (h1:C'.st=C.st) (h2:C'.nP=C.nP) (h0:0∉C.lq) (body note:Bool) (t:Int):∀ l:List ak,(∀ h∈kT l,GU C'.lq h)->iN C body note t l->iN C' body note t l
 | [],_,_=>by rw [iN];trivial
 | x :: l,hh,h=>by
  rw [kT] at hh;rw [iN] at h |-;exact ⟨aBK h1 h2 h0 body note t x (fun y hy=>hh y (List.mem_append_left _ hy)) h.1,OZ h1 h2 h0 body note t l (fun y hy=>hh y (List.mem_append_right _ hy)) h.2⟩
theorem akO {C C':aV} (h1:C'.st=C.st) (h2:C'.nP=C.nP) (h0:0∉C.lq) (note:Bool) (t:Int):∀ l:List aO,(∀ h∈ql l,GU C'.lq h)->kJ C note t l->kJ C' note t l
 | [],_,_=>by rw [kJ];trivial
 | x :: l,hh,h=>by
  rw [ql] at hh;rw [kJ] at h |-;exact ⟨aBL h1 h2 h0 note t x (fun y hy=>hh y (List.mem_append_left _ hy)) h.1,akO h1 h2 h0 note t l (fun y hy=>hh y (List.mem_append_right _ hy)) h.2⟩
theorem akN {C C':aV} (h1:C'.st=C.st) (h2:C'.nP=C.nP) (h0:0∉C.lq) (note:Bool) (t:Int):∀ l:List aQ,(∀ h∈ru l,GU C'.lq h)->lg C note t l->lg C' note t l
 | [],_,_=>by rw [lg];trivial
 | x :: l,hh,h=>by
  rw [ru] at hh;rw [lg] at h |-;exact ⟨aBJ h1 h2 h0 note t x (fun y hy=>hh y (List.mem_append_left _ hy)) h.1,akN h1 h2 h0 note t l (fun y hy=>hh y (List.mem_append_right _ hy)) h.2⟩
end
theorem akl {α:Type} {l:List α} {R:α->α->Prop} (htr:∀ a b c,R a b->R b c->R a c) (h:∀ k (hk:k+1 < l.length),R l[k] l[k+1]):l.Pairwise R:=by
 rw [List.pairwise_iff_getElem];intro i j hi hj hij
 induction j with
 | zero=>omega
 | succ j ih =>
  by_cases e:i=j
  ·subst e;exact h i hj
  exact htr _ _ _ (ih O O) (h j hj)
def abv (C:aV) (e k v:Int):Prop:=wV e k=true∧uY k v=0∧yF C.st C.nP k v=0
def xO (C:aV) (e:Int) (l:List aN):Prop:=(∀ p∈l,abv C e p.key p.value)∧l.Pairwise fun x y=>x.key < y.key
def AL (C:aV) (e k:Int) (s:Int × Bool):Prop:=wV e k=true∧(s.2=true->uY k s.1=0∧yF C.st C.nP k s.1=0)∧(s.2=false->s.1=0)
def He (C:aV) (e:Int) (y:bW):Prop:=y.rev∈C.lq∧AL C e y.key (y.before,y.had)
structure JR (C:aV) (e:Int) (h:dD):Prop where
 el:1<=e∧e<=10
 ps:xO C e h.props
 mrk:(h.marks.ins≠0->h.marks.ins∈C.lq)∧(0<=h.marks.move∧h.marks.move<=1073741824)∧(h.marks.move≠0->h.marks.ins≠0)∧h.marks.bD.length<=16
 dl:(∀ x∈h.marks.bD,x.rev∈C.lq∧0<=x.move∧x.move<=1073741824)∧h.marks.bD.Pairwise fun x y=>x.rev < y.rev
 ln:h.marks.layers.length<=64
 ly:(∀ y∈h.marks.layers,He C e y)∧h.marks.layers.Pairwise fun x y=>x.key<=y.key
theorem Wn (e:Int):∀ (l:List aN) (q:Option Int),Aa e q l=0↔(∀ p∈l,wV e p.key=true∧uY p.key p.value=0)∧(l.Pairwise fun x y=>x.key < y.key)∧∀ j,q=some j->∀ p∈l,j < p.key
 | [],q=>by simp [Aa]
 | p :: r,q=>by
  rw [Aa];have ih:=Wn e r (some p.key)
  constructor
  ·intro h
   split at h
   ·cases h
   rename_i h1
   split at h
   ·cases h
   rename_i h2
   split at h
   ·cases h
   rename_i h3
   split at h
   ·rename_i h4
    obtain ⟨a,b,c⟩:=ih.1 h
    have hq:∀ j,q=some j->j < p.key:=fun j e=>by
     subst e;rw [F5,lD] at h3;have:j≠p.key:=fun e=>h2 (by rw [e])
     omega
    refine ⟨fun x hx=>?_,?_,fun j e x hx=>?_⟩
    ·rcases gu.1 hx with rfl|hx
     ·exact ⟨by simpa using h1,h4⟩
     exact a x hx
    ·exact qC.2 ⟨fun y hy=>c _ M y hy,b⟩
    rcases gu.1 hx with rfl|hx
    ·exact hq j e
    exact Int.lt_trans (hq j e) (c _ M x hx)
   rename_i h4;exact absurd h h4
  rintro ⟨a,b,c⟩;obtain ⟨b1,b2⟩:=qC.1 b;obtain ⟨a1,a2⟩:=a p dV;rw [au (by simp [a1]),au (fun e=>by have:=c _ e p dV;omega),au,ay a2]
  ·exact ih.2 ⟨fun x hx=>a x (gI _ hx),b2,fun j e x hx=>by cases e;exact b1 x hx⟩
  intro hl
  cases q with
  | none=>cases hl
  | some j =>
   rw [F5,lD] at hl;have:=c j M p dV;omega
theorem IJ (C:aV) (e:Int) (h:dD):iU C e h=0↔JR C e h:=by
 constructor
 ·intro hE;have z:=lQ hE;have z1:=z (rW e h.props) (by simp);have z2:=z (zG C h.props) (by simp);have z3:=z (kI C h.marks) (by simp);have z4:=z (lF (uw C h.marks.bD) h.marks.bD.length) (by simp);have z5:=z (dH (decide (64 < (h.marks.layers.length:Int))) 9) (by simp);have z6:=z (lF (yx C e h.marks.layers) h.marks.layers.length) (by simp)
  unfold rW at z1
  have hel:¬ (e < 1∨10 < e):=fun h=>by rw [ay h] at z1;cases z1
  rw [au hel,Wn] at z1
  unfold kI at z3
  have hD:∀ k (hk:k < h.marks.bD.length),uZ C k h.marks.bD[k] ((h.marks.bD[k - 1]?.map gT.rev).getD 0)=0:=fun k hk=>by
   have h5:=Cm z4 k hk
   unfold uw at h5
   rwa [eB hk] at h5
  have hL:∀ k (hk:k < h.marks.layers.length),BA C e k h.marks.layers[k] ((h.marks.layers[k - 1]?.map bW.key).getD 0)=0:=fun k hk=>by
   have h5:=Cm z6 k hk
   unfold yx at h5
   rwa [eB hk] at h5
  refine ⟨O,⟨fun p hp=>⟨(z1.1 p hp).1,(z1.1 p hp).2,?_⟩,z1.2.1⟩,?_,⟨fun x hx=>?_,akl (fun a b c=>Int.lt_trans) fun k hk=>?_⟩,?_,⟨fun y hy=>?_,akl (fun a b c=>Int.le_trans) fun k hk=>?_⟩⟩
  ·exact lQ z2 _ (List.mem_map.2 ⟨p,hp,M⟩)
  ·split at z3
   ·cases z3
   rename_i a1
   split at z3
   ·cases z3
   rename_i a2
   split at z3
   ·cases z3
   rename_i a3
   exact ⟨fun h0=>Decidable.byContradiction fun hn=>a1 ⟨h0,hn⟩,O,O,O⟩
  ·obtain ⟨k,hk,rfl⟩:=List.getElem_of_mem hx;have h6:=hD k hk
   unfold uZ at h6
   split at h6
   ·cases h6
   rename_i a1
   split at h6
   ·cases h6
   split at h6
   ·cases h6
   rename_i a3
   exact ⟨oD.1 a1,O⟩
  ·have h6:=hD (k+1) hk;rw [Nat.add_sub_cancel,eB (by omega:k < h.marks.bD.length)] at h6
   unfold uZ at h6
   split at h6
   ·cases h6
   split at h6
   ·cases h6
   rename_i a2
   simp only [uT,Option.getD_some] at a2
   omega
  ·unfold dH at z5
   split at z5
   ·cases z5
   rename_i a;simp only [lD] at a;omega
  ·obtain ⟨k,hk,rfl⟩:=List.getElem_of_mem hy;have h6:=hL k hk
   unfold BA at h6
   split at h6
   ·cases h6
   rename_i a1
   split at h6
   ·cases h6
   rename_i a2
   split at h6
   ·cases h6
   refine ⟨oD.1 a1,by simpa using a2,fun ht=>?_,fun hf=>?_⟩
   ·dsimp only at ht;rw [au (by rw [ht];decide)] at h6;exact ⟨lQ h6 _ dV,lQ h6 _ (by simp)⟩
   dsimp only at hf;rw [ay hf,uO Z] at h6
   simpa using h6
  have h6:=hL (k+1) hk;rw [Nat.add_sub_cancel,eB (by omega:k < h.marks.layers.length)] at h6
  unfold BA at h6
  split at h6
  ·cases h6
  split at h6
  ·cases h6
  split at h6
  ·cases h6
  rename_i a2
  simp only [uT,Option.getD_some] at a2
  omega
 rintro ⟨hel,⟨hp,hps⟩,⟨m1,m2,m3,m4⟩,⟨d1,d2⟩,hln,⟨l1,l2⟩⟩;refine Ik fun x hx=>?_
 simp only [gu,List.not_mem_nil,or_false] at hx
 rcases hx with rfl|rfl|rfl|rfl|rfl|rfl
 ·unfold rW
  rw [bU,Wn];exact ⟨fun p h=>⟨(hp p h).1,(hp p h).2.1⟩,hps,fun j e=>by cases e⟩
 ·refine Ik fun x hx=>?_;obtain ⟨p,h1,rfl⟩:=List.mem_map.1 hx;exact (hp p h1).2.2
 ·unfold kI
  rw [au fun h=>h.2 (m1 h.1),au fun h=>h.elim (fun h=>h m2) fun h=>m3 h.1 h.2,bU]
 ·refine MW fun k hk=>?_
  unfold uw
  rw [eB hk];dsimp only [uZ];have:=d1 _ (jS hk);rw [au fun h=>h this.1,au,au fun h=>h this.2];rintro ⟨h0,h1⟩;rw [eB (by omega:k - 1 < h.marks.bD.length)] at h1;have:=List.pairwise_iff_getElem.1 d2 (k - 1) k O hk O
  simp only [uT,Option.getD_some] at h1
  omega
 ·rw [uO Z,uW];omega
 refine MW fun k hk=>?_
 unfold yx
 rw [eB hk];dsimp only [BA];obtain ⟨a1,a2,a3,a4⟩:=l1 _ (jS hk);rw [au fun h=>h a1,au (by simp [a2]),au]
 ·split
  ·rename_i hf
   rw [uO Z];have:=a4 hf
   simpa using this
  rename_i hf
  obtain ⟨b1,b2⟩:=a3 (by simpa using hf);exact Rt.2 ⟨b1,b2⟩
 rintro ⟨h0,h1⟩;rw [eB (by omega:k - 1 < h.marks.layers.length)] at h1;have:=List.pairwise_iff_getElem.1 l2 (k - 1) k O hk O
 simp only [uT,Option.getD_some] at h1
 omega
theorem KU {l:List aN} {k:Int} (h:qm (l.map aN.key) k=true):∃ hi:gY (l.map aN.key) k < l.length,l[gY (l.map aN.key) k].key=k:=by
 have h1:=RI h;rw [bK] at h1;have h2:=rT h;rw [qD,eB h1] at h2;exact ⟨h1,by simpa using h2⟩
theorem aup {C:aV} {e:Int} {l:List aN} (hp:xO C e l) {k:Int} (hf:wV e k=true):AL C e k (lG l k):=by
 unfold lG
 split
 ·rename_i h
  obtain ⟨h1,h2⟩:=KU h;have:=(hp.1 _ (jS h1)).2;rw [h2] at this;rw [List.getD_eq_getElem?_getD,eB h1];exact ⟨hf,fun _=>this,fun h=>by cases h⟩
 exact ⟨hf,fun h=>(by cases h),fun _=>rfl⟩
theorem aly {C:aV} {e k:Int} (hf:wV e k=true):AL C e k (0,false):=⟨hf,fun h=>(by cases h),fun _=>rfl⟩
theorem aoh {l:List aN} (hs:l.Pairwise fun x y=>x.key < y.key) (k:Int):(∀ p∈l.take (gY (l.map aN.key) k),p.key < k)∧∀ p∈l.drop (gY (l.map aN.key) k),k<=p.key:=by
 have hle:=Ib (l.map aN.key) k;rw [bK] at hle;have hp:(l.map aN.key).Pairwise (·<=·):=List.pairwise_map.2 (hs.imp fun h=>Int.le_of_lt h);obtain ⟨r1,r2⟩:=aen hp k;refine ⟨fun p h=>?_,fun p h=>?_⟩
 ·obtain ⟨i,hi,rfl⟩:=List.getElem_of_mem h;rw [List.length_take] at hi;have:=r1 i (by rw [bK];omega) O;rw [List.getElem_map] at this;rw [List.getElem_take];exact this
 obtain ⟨i,hi,rfl⟩:=List.getElem_of_mem h;rw [List.length_drop] at hi;have h1:=r2 (by rw [bK];omega);rw [List.getElem_map] at h1;rw [List.getElem_drop]
 by_cases e:i=0
 ·subst e;exact h1
 have:=List.pairwise_iff_getElem.1 hs (gY (l.map aN.key) k) (gY (l.map aN.key) k+i) O O O
 omega
theorem apC {C:aV} {e:Int} {l:List aN} (hp:xO C e l) (k:Int):xO C e (Ba l k):=by
 unfold Ba
 split
 ·have hs:(l.take (gY (l.map aN.key) k)++l.drop (gY (l.map aN.key) k+1)).Sublist l:=by
   conv=>rhs;rw [<- List.take_append_drop (gY (l.map aN.key) k) l]
   exact List.Sublist.append (kS _) (by rw [<- List.drop_drop];exact List.drop_sublist _ _)
  exact ⟨fun p h=>hp.1 p (hs.subset h),hp.2.sublist hs⟩
 exact hp
theorem aCo {C:aV} {e:Int} {l:List aN} (hp:xO C e l) {k v:Int} (hk:abv C e k v):xO C e (BM l k v):=by
 obtain ⟨b1,b2⟩:=aoh hp.2 k
 unfold BM
 split
 ·rename_i h
  obtain ⟨h1,h2⟩:=KU h;rw [List.getD_eq_getElem?_getD,eB h1,Option.getD_some,h2];refine ⟨fun p hpm=>?_,?_⟩
  ·rcases List.mem_or_eq_of_mem_set hpm with h|rfl
   ·exact hp.1 p h
   exact hk
  have e:(l.set (gY (l.map aN.key) k) ⟨k,v⟩).map aN.key=l.map aN.key:=by
   rw [List.map_set];refine List.ext_getElem (by simp) fun i h3 h4=>?_;rw [List.getElem_set]
   split
   ·rename_i hi;subst hi;rw [List.getElem_map,h2]
   rfl
  have:=List.pairwise_map.2 hp.2;rw [<- e] at this;exact List.pairwise_map.1 this
 rename_i h
 have hne:∀ p∈l,p.key≠k:=fun p hpm he=>by
  rw [NZ (List.pairwise_map.2 (hp.2.imp fun h=>Int.le_of_lt h)),lD] at h;exact h (List.mem_map.2 ⟨p,hpm,he⟩)
 refine ⟨fun p hpm=>?_,?_⟩
 ·rcases kC.1 hpm with h|h
  ·exact hp.1 p (List.mem_of_mem_take h)
  rcases gu.1 h with rfl|h
  ·exact hk
  exact hp.1 p (List.mem_of_mem_drop h)
 rw [List.pairwise_append];refine ⟨hp.2.sublist (List.take_sublist _ _),qC.2 ⟨fun p h=>?_,hp.2.sublist (List.drop_sublist _ _)⟩,fun p h q hq=>?_⟩
 ·have h1:=b2 p h;have h2:=hne p (List.mem_of_mem_drop h)
  show k < p.key
  omega
 have h1:=b1 p h
 rcases gu.1 hq with rfl|hq
 ·exact h1
 have h2:=b2 q hq
 show p.key < q.key
 omega
theorem amt {C:aV} {e:Int} {l:List aN} (hp:xO C e l) {k:Int} {s:Int × Bool} (hs:AL C e k s):xO C e (vN l k s):=by
 unfold vN
 split
 ·rename_i h
  exact aCo hp ⟨hs.1,hs.2.1 h⟩
 exact apC hp k
theorem Zt {C:aV} {e:Int} (rej:Int->Bool) {yI:List (Int × Bool)} {k:Int} (hf:wV e k=true) (hst:∀ s∈yI,AL C e k s):∀ (l:List bW) (j:Nat) (now:Int × Bool),(∀ y∈l,y.key=k∧y.rev∈C.lq)->AL C e k now ->
  (∀ y∈(uL rej yI l j now).1,y.key=k∧He C e y∧∃ z∈l,z.rev=y.rev∧rej z.rev=false)∧AL C e k (uL rej yI l j now).2
 | [],_,_,_,hn=>by rw [uL];exact ⟨fun y h=>(by cases h),hn⟩
 | y :: r,j,now,hl,hn=>by
  obtain ⟨h1,h2⟩:=hl y dV;have hl2:=fun z hz=>hl z (gI _ hz);rw [uL]
  split
  ·obtain ⟨a,b⟩:=Zt rej hf hst r (j+1) now hl2 hn;refine ⟨fun z hz=>?_,b⟩;obtain ⟨c1,c2,x,c3,c4⟩:=a z hz;exact ⟨c1,c2,x,gI _ c3,c4⟩
  rename_i hr
  have hg:AL C e k (yI.getD (j+1) (0,false)):=by
   rw [List.getD_eq_getElem?_getD]
   cases hx:yI[j+1]? with
   | none=>exact aly hf
   | some s=>exact hst s (lZ hx)
  obtain ⟨a,b⟩:=Zt rej hf hst r (j+1) _ hl2 hg;refine ⟨fun z hz=>?_,b⟩
  rcases gu.1 hz with rfl|hz
  ·refine ⟨h1,⟨h2,?_⟩,y,dV,M,by simpa using hr⟩;dsimp only;rw [h1];exact hn
  obtain ⟨c1,c2,x,c3,c4⟩:=a z hz;exact ⟨c1,c2,x,gI _ c3,c4⟩
theorem Xw (acc:Int->Bool):∀ (l:List bW) (k c:Nat),c<=k->c<=jh acc l k c
 | [],k,c,_=>by rw [jh];exact dS _
 | y :: r,k,c,h=>by
  rw [jh]
  split
  ·have:=Xw acc r (k+1) (k+1) (dS _);omega
  exact Xw acc r (k+1) c O
theorem agQ (acc:Int->Bool):∀ (l:List bW) (k c:Nat),c<=k->∀ y∈l.drop (jh acc l k c - k),acc y.rev=false
 | [],_,_,_,y,h=>by rw [List.drop_nil] at h;cases h
 | x :: r,k,c,hc,y,h=>by
  rw [jh] at h
  have hc2:(if acc x.rev=true then k+1 else c)<=k+1:=by split <;> omega
  have ih:=agQ acc r (k+1) (if acc x.rev=true then k+1 else c) hc2;have hge:=Xw acc r (k+1) (if acc x.rev=true then k+1 else c) hc2
  by_cases hk:jh acc r (k+1) (if acc x.rev=true then k+1 else c)<=k
  ·rw [show jh acc r (k+1) (if acc x.rev=true then k+1 else c) - k=0 by omega,uX] at h;rw [show jh acc r (k+1) (if acc x.rev=true then k+1 else c) - (k+1)=0 by omega,uX] at ih
   rcases gu.1 h with rfl|h
   ·cases ha:acc y.rev
    ·rfl
    rw [ay ha] at hge hk;omega
   exact ih y h
  rw [show jh acc r (k+1) (if acc x.rev=true then k+1 else c) - k=(jh acc r (k+1) (if acc x.rev=true then k+1 else c) - (k+1))+1 by omega,xQ] at h;exact ih y h
theorem ahb {C:aV} {e:Int} (acc rej:Int->Bool) {props:List aN} (hp:xO C e props) {k:Int} {l:List bW} (hne:l≠[]) (hl:∀ y∈l,y.key=k∧He C e y) :
  (∀ y∈(mO acc rej props k l).1,y.key=k∧He C e y∧∃ z∈l,z.rev=y.rev∧rej z.rev=false∧acc z.rev=false)∧AL C e k (mO acc rej props k l).2:=by
 have hf:wV e k=true:=by
  obtain ⟨y,r,rfl⟩:=List.exists_cons_of_ne_nil hne;obtain ⟨h1,-,h2,-⟩:=hl y dV;rw [<- h1];exact h2
 have hst:∀ s∈qo props k l,AL C e k s:=fun s hs=>by
  unfold qo at hs
  rcases kC.1 hs with hs|hs
  ·obtain ⟨y,hy,rfl⟩:=List.mem_map.1 hs;obtain ⟨h1,-,h2⟩:=hl y hy;rw [<- h1];exact h2
  rw [qY.1 hs];exact aup hp hf
 unfold mO
 have hn:AL C e k ((qo props k l).getD (jh acc l 0 0) (0,false)):=by
  rw [List.getD_eq_getElem?_getD]
  cases hx:(qo props k l)[jh acc l 0 0]? with
  | none=>exact aly hf
  | some s=>exact hst s (lZ hx)
 obtain ⟨a,b⟩:=Zt rej hf hst (l.drop (jh acc l 0 0)) (jh acc l 0 0) _ (fun y hy=>⟨(hl y (List.mem_of_mem_drop hy)).1,(hl y (List.mem_of_mem_drop hy)).2.1⟩) hn;refine ⟨fun y hy=>?_,b⟩;obtain ⟨c1,c2,x,c3,c4⟩:=a y hy;exact ⟨c1,c2,x,List.mem_of_mem_drop c3,c4.1,c4.2,agQ acc l 0 0 (dS _) x (by simpa using c3)⟩
theorem NS:∀ (f:Nat) (l:List bW),∀ q∈rX f l,∀ y∈q.2,y.key=q.1
 | 0,_,q,hq=>by cases hq
 | f+1,[],q,hq=>by cases hq
 | f+1,y :: r,q,hq=>by
  rw [rX] at hq
  rcases gu.1 hq with rfl|hq
  ·intro z hz
   rcases gu.1 hz with rfl|hz
   ·rfl
   have:=List.all_takeWhile (l:=r) (p:=fun z=>decide (z.key=y.key));rw [jR] at this
   simpa using this z hz
  exact NS f _ q hq
theorem afc {C:aV} {e:Int} (acc rej:Int->Bool) {props:List aN} (hp:xO C e props):∀ (L:List (Int × List bW)) (s:List aN × List bW),xO C e s.1->(∀ q∈L,q.2≠[]∧∀ y∈q.2,y.key=q.1∧He C e y) ->
  xO C e (uq acc rej props L s).1∧∃ m,(uq acc rej props L s).2=s.2++m∧(m.map bW.key).Sublist ((L.flatMap Prod.snd).map bW.key)∧∀ y∈m,He C e y∧∃ z∈L.flatMap Prod.snd,z.rev=y.rev∧rej z.rev=false∧acc z.rev=false
 | [],s,h,_=>by rw [uq];exact ⟨h,[],by simp,kS _,fun y h=>by cases h⟩
 | (k,l) :: r,s,h,hL=>by
  obtain ⟨h1,h2⟩:=hL (k,l) dV;obtain ⟨a,b⟩:=ahb acc rej hp h1 h2;have hln:=Xz acc rej props k l;rw [uq];obtain ⟨c,m,d1,d2,d3⟩:=afc acc rej hp r (vN s.1 k (mO acc rej props k l).2,s.2++(mO acc rej props k l).1) (amt h b) fun q hq=>hL q (gI _ hq);refine ⟨c,(mO acc rej props k l).1++m,by rw [d1,iL],?_,fun y hy=>?_⟩
  ·rw [List.flatMap_cons,ji,ji];refine List.Sublist.append ?_ d2;have e1:(mO acc rej props k l).1.map bW.key=List.replicate (mO acc rej props k l).1.length k:=List.eq_replicate_iff.2 ⟨by simp,fun x hx=>by obtain ⟨y,hy,rfl⟩:=List.mem_map.1 hx;exact (a y hy).1⟩;have e2:l.map bW.key=List.replicate l.length k:=List.eq_replicate_iff.2 ⟨by simp,fun x hx=>by obtain ⟨y,hy,rfl⟩:=List.mem_map.1 hx;exact (h2 y hy).1⟩;rw [e1,e2];exact (List.replicate_sublist_replicate k).2 hln
  rw [List.flatMap_cons]
  rcases kC.1 hy with hy|hy
  ·obtain ⟨-,c2,x,c3,c4⟩:=a y hy;exact ⟨c2,x,kC.2 (.inl c3),c4⟩
  obtain ⟨c2,x,c3,c4⟩:=d3 y hy;exact ⟨c2,x,kC.2 (.inr c3),c4⟩
theorem Nu {C:aV} {e:Int} (acc rej:Int->Bool) {h:dD} (hh:JR C e h):JR C e (gL acc rej h)∧∀ y∈(gL acc rej h).marks.layers,∃ z∈h.marks.layers,z.rev=y.rev∧rej z.rev=false∧acc z.rev=false:=by
 obtain ⟨hel,hps,⟨m1,m2,m3,m4⟩,⟨d1,d2⟩,hln,⟨l1,l2⟩⟩:=hh;obtain ⟨f1,f2⟩:=Io h.marks.layers.length h.marks.layers (dS _);obtain ⟨a,m,b1,b2,b3⟩:=afc acc rej hps (rX h.marks.layers.length h.marks.layers) (h.props,[]) hps fun q hq=>⟨f2 q hq,fun y hy=>⟨NS _ _ q hq y hy,l1 y (by rw [<- f1];exact List.mem_flatMap.2 ⟨q,hq,hy⟩)⟩⟩;rw [f1] at b2 b3;rw [jA] at b1;have hsub:=List.filter_sublist (p:=fun x:gT=>!rej x.rev) (l:=h.marks.bD);have hlen:=b2.length_le;rw [bK,bK] at hlen
 have hmk:(if lH acc h then 0 else h.marks.ins)=0∧(if lH acc h then 0 else h.marks.move)=0∨(if lH acc h then 0 else h.marks.ins)=h.marks.ins∧(if lH acc h then 0 else h.marks.move)=h.marks.move:=by
  by_cases hi:lH acc h
  ·exact .inl ⟨ay hi,ay hi⟩
  exact .inr ⟨au hi,au hi⟩
 refine ⟨⟨hel,a,?_,⟨fun x hx=>d1 x (hsub.subset hx),d2.sublist hsub⟩,?_,⟨fun y hy=>?_,?_⟩⟩,fun y hy=>?_⟩
 ·have hd:=hsub.length_le
  unfold gL
  dsimp only
  rcases hmk with ⟨e1,e2⟩|⟨e1,e2⟩
  ·rw [e1,e2];exact ⟨fun h=>absurd M h,O,fun h=>absurd M h,O⟩
  rw [e1,e2];exact ⟨m1,m2,m3,O⟩
 ·unfold gL;dsimp only;rw [b1];omega
 ·unfold gL at hy;dsimp only at hy;rw [b1] at hy;exact (b3 y hy).1
 ·unfold gL;dsimp only;rw [b1]
  exact List.pairwise_map.1 ((List.pairwise_map.2 l2).sublist b2)
 unfold gL at hy;dsimp only at hy;rw [b1] at hy;exact (b3 y hy).2
theorem QS {C:aV} {e:Int} (acc rej:Int->Bool) {h:dD} (hh:iU C e h=0):iU C e (gL acc rej h)=0:=(IJ C e _).2 (Nu acc rej ((IJ C e h).1 hh)).1
def MS (l:List cB):Prop:=l.length<=256∧(∀ x∈l,xR x.author=true∧(0<=x.time∧x.time<=1099511627776)∧1<=x.id∧x.id<=1073741824)∧l.Pairwise fun x y=>x.id < y.id
theorem akM {l:List cB} (h:DL l=0):MS l:=by
 have h1:=lQ h _ (dV);have h2:=lQ h _ (gI _ dV)
 have hl:l.length<=256:=by
  rw [uO Z,uW] at h1;omega
 have hi:∀ i (hi:i < l.length),Tq l i l[i]=0:=fun i hi=>by
  have h3:=Cm h2 i O
  unfold Db at h3
  rwa [eB hi] at h3
 refine ⟨hl,fun x hx=>?_,?_⟩
 ·obtain ⟨i,hi',rfl⟩:=List.getElem_of_mem hx;have z:=lQ (hi i hi');have z1:=Sq (z _ dV);rw [eB hi'] at z1;have z2:=z (dH (!xR l[i].author) 39) (by simp);have z3:=z (dH (!decide (0<=l[i].time∧l[i].time<=1099511627776)) 40) (by simp);rw [uO Z] at z2 z3;exact ⟨by simpa using z2,by simpa using z3,z1.1,z1.2.1⟩
 have step:∀ i (hi':i+1 < l.length),l[i].id < l[i+1].id:=fun i hi'=>by
  have z1:=(Sq (lQ (hi (i+1) hi') _ dV)).2.2 O;rw [Nat.add_sub_cancel,eB hi',eB (show i < l.length by omega)] at z1;exact z1
 rw [List.pairwise_iff_getElem];intro i j hi' hj hij
 induction j with
 | zero=>omega
 | succ j ih =>
  by_cases e:i=j
  ·subst e;exact step i hj
  exact Int.lt_trans (ih O O) (step j hj)
theorem ayk {id:Nat->Int} {i:Nat} (h1:1<=id i∧id i<=1073741824) (h2:0 < i->id (i - 1) < id i):xC id i=0:=by
 unfold xC
 rw [au (fun hn=>hn h1),au (fun hn=>by have:=h2 hn.1;omega),au (fun hn=>by have:=h2 hn.1;omega)]
theorem agZ {l:List cB} (h:MS l):DL l=0:=by
 obtain ⟨hl,hx,hp⟩:=h;refine Rt.2 ⟨(uO Z).2 (qE O),MW fun i hi=>?_⟩
 have hi':i < l.length:=by omega
 unfold Db
 rw [eB hi'];have h1:=hx _ (jS hi');refine Ik fun y hy=>?_
 simp only [gu,List.not_mem_nil,or_false] at hy
 rcases hy with rfl|rfl|rfl
 ·have e:∀ k (hk:k < l.length),(l[k]?.map cB.id).getD 0=l[k].id:=fun k hk=>by rw [eB hk];rfl
  exact ayk (by rw [e i hi'];exact h1.2.2) (fun h0=>by
   rw [e i hi',e (i - 1) O]
   exact List.pairwise_iff_getElem.1 hp (i - 1) i O hi' O)
 ·rw [uO Z,h1.1];rfl
 rw [uO Z,mY h1.2.1];rfl
theorem MS.sub {l m:List cB} (h:MS l) (hs:m.Sublist l):MS m:=⟨Nat.le_trans hs.length_le h.1,fun x hx=>h.2.1 x (hs.subset hx),h.2.2.sublist hs⟩
def uF (A:List jF):Int:=(A.map fun f=>zB f.items).sum
theorem aaO (a b:List jF):uF (a++b)=uF a+uF b:=by simp [uF]
theorem TY (x:jF) (b:List jF):uF (x :: b)=zB x.items+uF b:=by simp [uF]
theorem aDr (A:List jF):Po A=uF A:=by
 have key:∀ (A:List jF) (n:Int),A.foldl (fun n f=>n+zB f.items) n=n+uF A:=by
  intro A
  induction A with
  | nil=>intro n;simp [uF]
  | cons x A ih=>intro n;rw [List.foldl_cons,ih,TY];omega
 rw [Po,key];omega
theorem ZC {C:aV} {body note:Bool} {t:Int} {l:List ak} (h:iN C body note t l):zB l=tY l:=by
 unfold zB
 rw [ay]
 unfold yZ
 rw [jR];intro x hx;have h1:=(DW ((Gj x).1 (Aj.1 h x hx)).1).1;refine mY ?_
 unfold Av JF;rw [ay h1];split <;> rfl
theorem aDp (k c i:Int) (tx:ByteArray) (h:dD) (f:List ak) (r:List aO):uI (.mk k c i tx h f r)=jo (.mk k c i tx h f r)+(if k=6 then kM f else if k=7 then pK r else 0):=by rw [uI];rfl
mutual
theorem aDt (C:aV) (body note:Bool) (t:Int) (n2:Bool) (t2:Int):∀ x:ak,mh C body note t x->(jo x:Nat)+uF (zM n2 t2 x)=(uI x:Nat)
 | .mk k c i tx h f r,hx=>by
  have hf:=Ua C false true t true t2 f;have hr:=alU C note (t+1) n2 t2 r;rw [mh] at hx;rw [aDp,zM]
  by_cases h6:k=6
  ·subst h6;have ho:=hx.2.2.2.1 M;have:=hf ho;rw [ay M,ay M,TY];dsimp only;rw [ZC ho];push_cast;omega
  by_cases h7:k=7
  ·subst h7;have:=hr (hx.2.2.2.2 M).2;rw [au h6,au h6,ay M,ay M];push_cast;omega
  rw [au h6,au h6,au h7,au h7];simp [uF]
theorem aDu (C:aV) (note:Bool) (t:Int) (n2:Bool) (t2:Int):∀ x:aO,pI C note t x->uF (zN n2 t2 x)=(uR x:Nat)
 | .mk h cs,hx=>by
  have hc:=alS C note t n2 t2 cs;rw [pI] at hx;rw [uR,zN];exact hc hx.2
theorem aDs (C:aV) (note:Bool) (t:Int) (n2:Bool) (t2:Int):∀ x:aQ,pG C note t x->uF (zL n2 t2 x)=(uC x:Nat)
 | .mk i h f,hx=>by
  have hf:=Ua C false note t n2 (t2+1) f;rw [pG] at hx;have:=hf hx.2;rw [uC,zL,TY];dsimp only;rw [ZC hx.2];omega
theorem Ua (C:aV) (body note:Bool) (t:Int) (n2:Bool) (t2:Int):∀ l:List ak,iN C body note t l->(tY l:Nat)+uF (lu n2 t2 l)=(kM l:Nat)
 | [],_=>by simp [tY,lu,uF,kM]
 | x :: l,h=>by
  rw [iN] at h;have h1:=aDt C body note t n2 t2 x h.1;have h2:=Ua C body note t n2 t2 l h.2;rw [tY,lu,kM,aaO];push_cast;omega
theorem alU (C:aV) (note:Bool) (t:Int) (n2:Bool) (t2:Int):∀ l:List aO,kJ C note t l->uF (rQ n2 t2 l)=(pK l:Nat)
 | [],_=>by simp [rQ,uF,pK]
 | x :: l,h=>by
  rw [kJ] at h;have h1:=aDu C note t n2 t2 x h.1;have h2:=alU C note t n2 t2 l h.2;rw [rQ,pK,aaO];push_cast;omega
theorem alS (C:aV) (note:Bool) (t:Int) (n2:Bool) (t2:Int):∀ l:List aQ,lg C note t l->uF (sI n2 t2 l)=(qx l:Nat)
 | [],_=>by simp [sI,uF,qx]
 | x :: l,h=>by
  rw [lg] at h;have h1:=aDs C note t n2 t2 x h.1;have h2:=alS C note t n2 t2 l h.2;rw [sI,qx,aaO];push_cast;omega
end
theorem alT {C:aV} {body note:Bool} {t:Int} {l:List ak} (h:iN C body note t l):Po (qg l)=(kM l:Nat):=by
 have:=Ua C body note t false 0 l h;rw [aDr,qg,TY];dsimp only;rw [ZC h];exact this
theorem SI {d:gX} (h:iQ d=0):iQ (pF d)=0∧Po (qg (iA d.flow))=Po (qg d.flow):=by
 obtain ⟨h1,h2,h3,h4,h5⟩:=(yV d).1 h;obtain ⟨e1,e2⟩:=ayi h3;exact ⟨(yV (pF d)).2 ⟨h1,h2,ajW h3,by show lY [] [] (jI (iA d.flow));rw [e1];exact h4,by show kM (iA d.flow)<=_;rw [e2];exact h5⟩,by rw [alT (ajW h3),alT h3,e2]⟩
theorem aC7 (l:List Int):(Ao l).Pairwise (·<=·):=by
 have h:=List.pairwise_mergeSort (le:=leI) (fun a b c h1 h2=>by simp only [leI,lD] at *;omega) (fun a b=>by simp only [leI,Bool.or_eq_true,lD];omega) l
 exact h.imp fun h=>by simpa [leI] using h
theorem aja (d:gX):(fun r:cB=>qm (Ao (nV (pF d))) r.id)=fun r=>decide (r.id∈nV (pF d)):=by
 funext r
 rw [NZ (aC7 _)];exact decide_eq_decide.2 (by rw [Ao,List.mem_mergeSort])
theorem acI {p:Prop} (h:p:=by
 intro hm;obtain ⟨x,hx,e⟩:=List.mem_map.1 (show (0:Int)∈d.revs.map cB.id from hm);have:=(hg.2.1 x hx).2.2.1
 omega):p:=h
theorem ajA {d:gX} (h:iQ d=0):iQ (nD d)=0:=by
 obtain ⟨h1,h2,h3,h4,h5⟩:=(yV _).1 (SI h).1;have hg:=akM h1.2
 have h0:(0:Int)∉(pF d).jT.lq:=by
  exact acI
 have hin:∀ q∈Mk (pF d),q≠0->q∈(nD d).jT.lq:=by
  intro q hq hn
  have hu:q∈nV (pF d):=by
   unfold nV
   rw [List.mem_filter,lD,Qe];exact ⟨.inr hq,hn⟩
  have hr:=(Tn (SI h).1 q hq).resolve_left hn;obtain ⟨x,hx,rfl⟩:=List.mem_map.1 hr
  show x.id∈(nD d).revs.map cB.id
  refine List.mem_map.2 ⟨x,?_,M⟩
  show x∈d.revs.filter _
  rw [aja,List.mem_filter];exact ⟨hx,mY hu⟩
 refine (yV (nD d)).2 ⟨⟨h1.1,agZ (hg.sub List.filter_sublist)⟩,⟨N8 (C:=(pF d).jT) (C':=(nD d).jT) M M h0 (fun q hq hn=>hin q (by unfold Mk;exact List.mem_append_right _ hq) hn) h2.1,h2.2⟩,OZ (C:=(pF d).jT) (C':=(nD d).jT) M M h0 true false 0 _ (fun x hx q hq hn=>hin q (by unfold Mk;exact List.mem_append_left _ (List.mem_flatMap.2 ⟨x,hx,hq⟩)) hn) h3,h4,h5⟩
mutual
theorem azH (C:aV) (body note:Bool) (t:Int):∀ x:ak,mh C body note t x->Mc x
 | .mk k c i tx h f r,hx=>by
  have hf:=SS C false true t f;have hr:=ajL C note (t+1) r;rw [mh] at hx;obtain ⟨-,-,aiA,ahD⟩:=DW hx.1;dsimp only [ak.kind,ak.rows,ak.flow] at aiA ahD;rw [Mc];refine ⟨?_,?_⟩
  ·by_cases h6:k=6
   ·exact hf (hx.2.2.2.1 h6)
   rw [ahD h6,xE];trivial
  by_cases h7:k=7
  ·exact hr (hx.2.2.2.2 h7).2
  rw [aiA h7,Ev];trivial
theorem azI (C:aV) (note:Bool) (t:Int):∀ x:aO,pI C note t x->F9 x
 | .mk h cs,hx=>by
  have hc:=ajK C note t cs;rw [pI] at hx;rw [F9];refine ⟨fun e=>?_,hc hx.2⟩;have z:=lQ hx.1 (dH (decide ((cs.length:Int)=0)) 11) (by simp);rw [uO Z,e] at z
  simp at z
theorem azG (C:aV) (note:Bool) (t:Int):∀ x:aQ,pG C note t x->F7 x
 | .mk i h f,hx=>by
  have hf:=SS C false note t f;rw [pG] at hx;rw [F7];exact hf hx.2
theorem SS (C:aV) (body note:Bool) (t:Int):∀ l:List ak,iN C body note t l->xE l
 | [],_=>by rw [xE];trivial
 | x :: l,h=>by
  rw [iN] at h;rw [xE];exact ⟨azH C body note t x h.1,SS C body note t l h.2⟩
theorem ajL (C:aV) (note:Bool) (t:Int):∀ l:List aO,kJ C note t l->Ev l
 | [],_=>by rw [Ev];trivial
 | x :: l,h=>by
  rw [kJ] at h;rw [Ev];exact ⟨azI C note t x h.1,ajL C note t l h.2⟩
theorem ajK (C:aV) (note:Bool) (t:Int):∀ l:List aQ,lg C note t l->F8 l
 | [],_=>by rw [F8];trivial
 | x :: l,h=>by
  rw [lg] at h;rw [F8];exact ⟨azG C note t x h.1,ajK C note t l h.2⟩
end
theorem azw {d:gX} (hz:AA d):AA (nD d):=⟨Nat.le_trans (abe _) hz.fl,hz.hd,Nat.le_trans (List.length_filter_le _ _) hz.rn,fun x hx=>hz.rt x (List.mem_filter.1 hx).1,hz.sn,hz.st⟩
theorem azv {d:gX} (hz:AA d) (h:iQ d=0):xE d.flow∧bq (iA d.flow)<=1073741824∧(∀ k∈nV (pF d),-9223372036854775808<=k∧k < 9223372036854775808)∧(nV (pF d)).length<=4294967296:=by
 have h0:=(SI h).1;refine ⟨SS _ _ _ _ _ ((yV d).1 h).2.2.1,Nat.le_trans (abe _) hz.fl,fun q hq=>by have:=aDI h0 hq;omega,?_⟩;exact Nat.le_trans (aDH h0) hz.rn
section
theorem Xu {k c i:Int} {tx:ByteArray} {h h':dD} {f f':List ak} {r r':List aO} (hx:kZ (.mk k c i tx h f r)=0) (hf:k≠6->f'=f) (hr:k≠7->r'=r):kZ (.mk k c i tx h' f' r')=0:=by
 have e:wW (.mk k c i tx h' f' r')=wW (.mk k c i tx h f r):=by
  rw [Ck]
  simp only [wW,Bool.or_eq_true,iC,lD]
  have c1:xU (.mk k c i tx h' f' r')=xU (.mk k c i tx h f r):=rfl;have c2:yC (.mk k c i tx h' f' r')=yC (.mk k c i tx h f r):=rfl;have c3:Aw (.mk k c i tx h' f' r')=Aw (.mk k c i tx h f r):=rfl;rw [c1,c2,c3]
  show (((((_∧c≠0)∨(_∧i≠0))∨(_∧(!vk tx)=true))∨(k≠6∧0 < (f'.length:Int)))∨(k≠7∧0 < (r'.length:Int)))↔(((((_∧c≠0)∨(_∧i≠0))∨(_∧(!vk tx)=true))∨(k≠6∧0 < (f.length:Int)))∨(k≠7∧0 < (r.length:Int)))
  by_cases h6:k=6
  ·subst h6;rw [hr Z];simp
  rw [hf h6]
  by_cases h7:k=7
  ·subst h7;simp
  rw [hr h7]
 have e2:codeOk (.mk k c i tx h' f' r')=codeOk (.mk k c i tx h f r):=rfl;have e3:Ap (.mk k c i tx h' f' r')=Ap (.mk k c i tx h f r):=rfl
 unfold kZ at hx |-
 rw [e,e2,e3];exact hx
theorem LW (k c i:Int) (tx:ByteArray) (h:dD) (f:List ak) (r:List aO):rZ (.mk k c i tx h f r)=(if k=6∨k=7 then [i] else [])++(if k=6 then jI f else if k=7 then om r else []):=by
 rw [rZ]
 by_cases h6:k=6
 ·rw [ay h6,ay h6,au (show ¬ k=7 by omega),fG]
 rw [au h6,au h6,jA]
theorem aiN:∀ a b:List aO,om (a++b)=om a++om b
 | [],b=>by simp [om]
 | x :: a,b=>by simp [om,aiN a b]
theorem aiM:∀ a b:List aQ,oZ (a++b)=oZ a++oZ b
 | [],b=>by simp [oZ]
 | x :: a,b=>by simp [oZ,aiM a b]
theorem alQ:∀ a b:List aO,pK (a++b)=pK a+pK b
 | [],b=>by simp [pK]
 | x :: a,b=>by simp [pK,alQ a b];omega
theorem alP:∀ a b:List aQ,qx (a++b)=qx a+qx b
 | [],b=>by simp [qx]
 | x :: a,b=>by simp [qx,alP a b];omega
theorem Tz {C:aV} {h:dD} {n:Nat}:Ez C h n=0↔iU C 9 h=0∧n≠0∧n<=32:=by
 constructor
 ·intro h;have z:=lQ h;have z2:=z (dH (decide ((n:Int)=0)) 11) (by simp);have z3:=z (dH (decide (32 < (n:Int))) 9) (by simp);rw [uO Z,uW] at z2 z3;exact ⟨z _ dV,O,O⟩
 rintro ⟨h1,h2,h3⟩;refine Ik fun x hx=>?_
 simp only [gu,List.not_mem_nil,or_false] at hx
 rcases hx with rfl|rfl|rfl
 ·exact h1
 ·rw [uO Z,uW];omega
 rw [uO Z,uW];omega
variable {acc rej:Int->Bool}
mutual
theorem aBb (C:aV) (body note:Bool) (t:Int):∀ x:ak,mh C body note t x->iN C body note t (mK acc rej x)∧(jI (mK acc rej x)).Sublist (rZ x)∧kM (mK acc rej x)<=uI x
 | .mk k c i tx h f r,hx=>by
  have hf:=OV C false true t f;have hr:=akt C note (t+1) r;rw [mh] at hx;obtain ⟨h1,h2,h3,h4,h5⟩:=hx;have hd:=QS acc rej h3;have nil:iN C body note t []∧(jI []).Sublist (rZ (.mk k c i tx h f r))∧kM []<=uI (.mk k c i tx h f r):=⟨by rw [iN];trivial,by rw [jI];exact List.nil_sublist _,by rw [kM];exact kY _⟩;have one:∀ y:ak,mh C body note t y->(rZ y).Sublist (rZ (.mk k c i tx h f r))->uI y<=uI (.mk k c i tx h f r)->iN C body note t [y]∧(jI [y]).Sublist (rZ (.mk k c i tx h f r))∧kM [y]<=uI (.mk k c i tx h f r):=fun y a b c=>⟨by rw [iN,iN];exact ⟨a,aC⟩,by rw [jI,jI,fG];exact b,by rw [kM,kM];exact c⟩;rw [mK]
  split
  ·exact nil
  split
  ·rename_i h6
   obtain ⟨a1,a2,a3⟩:=hf (h4 h6);refine one _ ?_ ?_ ?_
   ·rw [mh];exact ⟨Xu h1 (fun h=>absurd h6 h) fun _=>rfl,h2,hd,fun _=>a1,fun h=>absurd h O⟩
   ·rw [LW,LW];rw [ay h6,ay h6];exact (kS _).append a2
   rw [uI,uI,ay h6,ay h6];omega
  split
  ·rename_i h6 h7
   split
   ·exact nil
   rename_i hn
   obtain ⟨h5,h8⟩:=h5 h7;obtain ⟨a1,a2,a3⟩:=hr h8;have hl:=aaj (acc:=acc) (rej:=rej) r;refine one _ ?_ ?_ ?_
   ·rw [mh];exact ⟨Xu h1 (fun _=>rfl) fun h=>absurd h7 h,h2,hd,fun h=>absurd h h6,fun _=>⟨⟨hn,O⟩,a1⟩⟩
   ·rw [LW,LW];rw [au h6,au h6,ay h7,ay h7];exact (kS _).append a2
   rw [uI,uI,au h6,au h6,ay h7,ay h7];omega
  rename_i h6 h7
  refine one _ ?_ ?_ ?_
  ·rw [mh];exact ⟨Xu h1 (fun _=>rfl) fun _=>rfl,h2,hd,fun h=>absurd h h6,fun h=>absurd h h7⟩
  ·rw [LW,LW];exact kS _
  rw [uI,uI];exact dS _
theorem aBd (C:aV) (note:Bool) (t:Int):∀ x:aO,pI C note t x->kJ C note t (nS acc rej x)∧(om (nS acc rej x)).Sublist (wE x)∧pK (nS acc rej x)<=uR x
 | .mk h cs,hx=>by
  have hc:=aks C note t cs;rw [pI] at hx;obtain ⟨h1,h2⟩:=hx;obtain ⟨a1,a2,a3⟩:=hc h2;have hl:=aaf (acc:=acc) (rej:=rej) cs;have nil:kJ C note t []∧(om []).Sublist (wE (.mk h cs))∧pK []<=uR (.mk h cs):=⟨by rw [kJ];trivial,by rw [om];exact List.nil_sublist _,by rw [pK];exact kY _⟩;rw [nS]
  split
  ·exact nil
  split
  ·exact nil
  rename_i hn
  rw [kJ,kJ,om,om,pK,pK,pI,wE,wE,uR,uR,fG];refine ⟨⟨⟨?_,a1⟩,aC⟩,a2,a3⟩;obtain ⟨z1,z2,z3⟩:=Tz.1 h1;exact Tz.2 ⟨QS acc rej z1,hn,O⟩
theorem aBa (C:aV) (note:Bool) (t:Int):∀ x:aQ,pG C note t x->lg C note t (oz acc rej x)∧(oZ (oz acc rej x)).Sublist (xw x)∧qx (oz acc rej x)<=uC x
 | .mk i h f,hx=>by
  have hf:=OV C false note t f;rw [pG] at hx;obtain ⟨h1,h2⟩:=hx;obtain ⟨a1,a2,a3⟩:=hf h2;rw [oz]
  split
  ·exact ⟨by rw [lg];trivial,by rw [oZ];exact List.nil_sublist _,by rw [qx];exact kY _⟩
  rw [lg,lg,oZ,oZ,qx,qx,pG,xw,xw,uC,uC,fG];exact ⟨⟨⟨QS acc rej h1,a1⟩,aC⟩,(kS [i]).append a2,a3⟩
theorem OV (C:aV) (body note:Bool) (t:Int):∀ l:List ak,iN C body note t l->iN C body note t (bZ acc rej l)∧(jI (bZ acc rej l)).Sublist (jI l)∧kM (bZ acc rej l)<=kM l
 | [],_=>by rw [bZ];exact ⟨by rw [iN];trivial,kS _,dS _⟩
 | x :: l,h=>by
  rw [iN] at h;obtain ⟨a1,a2,a3⟩:=aBb C body note t x h.1;obtain ⟨b1,b2,b3⟩:=OV C body note t l h.2;rw [bZ,OE,Pj,jI,kM];exact ⟨Aj.2 fun y hy=>(kC.1 hy).elim (Aj.1 a1 y) (Aj.1 b1 y),a2.append b2,O⟩
theorem akt (C:aV) (note:Bool) (t:Int):∀ l:List aO,kJ C note t l->kJ C note t (fZ acc rej l)∧(om (fZ acc rej l)).Sublist (om l)∧pK (fZ acc rej l)<=pK l
 | [],_=>by rw [fZ];exact ⟨by rw [kJ];trivial,kS _,dS _⟩
 | x :: l,h=>by
  rw [kJ] at h;obtain ⟨a1,a2,a3⟩:=aBd C note t x h.1;obtain ⟨b1,b2,b3⟩:=akt C note t l h.2;rw [fZ,aiN,alQ,om,pK];exact ⟨S9.2 fun y hy=>(kC.1 hy).elim (S9.1 a1 y) (S9.1 b1 y),a2.append b2,O⟩
theorem aks (C:aV) (note:Bool) (t:Int):∀ l:List aQ,lg C note t l->lg C note t (fK acc rej l)∧(oZ (fK acc rej l)).Sublist (oZ l)∧qx (fK acc rej l)<=qx l
 | [],_=>by rw [fK];exact ⟨by rw [lg];trivial,kS _,dS _⟩
 | x :: l,h=>by
  rw [lg] at h;obtain ⟨a1,a2,a3⟩:=aBa C note t x h.1;obtain ⟨b1,b2,b3⟩:=aks C note t l h.2;rw [fK,aiM,alP,oZ,qx];exact ⟨SY.2 fun y hy=>(kC.1 hy).elim (SY.1 a1 y) (SY.1 b1 y),a2.append b2,O⟩
end
def kK (acc rej:Int->Bool) (d:gX):gX:=⟨bZ acc rej d.flow,eU acc rej d.fin,d.revs,d.lK⟩
theorem TB {d:gX} (h:iQ d=0):iQ (kK acc rej d)=0:=by
 rw [yV] at h |-;obtain ⟨h1,⟨h2,h3⟩,h4,h5,h6⟩:=h;obtain ⟨a1,a2,a3⟩:=OV (acc:=acc) (rej:=rej) _ true false 0 d.flow h4
 unfold vD at h3
 rw [uW] at h3;have hd:d.fin.marks.bD=[]:=List.eq_nil_of_length_eq_zero O
 have hg:¬ lS acc rej d.fin:=fun h=>h.elim (fun h=>h3 (.inl (.inl h.1))) fun ⟨x,hx,_⟩=>by rw [hd] at hx;cases hx
 have ha:eU acc rej d.fin=gL acc rej d.fin:=au hg;refine ⟨h1,⟨?_,?_⟩,a1,h5.sub a2,by show kM (bZ acc rej d.flow)<=_;omega⟩
 ·show iU d.jT 3 (eU acc rej d.fin)=0
  rw [ha];exact QS acc rej h2
 show vD (eU acc rej d.fin).marks=false
 rw [ha]
 unfold vD gL
 rw [uW];dsimp only;rw [hd];rintro ((h|h)|h)
 ·split at h
  ·exact h M
  exact h3 (.inl (.inl h))
 ·split at h
  ·exact h M
  exact h3 (.inl (.inr h))
 simp at h
structure yL (n:Nat) (d:gX):Prop where
 z:AA d
 fl:bq d.flow<=n
 hd:nH d.fin<=n
theorem ajB {n:Nat} {d:gX} (h:yL n d):yL n (nD d):=⟨azw h.z,Nat.le_trans (abe _) h.fl,h.hd⟩
theorem aag {n:Nat} {d:gX} (h:yL n d) (hn:2*n<=1073741824) (hn0:16<=n):yL (2*n) (kK acc rej d):=by
 have h1:=TH (acc:=acc) (rej:=rej) d.flow
 have h2:nH (eU acc rej d.fin)<=2*n:=by
  unfold eU
  split
  ·show nH Dx<=_
   simp [GJ,Dx,dM];try omega
  have:=QU (acc:=acc) (rej:=rej) d.fin;have:=h.hd;omega
 have h3:=h.fl;refine ⟨⟨by show bq (bZ acc rej d.flow)<=_;omega,Nat.le_trans h2 O,h.z.rn,h.z.rt,h.z.sn,h.z.st⟩,by show bq (bZ acc rej d.flow)<=_;omega,h2⟩
end
theorem agc:aR 96:=aS func96 M
theorem atG:dR prog 43 0 0:=⟨V⟩
theorem atH:dR prog 43 1 1:=⟨V⟩
theorem asY:aR 97:=aS func97 M
theorem asG:aR 46:=aS func46 M
theorem asZ:aR 99:=aS func99 M
theorem asH:aR 48:=aS func48 M
theorem vO.mk_ {acc rej:Int->Bool} {h:dD} {G:GH} {p d l:ah} (hh:jG G (eU acc rej h) p d l):vO acc rej h (.tuple #[.agg #[p,vi (eU acc rej h).marks.ins,vi (eU acc rej h).marks.move,d,l],.bool (!decide (lS acc rej h))]) G:=by
 unfold vO
 by_cases hg:lS acc rej h
 ·have e:eU acc rej h=Dx:=ay hg;rw [ay hg,mY hg];rw [e] at hh |-;exact ⟨p,d,l,M,hh⟩
 have e:eU acc rej h=gL acc rej h:=au hg;rw [au hg,qE hg];rw [e] at hh |-;exact ⟨p,d,l,M,hh⟩
theorem aDP (G:GH):EZ (.func (.func 97) #[] #[]) G (fun _=>false) fun _=>true:=by
 intro G1 w0 hm hG r;refine kD (caps:=[]) asY ?_;refine eN [(0,_)] func97 M ntmps97 M M hG ?_;intro a H;refine kP H (SR fun _ K1=>Ra M (aj K1 M (SR fun _ K2=>Ra M (aj K2 M ?_))));clear H K1 K2;intro a H;refine eP ?_;refine (kG H results97 (.cons (fB H M) (.cons (fB H M) .nil)) ?_).1;exact yR
theorem aBC (G:GH):EY (.func (.func 46) #[] #[]) G (fun _=>false) fun _=>true:=by
 intro G1 w0 hm hG h p d l hh hz;refine kD (caps:=[]) asG ?_;obtain ⟨pA,pn,pc,rfl⟩:=hh.props.form;obtain ⟨dA,dn,dc,rfl⟩:=hh.bD.form;obtain ⟨lA,ln,lc,rfl⟩:=hh.layers.form;refine eN [(0,_)] func46 M ntmps46 M M hG ?_;intro a H;refine cZ (fun _ K1=>?_);refine dZ (cs:=[_,_,_,_,_]) H wn M M M ?_;clear H;intro b1 a w hb1 H;refine dW gB H wn M ?_;clear H;intro b2 a w hb2 H;refine kH H (aj K1 M (SR fun _ K2=>?_));clear H K1;intro a H;refine bQ gB (cs:=[_,_,_,_,_]) H wn M M (H.hp.dG 1 M M) M ?_;clear H;intro a H;refine s_call agc H wn M (ajx _ _ H.ro _ _ _ (aDP _) M h _ _ _ hh hz) M ?_;clear H;rintro v5 G5 a w hd5 yh H;obtain ⟨q1,q2,q3,q4,q5,q6,q7,q8,q9,rfl,uG⟩:=hd5.ans;(iterate 2 refine lJ H wn M M M ?_;clear H;intro a H);refine bJ gB 0 (vs:=[_,_,_,_,_]) H wn M ?_;clear H;intro w H;refine kH H (aj K2 M ?_);clear H K2;intro a H;refine eP ?_;refine (kG H results46 (.cons (qM gB (cs:=[_,_,_,_,_]) H M M (H.hp.dG 0 M M)) (.cons (fB H M) .nil)) ?_).1;exact H.rt (vO.mk_ uG)
theorem aDO (G:GH):EZ (.func (.func 99) #[] #[]) G (fun _=>true) fun _=>false:=by
 intro G1 w0 hm hG r;refine kD (caps:=[]) asZ ?_;refine eN [(0,_)] func99 M ntmps99 M M hG ?_;intro a H;refine kP H (SR fun _ K1=>Ra M (aj K1 M (SR fun _ K2=>Ra M (aj K2 M ?_))));clear H K1 K2;intro a H;refine eP ?_;refine (kG H results99 (.cons (fB H M) (.cons (fB H M) .nil)) ?_).1;exact yR
theorem aBB (G:GH):EY (.func (.func 48) #[] #[]) G (fun _=>true) fun _=>false:=by
 intro G1 w0 hm hG h p d l hh hz;refine kD (caps:=[]) asH ?_;obtain ⟨pA,pn,pc,rfl⟩:=hh.props.form;obtain ⟨dA,dn,dc,rfl⟩:=hh.bD.form;obtain ⟨lA,ln,lc,rfl⟩:=hh.layers.form;refine eN [(0,_)] func48 M ntmps48 M M hG ?_;intro a H;refine cZ (fun _ K1=>?_);refine dZ (cs:=[_,_,_,_,_]) H wn M M M ?_;clear H;intro b1 a w hb1 H;refine dW gB H wn M ?_;clear H;intro b2 a w hb2 H;refine kH H (aj K1 M (SR fun _ K2=>?_));clear H K1;intro a H;refine bQ gB (cs:=[_,_,_,_,_]) H wn M M (H.hp.dG 1 M M) M ?_;clear H;intro a H;refine s_call agc H wn M (ajx _ _ H.ro _ _ _ (aDO _) M h _ _ _ hh hz) M ?_;clear H;rintro v5 G5 a w hd5 yh H;obtain ⟨q1,q2,q3,q4,q5,q6,q7,q8,q9,rfl,uG⟩:=hd5.ans;(iterate 2 refine lJ H wn M M M ?_;clear H;intro a H);refine bJ gB 0 (vs:=[_,_,_,_,_]) H wn M ?_;clear H;intro w H;refine kH H (aj K2 M ?_);clear H K2;intro a H;refine eP ?_;refine (kG H results48 (.cons (qM gB (cs:=[_,_,_,_,_]) H M M (H.hp.dG 0 M M)) (.cons (fB H M) .nil)) ?_).1;exact H.rt (vO.mk_ uG)

theorem arq:aR 17:=aS func17 M
theorem afW:aR 47:=aS func47 M
theorem aC5:qV prog 43 [(0,1),(1,1)] [.slice none 0 0,.slice none 0 0]:=⟨V,V⟩
set_option maxHeartbeats 2000000 in
theorem amo {acc rej:Int->Bool} (G:GH) (w0:World) (hG:Hold G w0) (fv:ah) (hf:EY fv G acc rej) (D:kN) (d:gX) (hR:pO G D d) (hs:yL 536870912 d) (hc:iQ d=0) :
  Calls prog 47 #[fv,D.val] w0 (bE w0 G fun u G'=>∃ D':kN,u=D'.val∧pO G' D' (nD (kK acc rej d))):=by
 obtain ⟨df,dp,dd,dy,dr,d1,d2,d3,d4,ins,mv⟩:=D;have hok:=TB (acc:=acc) (rej:=rej) hc;have hfl:=hs.fl;have hhd:=hs.hd;have hz2:AA (kK acc rej d):=(aag hs Z Z).z;obtain ⟨p1,p2,p3,p4⟩:=azv hz2 hok;obtain ⟨hRf,hRh,hRi,hRm,hRr,hRs⟩:=hR;dsimp only at hRi hRm;subst hRi hRm;refine eN [(0,_),(1,_)] func47 M ntmps47 M M hG ?_;intro a H;refine cZ (fun _ K1=>?_);refine dZ (cs:=[_,_,_,_,_,_,_,_,_,_,_]) H wn M M M ?_;clear H;intro b3 a w hb3 H;refine dW jN H wn M ?_;clear H;intro b4 a w hb4 H;refine K1 _ _ ?_;clear K1;refine kP H (SR fun _ K2=>Rm M (bC vZ jy 1 M M ?_));clear H;intro a H;refine s_call W9 H wn M (akB 536870913 (dS _) _ _ H.ro hf d.flow _ hRf O) M ?_;clear H;rintro v8 G8 a w hv8 xk H;obtain ⟨fA,fn,fc,rfl⟩:=hv8.form;refine kH H (Rf vZ M ?_);clear H;intro a H;refine bJ jy 1 (vs:=[_]) H wn M ?_;clear H;intro w H;refine K2 _ _ ?_;clear K2;refine kP H (SR fun _ K3=>Rm M (Rf Fp M ?_));clear H;intro a H;refine bQ gB (cs:=[_,_,_,_,_]) H wn M M (H.hp.dG 1 M M) M ?_;clear H;intro a H;refine lI H wn M M (hf _ _ xk H.ro d.fin _ _ _ (hRh.mono xk) O) M ?_;clear H;rintro v14 EN a w avS Ei H;obtain ⟨q1,q2,q3,q4,q5,q6,q7,q8,q9,rfl,awm⟩:=avS.ans;refine kH H (Rm M ?_);clear H;intro a H;(iterate 2 refine lJ H wn M M M ?_;clear H;intro a H);refine kH H (Rf Fp M ?_);clear H;intro a H;refine bJ gB 1 (vs:=[_,_,_,_,_]) H wn M ?_;clear H;intro w H;refine K3 _ _ ?_;clear K3;refine cZ (fun _ K4=>?_);refine bQ jN (cs:=(⟨(fA,fn,fc),(q1,q2,q3),(q4,q5,q6),(q7,q8,q9),dr,d1,d2,d3,d4,(eU acc rej d.fin).marks.ins,(eU acc rej d.fin).marks.move⟩:kN).cells) H wn M M (H.hp.dG 1 M M) M ?_;clear H;intro a H;refine s_call arq H wn M (aqc _ _ H.ro ⟨(fA,fn,fc),(q1,q2,q3),(q4,q5,q6),(q7,q8,q9),dr,d1,d2,d3,d4,(eU acc rej d.fin).marks.ins,(eU acc rej d.fin).marks.move⟩ (kK acc rej d) ⟨hv8.mono Ei,awm,M,M,hRr.mono (fun b o h=>Ei b o (xk b o h)),hRs.mono fun b o h=>Ei b o (xk b o h)⟩ hz2 p1 p2 p3 p4) M ?_;clear H;rintro v19 GQ a w ⟨E,rfl,hE⟩ sW H;refine bJ jN 0 (vs:=[_,_,_,_,_,_,_,_,_,_,_]) H wn M ?_;clear H;intro w H;refine K4 _ _ ?_;clear K4;refine eP ?_;refine (leave1 H results47 (.cons (qM jN (cs:=[_,_,_,_,_,_,_,_,_,_,_]) H M M (H.hp.dG 0 M M)) .nil) ?_).1;exact H.rt ⟨E,M,hE⟩
theorem aA4 (G:GH) (w0:World) (hG:Hold G w0) (D:kN) (d:gX) (hR:pO G D d) (hs:yL 536870912 d) (hc:iQ d=0) :
  Calls prog 14 #[D.val] w0 (bE w0 G fun u G'=>∃ D':kN,u=D'.val∧pO G' D' (nD (kK (fun _=>false) (fun _=>true) d))):=by
 refine eN [(0,_)] func14 M ntmps14 M M hG ?_;intro a H;refine cZ (fun _ K1=>?_);refine dZ (cs:=[_,_,_,_,_,_,_,_,_,_,_]) H wn M M M ?_;clear H;intro b1 a w hb1 H;refine dW jN H wn M ?_;clear H;intro b2 a w hb2 H;refine K1 _ _ ?_;clear K1;refine cZ (fun _ K2=>?_);refine bQ jN (cs:=[_,_,_,_,_,_,_,_,_,_,_]) H wn M M (H.hp.dG 1 M M) M ?_;clear H;intro a H;refine s_call afW H wn M (amo _ _ H.ro _ (aBC _) D d hR hs hc) M ?_;clear H;rintro v4 G4 a w ⟨E,rfl,hE⟩ rD H;refine bJ jN 0 (vs:=[_,_,_,_,_,_,_,_,_,_,_]) H wn M ?_;clear H;intro w H;refine K2 _ _ ?_;clear K2;refine eP ?_;refine (leave1 H results14 (.cons (qM jN (cs:=[_,_,_,_,_,_,_,_,_,_,_]) H M M (H.hp.dG 0 M M)) .nil) ?_).1;exact H.rt ⟨E,M,hE⟩
theorem Z9 (G:GH) (w0:World) (hG:Hold G w0) (D:kN) (d:gX) (hR:pO G D d) (hs:yL 536870912 d) (hc:iQ d=0) :
  Calls prog 15 #[D.val] w0 (bE w0 G fun u G'=>∃ D':kN,u=D'.val∧pO G' D' (nD (kK (fun _=>true) (fun _=>false) d))):=by
 refine eN [(0,_)] func15 M ntmps15 M M hG ?_;intro a H;refine cZ (fun _ K1=>?_);refine dZ (cs:=[_,_,_,_,_,_,_,_,_,_,_]) H wn M M M ?_;clear H;intro b1 a w hb1 H;refine dW jN H wn M ?_;clear H;intro b2 a w hb2 H;refine K1 _ _ ?_;clear K1;refine cZ (fun _ K2=>?_);refine bQ jN (cs:=[_,_,_,_,_,_,_,_,_,_,_]) H wn M M (H.hp.dG 1 M M) M ?_;clear H;intro a H;refine s_call afW H wn M (amo _ _ H.ro _ (aBB _) D d hR hs hc) M ?_;clear H;rintro v4 G4 a w ⟨E,rfl,hE⟩ rD H;refine bJ jN 0 (vs:=[_,_,_,_,_,_,_,_,_,_,_]) H wn M ?_;clear H;intro w H;refine K2 _ _ ?_;clear K2;refine eP ?_;refine (leave1 H results15 (.cons (qM jN (cs:=[_,_,_,_,_,_,_,_,_,_,_]) H M M (H.hp.dG 0 M M)) .nil) ?_).1;exact H.rt ⟨E,M,hE⟩
section
section
variable {N:Nat} {D:List Deferred} {w0:World} {F:Nat->Prop} {G0 G G1 G2:GH} {L L1 L2:OL} {T Xs:List (Nat × ah)}
variable {r:Option Nat} {P:Program} {Q:Exit->Act->World->Prop} {l:List Oper} {a a':Act} {w w':World}
end
end
section
theorem vO.mono {acc rej:Int->Bool} {h:dD} {u:ah} {G G':GH} (hm:∀ b o,G b=some o->G' b=some o) (hd:vO acc rej h u G):vO acc rej h u G':=by
 unfold vO at hd |-
 split
 ·rename_i hg
  rw [ay hg] at hd;obtain ⟨p,d,l,e,hh⟩:=hd;exact ⟨p,d,l,e,hh.mono hm⟩
 rename_i hg
 rw [au hg] at hd;obtain ⟨p,d,l,e,hh⟩:=hd;exact ⟨p,d,l,e,hh.mono hm⟩
structure PG (G:GH) (A R:List Int) (va vr:ah):Prop where
 ha:av G (.sl 1 (A.map fun k=>[li k])) va
 hr:av G (.sl 1 (R.map fun k=>[li k])) vr
 la:A.length<=4294967296
 lr:R.length<=4294967296
theorem PG.mono {G G':GH} {A R:List Int} {va vr:ah} (hm:∀ b o,G b=some o->G' b=some o) (h:PG G A R va vr):PG G' A R va vr:=⟨h.ha.mono hm,h.hr.mono hm,h.la,h.lr⟩
variable {A R:List Int} {aA rA:Option Addr} {an ac rn rc:Nat}
end

theorem Now.up {α:Type} {xs:List AP} {P:α->AP} {J:Nat->GH->OL->Prop} {je j:Nat} {A:List α} {g g':GH} {L:OL} (h:Now xs P J je j A g L) (tT:ET J) (hm:∀ b o,g b=some o->g' b=some o):Now xs P J je j A g' L:=⟨tT _ _ _ _ hm h.now,h.rem,h.len⟩



def Es (l:List ak):List Int:=l.flatMap fun x=>List.replicate (n1 x) x.kind
theorem Zj:∀ l:List ak,(Es l).length<=bq l
 | []=>dS _
 | x :: l=>by
  have:=Zj l;have h2:=azr x
  simp only [Es,List.flatMap_cons,gF,List.length_replicate,bq,dO,dM] at *;omega
theorem ayG (l m:List ak):Es (l++m)=Es l++Es m:=by simp [Es]
theorem ayH (x:ak):Es [x]=List.replicate (n1 x) x.kind:=by simp [Es]
theorem aD8 (l m:List ak):bq (l++m)=bq l+bq m:=by simp [bq,Dp]

def agA (t:Int) (a:Nat × ak):Bool:=decide ((a.1:Int)+jo a.2<=t)
def lA (t:Int) (A:List (Nat × ak)):List ak:=(A.filter (agA t)).map (·.2)
def rA (t:Int) (A:List (Nat × ak)):List ak:=(A.filter fun a=>!agA t a).map (·.2)
def abu (l:List ak):Prop:=∀ (k:Nat) (h:k+1 < l.length),¬ (l[k].kind=1∧l[k+1].kind=1∧l[k].head=l[k+1].head)
theorem abu.one {l:List ak} (h:l.length<=1):abu l:=fun k hk=>by omega


theorem abd:∀ {m l:List ak},m.Sublist l->bq m<=bq l
 | _,_,.slnil=>dS _
 | _,_,.cons a h=>by have:=abd h;simp only [bq,dO,dM] at *;omega
 | _,_,.cons_cons a h=>by have:=abd h;simp only [bq,dO,dM] at *;omega
theorem WZ:aR 95:=aS func95 M
theorem arO:aR 21:=aS func21 M
abbrev DI (b:Nat) (n:Int):Nat × Obj:=(b,.cells #[vi n] 3 (0,0))
def SmQ (bl:Nat) (left:Int) (z:Nat) (u:ah) (_:GH) (L':OL):Prop:=∃ b lf,u=.bool b∧L'=[DI bl lf]∧left - (z:Int)<=lf∧lf<=left
def UW (n:Nat):Prop:=∀ (G:GH) (w0:World) (l:List ak) (v:ah) (LZ left:Int) (bl:Nat),gq G [DI bl left] w0->av G (.sl 11 (l.map ak.dat)) v->bq l < n->0<=LZ->LZ<=1000->left<=1000->-1000000000000<=left - (bq l:Int) ->
 Calls prog 95 #[v,vi LZ,(aH bl 0)] w0 (fM w0 G [DI bl left] (SmQ bl left (bq l)))
theorem amD (l m:List aO):fQ (l++m)=fQ l+fQ m:=by simp [fQ,Dp]
theorem amy (l m:List aQ):gH (l++m)=gH l+gH m:=by simp [gH,Dp]
theorem aD9 {l:List ak} {k:Nat} (h:k < l.length):bq (l.take (k+1))=bq (l.take k)+(1+bX l[k].dat):=by rw [jK h,aD8];simp [bq,dM]
theorem aEa {l:List aO} {k:Nat} (h:k < l.length):fQ (l.take (k+1))=fQ (l.take k)+(1+bX l[k].dat):=by rw [jK h,amD];simp [fQ,dM]
theorem aD7 {l:List aQ} {k:Nat} (h:k < l.length):gH (l.take (k+1))=gH (l.take k)+(1+bX l[k].dat):=by rw [jK h,amy];simp [gH,dM]
theorem amC (l:List ak) (k:Nat):bq (l.take k)<=bq l:=abd (List.take_sublist k l)
theorem amF (l:List aO) (k:Nat):fQ (l.take k)<=fQ l:=by
 have:=amD (l.take k) (l.drop k);rw [List.take_append_drop] at this;omega
theorem amB (l:List aQ) (k:Nat):gH (l.take k)<=gH l:=by
 have:=amy (l.take k) (l.drop k);rw [List.take_append_drop] at this;omega
set_option maxHeartbeats 4000000 in
theorem aCS {n:Nat} (ih:UW n) (hn:n<=4294967296):UW (n+1):=by
 intro G w0 l v LZ left bl hO hv hz hl0 hl1 hf1 hf0;obtain ⟨A,c,rfl,hc1,hc2,hg⟩:=hv.slice;rw [bK] at *;have hll:=Dw l;refine jc (N:=133) (T:=[(0,_),(1,_),(2,_)]) func95 M ntmps95 M M hO ?_;intro a H;refine kP H (SR fun _ K1=>aj K1 M (SQ fun _ K2=>SR fun _ K3=>aj K3 M (SB ?_)));clear H K1 K3;intro a H;skip;refine fD (ι:=Nat × Int × GH) (Tc:=[(0,_),(1,_),(2,_)]) (Lc:=[]) (fun gh=>[(7,vi gh.1)]) (fun gh=>[DI bl gh.2.1]) (fun gh=>gh.2.2) (fun gh=>gh.1<=l.length∧left - (bq (l.take gh.1):Int)<=gh.2.1∧gh.2.1<=left∧(∀ b o,G b=some o->gh.2.2 b=some o)) (fun gh=>l.length - gh.1) ((0,left,G)) (by exact H.sub ⟨M,M,M,M,aC⟩) ?_ ?_
 ·exact ⟨O,by show left - ((0:Nat):Int)<=left;omega,Int.le_refl _,fun _ _ h=>h⟩
 clear H;rintro ⟨k,lf,g⟩ a w hI H;dsimp only at hI H;obtain ⟨hk,hlo,hhi,hgm⟩:=hI;have hzk:=amC l k;dsimp only [lca,bM] at H;refine kP H (SQ fun _ K4=>SR fun _ K5=>Rm M (Rm M (Rl iB M (Rc M (Kz K5 (Cd M ?_ ?_)))))) <;> clear H K5
 ·intro ig a H
  try have sZ:=dT ig
  have hk2:k < l.length:=by omega
  obtain ⟨b,o,pA,pn,pc,dA,dn,dc,yA,yn,yc,fA,fn,fc,rA,rn,rc,rfl,hrow,hhd,hfl,hrw⟩:=DV hk2 hg;have hrn:=hrw.len;rw [bK] at hrn;subst hrn;have r3:aI g b (o+k*11+3)=some (.string l[k].text):=aG hgm (hrow 3 _ M);have r4:aI g b (o+k*11+4+0)=some (.slice pA pn pc):=aG hgm (hrow 4 _ M);have r9:aI g b (o+k*11+9)=some (.slice fA fn fc):=aG hgm (hrow 9 _ M);have Z8:aI g b (o+k*11+10)=some (.slice rA l[k].rows.length rc):=aG hgm (hrow 10 _ M);have hzi:=uP l[k];have hzs:=aD9 hk2;have hzt:=amC l (k+1);refine kP H (Kc K4 (SQ fun _ K6=>SB (SR fun _ K7=>Rm M (Rk M (Ro aF 0 M (Rs M (Rk M ?_)))))));clear H K4;intro a H;refine bJ aF 0 (vs:=[_]) H wn M ?_;clear H;intro w H;refine K7 _ _ ?_;clear K7;refine kP H (SQ fun _ K8=>SR fun _ K9=>Rm M (Rk M (Ro aF 0 M (Rc M (Rm M (Sp 25 M ?_ ?_)))))) <;> clear H
  ·intro iR a H
   try have p25:=dT iR
   refine kH H (aU iR M (Pt iR M (Rm M (bH M M (aU M M (aU M M (Pt M M (Rm M (bH M M (bH M M (aU M M (Pt M M (Rm M (bH M M (aU M M (aU M M (Pt M M (Rm M (bH M M (bH M M (aU M M (aU M M ?_))))))))))))))))))))));clear H;intro a H;exact kH H (Pt M M (Kz K9 (Ct M M (SR fun _ aT=>aj aT M (LR results95 M fun H=>H.hp.gQ ⟨_,_,M,M,O,O⟩)))))
  intro iR a H
  try have p25:=dF iR
  refine kH H (YM iR M (YC iR M (Pf iR M (Rm M (Sp 29 M ?_ ?_))))) <;> clear H
  ·intro iE a H
   try have p29:=dT iE
   refine kH H (bH iE M (aU iE M (aU iE M (Pt iE M (Rm M (bH M M (bH M M (aU M M (Pt M M (Rm M (bH M M (aU M M (aU M M (Pt M M (Rm M (bH M M (bH M M (aU M M (aU M M (Pt M M (Kz K9 ?_)))))))))))))))))))));clear H K9;intro a H;refine Cq H M M ?_;exact kP H (SR fun _ bR=>aj bR M (LR results95 M fun H=>H.hp.gQ ⟨_,_,M,M,O,O⟩))
  intro iE a H
  try have p29:=dF iE
  refine kH H (YM iE M (YM iE M (YI iB eZ iE M M (YF wh iE M (YR jf iE M (by assumption) ?_)))));clear H;intro a H;refine Gq iW H (wg H M M iE) M M ?_;clear H;intro a H;refine kH H (YC iE M (Pf iE M (Rm M (Sp 38 M ?_ ?_)))) <;> clear H
  ·intro qj a H
   try have p38:=dT qj
   exact kH H (bH qj M (bH qj M (aU qj M (Pt qj M (Rm M (bH M M (aU M M (aU M M (Pt M M (Rm M (bH M M (bH M M (aU M M (aU M M (Pt M M (Kz K9 (Ct M M (SR fun _ cu=>aj cu M (LR results95 M fun H=>H.hp.gQ ⟨_,_,M,M,O,O⟩)))))))))))))))))))
  intro qj a H
  try have p38:=dF qj
  refine kH H (YM qj M (YM qj M (YI iB eZ qj M M (YF wU qj M (YF zk qj M (YR vK qj M (by assumption) ?_))))));clear H;intro a H;refine kH H (YL iw qj M (YC qj M (Pf qj M (Rm M (Sp 48 M ?_ ?_))))) <;> clear H
  ·intro h48 a H
   try have p48:=dT h48
   exact kH H (bH h48 M (aU h48 M (aU h48 M (Pt h48 M (Rm M (bH M M (bH M M (aU M M (aU M M (Pt M M (Kz K9 (Ct M M (SR fun _ dw=>aj dw M (LR results95 M fun H=>H.hp.gQ ⟨_,_,M,M,O,O⟩))))))))))))))
  intro h48 a H
  try have p48:=dF h48
  refine kH H (YM h48 M (YM h48 M (YI iB eZ h48 M M (YF qd h48 M (YR qw h48 M (by assumption) ?_)))));clear H;intro a H;refine kH H (YL mR h48 M (YC h48 M (Pf h48 M (Rm M (Sp 57 M ?_ ?_))))) <;> clear H
  ·intro h57 a H
   try have p57:=dT h57
   exact kH H (bH h57 M (bH h57 M (aU h57 M (aU h57 M (Pt h57 M (Kz K9 (Ct M M (SR fun _ dB=>aj dB M (LR results95 M fun H=>H.hp.gQ ⟨_,_,M,M,O,O⟩)))))))))
  intro h57 a H
  try have p57:=dF h57
  refine kH H (YM h57 M (YM h57 M (YI iB eZ h57 M M (YF Af h57 M (YR jy h57 M (by assumption) ?_)))));clear H;intro a H;refine kH H (YM h57 M ?_);clear H;intro a H;refine Dj _ H (wg H M M h57) M M M O O M ?_;clear H;intro a H;refine kH H (YM h57 M ?_);clear H;intro a H;refine gW WZ (Li:=[]) (L:=[DI bl _]) H (wg H M M h57) M (ih _ _ l[k].flow _ (LZ - 1) _ bl (Hp.owns (Li:=[]) H.hp) (hfl.mono hgm) O O O O O) M ?_;clear H;rintro v66 G66 L66 a w ⟨b66,lf66,rfl,rfl,aFe,aE8⟩ ahQ H;dsimp only [List.nil_append] at H;replace Z8:=aG ahQ Z8;have awl:=fun b o h=>ahQ b o (hgm b o h);refine kH H (YN h57 M (Pf h57 M (Kz K9 (Cd M ?_ ?_)))) <;> clear H K9
  ·intro h68 a H
   try have p68:=dT h68
   exact kP H (SR fun _ dX=>aj dX M (LR results95 M fun H=>H.hp.gQ ⟨_,_,M,M,O,O⟩))
  intro h68 a H
  try have p68:=dF h68
  refine kP H (Kc K8 (SR fun _ eu=>aj eu M (SB ?_)));clear H K8 eu;intro a H;skip;refine fD (ι:=Nat × Int × GH) (Tc:=[(0,_),(1,_),(2,_),(7,_)]) (Lc:=[]) (fun gh=>[(8,vi gh.1)]) (fun gh=>[DI bl gh.2.1]) (fun gh=>gh.2.2) (fun gh=>gh.1<=l[k].rows.length∧lf66 - (fQ (l[k].rows.take gh.1):Int)<=gh.2.1∧gh.2.1<=lf66∧(∀ b o,G b=some o->gh.2.2 b=some o)∧aI gh.2.2 b (o+k*11+10)=some (.slice rA l[k].rows.length rc)) (fun gh=>l[k].rows.length - gh.1) ((0,lf66,G66)) (by exact H.sub ⟨M,M,M,M,M,aC⟩) ?_ ?_
  ·exact ⟨O,by show lf66 - ((0:Nat):Int)<=lf66;omega,Int.le_refl _,awl,Z8⟩
  clear H;rintro ⟨j,lf2,g2⟩ a w hI H;dsimp only at hI H;obtain ⟨hj,hlo2,hhi2,jW,q10⟩:=hI;have aFx:=amF l[k].rows j;dsimp only [lca,bM] at H;refine kP H (SQ fun _ dN=>SR fun _ eO=>Rm M (Rm M (Rm M (Ri iB eZ M M (Rf qd M (Rg qw M (by assumption) ?_))))));clear H;intro a H;refine kH H (Rl mR M (Rc M (Kz eO (Cd M ?_ ?_)))) <;> clear H eO
  ·intro D7 a H
   try have ZX:=dT D7
   have hj2:j < l[k].rows.length:=by omega
   obtain ⟨b2,o2,uA,un,uc,eA,en,ec,zA,zn,zc,cA,cn,cc,rfl,hrow2,FR,hcl⟩:=OW hj2 (hrw.mono jW).at_;have hcn:=hcl.len;rw [bK] at hcn;subst hcn;have t5:aI g2 b2 (o2+j*6+5)=some (.slice cA l[k].rows[j].cells.length cc):=hrow2 5 _ M;have aFv:=zP l[k].rows[j];have aFz:=aEa hj2;have aFB:=amF l[k].rows (j+1);refine kP H (Kc dN (SQ fun _ gD=>SB (SQ fun _ fF=>SR fun _ gK=>Rm M (Rm M (Ri iB eZ M M (Rf qd M (Rg qw M (by assumption) ?_)))))));clear H dN;intro a H;refine kH H (Rm M (Ri mR jO M M (Rf wm M (Rg wL M (by assumption) ?_))));clear H;intro a H;refine kH H (Rl oK M (Rc M (Kz gK (Cd M ?_ ?_)))) <;> clear H gK
   ·intro XO a H
    try have p89:=dT XO
    exact kP H (SR fun _ jg=>aj jg M (LR results95 M fun H=>H.hp.gQ ⟨_,_,M,M,O,O⟩))
   intro XO a H
   try have p89:=dF XO
   refine kP H (Kc fF (SR fun _ kX=>aj kX M (SB ?_)));clear H fF kX;intro a H;skip;refine fD (ι:=Nat × Int × GH) (Tc:=[(0,_),(1,_),(2,_),(7,_),(8,_)]) (Lc:=[]) (fun gh=>[(9,vi gh.1)]) (fun gh=>[DI bl gh.2.1]) (fun gh=>gh.2.2) (fun gh=>gh.1<=l[k].rows[j].cells.length∧lf2 - (gH (l[k].rows[j].cells.take gh.1):Int)<=gh.2.1∧gh.2.1<=lf2∧(∀ b o,G b=some o->gh.2.2 b=some o)∧aI gh.2.2 b (o+k*11+10)=some (.slice (some ⟨b2,o2,none⟩) l[k].rows.length rc)∧aI gh.2.2 b2 (o2+j*6+5)=some (.slice cA l[k].rows[j].cells.length cc)∧(∀ b o,g2 b=some o->gh.2.2 b=some o)) (fun gh=>l[k].rows[j].cells.length - gh.1) ((0,lf2,g2)) (by exact H.sub ⟨M,M,M,M,M,M,aC⟩) ?_ ?_
   ·exact ⟨O,by show lf2 - ((0:Nat):Int)<=lf2;omega,Int.le_refl _,jW,q10,t5,fun _ _ h=>h⟩
   clear H;rintro ⟨m,lf3,g3⟩ a w hI H;dsimp only at hI H;obtain ⟨hm,hlo3,hhi3,rC,s10,s5,ahH⟩:=hI;have aFy:=amB l[k].rows[j].cells m;dsimp only [lca,bM] at H;refine kP H (SQ fun _ kQ=>SR fun _ jP=>Rm M (Rm M (Rm M (Ri iB eZ M M (Rf qd M (Rg qw M (by assumption) ?_))))));clear H;intro a H;refine kH H (Rm M (Ri mR jO M M (Rf wm M (Rg wL M (by assumption) ?_))));clear H;intro a H;refine kH H (Rl oK M (Rc M (Kz jP (Cd M ?_ ?_)))) <;> clear H jP
   ·intro XC a H
    try have aAi:=dT XC
    have hm2:m < l[k].rows[j].cells.length:=by omega
    obtain ⟨b3,o3,x1,x2,x3,x4,x5,x6,x7,x8,x9,gA,gn,gc,rfl,hrow3,hch,hcf⟩:=Ky hm2 (hcl.mono ahH).at_;have u6:aI g3 b3 (o3+m*7+6)=some (.slice gA gn gc):=hrow3 6 _ M;have aFw:=zO l[k].rows[j].cells[m];have aFA:=aD7 hm2;have aFC:=amB l[k].rows[j].cells (m+1);refine kP H (Kc kQ (SQ fun _ mE=>SB (SR fun _ mF=>Rm M (Rk M (Ro aF 0 M (Rs M (Rk M ?_)))))));clear H kQ;intro a H;refine bJ aF 0 (vs:=[_]) H wn M ?_;clear H;intro w H;refine mF _ _ ?_;clear mF;refine kP H (SR fun _ jQ=>Rm M (Rk M (Ro aF 0 M (Rc M (Rm M (Sp 113 M ?_ ?_)))))) <;> clear H
    ·intro nN a H
     try have aAk:=dT nN
     exact kH H (bH nN M (bH nN M (bH nN M (bH nN M (bH nN M (bH nN M (Pt nN M (Kz jQ (Ct M M (SR fun _ oM=>aj oM M (LR results95 M fun H=>H.hp.gQ ⟨_,_,M,M,O,O⟩)))))))))))
    intro nN a H
    try have aAk:=dF nN
    refine kH H (YM nN M (YM nN M (YI iB eZ nN M M (YF qd nN M (YR qw nN M (by assumption) ?_)))));clear H;intro a H;refine kH H (YM nN M (YI mR jO nN M M (YF wm nN M (YR wL nN M (by assumption) ?_))));clear H;intro a H;refine kH H (YM nN M (YI oK kL nN M M (YF Ij nN M (YR jy nN M (by assumption) ?_))));clear H;intro a H;refine kH H (YM nN M ?_);clear H;intro a H;refine Dj _ H (wg H M M nN) M M M O O M ?_;clear H;intro a H;refine kH H (YM nN M ?_);clear H;intro a H;refine gW WZ (Li:=[]) (L:=[DI bl _]) H (wg H M M nN) M (ih _ _ l[k].rows[j].cells[m].flow _ (LZ - 1) _ bl (Hp.owns (Li:=[]) H.hp) hcf O O O O O) M ?_;clear H;rintro v130 amO aEu a w ⟨aEz,ayW,rfl,rfl,aFd,aE7⟩ R3 H;dsimp only [List.nil_append] at H;refine kH H (YN nN M (Pf nN M (Kz jQ (Cd M ?_ ?_)))) <;> clear H jQ
    ·intro Fv a H
     try have akd:=dT Fv
     exact kP H (SR fun _ pQ=>aj pQ M (LR results95 M fun H=>H.hp.gQ ⟨_,_,M,M,O,O⟩))
    intro Fv a H
    try have akd:=dF Fv
    refine kP H (Kc mE (SC (Rm M (Rd M (Ra M ?_)))));clear H mE;intro a H;refine aD ?_;refine dQ ((m+1,ayW,amO)) (by exact H.sub ⟨M,M,M,M,M,M,aC⟩) ?_
    (try dsimp only);exact ⟨O,O,O,fun b o h=>R3 b o (rC b o h),aG R3 s10,aG R3 s5,fun b o h=>R3 b o (ahH b o h)⟩
   intro XC a H
   try have aAi:=dF XC
   refine dY ?_;refine gD _ _ ?_;clear gD;refine kP H (SC (Rm M (Rd M (Ra M ?_))));clear H;intro a H;refine aD ?_;refine dQ ((j+1,lf3,g3)) (by exact H.sub ⟨M,M,M,M,M,aC⟩) ?_
   (try dsimp only);exact ⟨O,O,O,rC,s10⟩
  intro D7 a H
  try have ZX:=dF D7
  refine dY ?_;refine K6 _ _ ?_;clear K6;refine kP H (SC (Rm M (Rd M (Ra M ?_))));clear H;intro a H;refine aD ?_;refine dQ ((k+1,lf2,g2)) (by exact H.sub ⟨M,M,M,M,aC⟩) ?_
  (try dsimp only);exact ⟨O,O,O,jW⟩
 intro ig a H
 try have sZ:=dF ig
 refine dY ?_;refine K2 _ _ ?_;clear K2;exact kP H (SR fun _ oN=>aj oN M (LR results95 M fun H=>H.hp.gQ ⟨_,_,M,M,O,O⟩))
theorem alj:∀ n:Nat,n<=4294967296->UW n
 | 0,_=>fun _ _ _ _ _ _ _ _ _ hz=>absurd hz (Nat.not_lt_zero _)
 | n+1,h=>aCS (alj n O) O
theorem aCQ (G:GH) (w0:World) (hG:Hold G w0) (D:kN) (d:gX) (hR:pO G D d) (hz:AA d) :
  Calls prog 45 #[D.val] w0 (bE w0 G fun u G'=>∃ b,u=.bool b∧(b=true->iQ d=0)):=by
 have OD:=hz.fl;refine eN [(0,_)] func45 M ntmps45 M M hG ?_;intro a H;refine cZ (fun _ K1=>?_);refine dZ (cs:=[_,_,_,_,_,_,_,_,_,_,_]) H wn M M M ?_;clear H;intro b1 a w hb1 H;refine kH H (aj K1 M (SQ fun _ K2=>?_));clear H K1;intro a H;obtain ⟨Ga,hma,hb1',H⟩:=H.fU;have hga:=fun j v hj=>wu hb1' 0 D.cells M j v hj;have hgs:=fun j v hj=>wu hb1' 7 [dh D.s1,dh D.s2,dh D.s3,dh D.s4] M j v hj
 have hgr:aI Ga b1 6=some (dh D.r):=by unfold aI;rw [hb1'];rfl
 have hgf:aI Ga b1 0=some (dh D.f):=by unfold aI;rw [hb1'];rfl
 replace hR:=hR.mono hma;refine oQ ?_;refine dW aF H wn M ?_;clear H;intro b3 a w hb3 H;refine bJ aF 0 (vs:=[_]) H wn M ?_;clear H;intro w H;refine kH H (Kn K2 (SR fun _ K3=>Rf NJ M ?_));clear H K2;intro a H;refine bQ BR (cs:=[dh D.s1,dh D.s2,dh D.s3,dh D.s4]) H wn M M (fun j v hj=>H.hp.aI (hgs j v hj)) M ?_;clear H;intro a H;refine dW BR H wn M ?_;clear H;intro b4 a w hb4 H;refine bJ BR 0 (vs:=[_,_,_,_]) H wn M ?_;clear H;intro w H;refine K3 _ _ ?_;clear K3;refine kP H (SR fun _ K4=>bC Xd GA 0 M M (Rl Au M (Rc M (Rm M (Sp 11 M ?_ ?_))))) <;> clear H
 ·intro h11 a H
  try have rJ:=dT h11
  refine kH H (YF KI h11 M (YO uf 0 h11 M (YL nE h11 M (YC h11 M (Pt h11 M (Rm M (Sp 17 M ?_ ?_))))))) <;> clear H
  ·intro fH a H
   try have oI:=dT fH
   refine kH H (YF KJ fH M (YO Dr 0 fH M (YL yK fH M (YC fH M (Pt fH M (Rm M (Sp 23 M ?_ ?_))))))) <;> clear H
   ·intro h23 a H
    try have C9:=dT h23
    refine kH H (YF Xe h23 M (YO zJ 0 h23 M (YL xI h23 M (YC h23 M (Pt h23 M (Rm M (Sp 29 M ?_ ?_))))))) <;> clear H
    ·intro iE a H
     try have p29:=dT iE
     refine kH H (YF Fq iE M (YR zI iE M (by assumption) ?_));clear H;intro a H;refine kH H (YL qP iE M (YC iE M (Pt iE M (Rm M (Sp 35 M ?_ ?_))))) <;> clear H
     ·intro iF a H
      try have p35:=dT iF
      refine kH H (YF vZ iF M (YR jy iF M (by assumption) ?_));clear H;intro a H;refine gW WZ (Li:=[_]) (L:=[DI b3 150]) H (wg H M M iF) M (alj 4294967296 (dS _) _ _ d.flow _ 12 150 b3 (Hp.owns (Li:=[_]) H.hp) hR.fl O Z Z Z O) M ?_;clear H;rintro v38 UA L38 a w ⟨b38,lf38,rfl,rfl,-,-⟩ Le H;refine kH H (Pt iF M (Rm M (Sp 40 M ?_ ?_))) <;> clear H
      ·intro lT a H
       try have p40:=dT lT
       refine bQ jN (cs:=D.cells) H (wg H M M lT) M M (fun j v hj=>H.hp.aI (aG Le (hga j v hj))) M ?_;clear H;intro a H;refine s_call arO H (wg H M M lT) M (aoZ _ _ H.ro D d (hR.mono Le) hz) M ?_;clear H;rintro v42 G42 a w rfl aFg H;exact kH H (YC lT M (Pt lT M (aj K4 M (LR results45 M fun H=>H.rt ⟨_,M,fun h=>by first|assumption|(simp_all;done)⟩))))
      intro lT a H
      try have p40:=dF lT
      exact kH H (bH lT M (Pf lT M (aj K4 M (LR results45 M fun H=>H.rt ⟨_,M,fun h=>by first|assumption|(simp_all;done)⟩))))
     intro iF a H
     try have p35:=dF iF
     exact kH H (bH iF M (Pf iF M (Rm M (bH M M (Pf M M (aj K4 M (LR results45 M fun H=>H.rt ⟨_,M,fun h=>by first|assumption|(simp_all;done)⟩)))))))
    intro iE a H
    try have p29:=dF iE
    exact kH H (aU iE M (aU iE M (Pf iE M (Rm M (bH M M (Pf M M (Rm M (bH M M (Pf M M (aj K4 M (LR results45 M fun H=>H.rt ⟨_,M,fun h=>by first|assumption|(simp_all;done)⟩)))))))))))
   intro h23 a H
   try have C9:=dF h23
   exact kH H (aU h23 M (aU h23 M (Pf h23 M (Rm M (aU M M (aU M M (Pf M M (Rm M (bH M M (Pf M M (Rm M (bH M M (Pf M M (aj K4 M (LR results45 M fun H=>H.rt ⟨_,M,fun h=>by first|assumption|(simp_all;done)⟩)))))))))))))))
  intro fH a H
  try have oI:=dF fH
  exact kH H (aU fH M (aU fH M (Pf fH M (Rm M (aU M M (aU M M (Pf M M (Rm M (aU M M (aU M M (Pf M M (Rm M (bH M M (Pf M M (Rm M (bH M M (Pf M M (aj K4 M (LR results45 M fun H=>H.rt ⟨_,M,fun h=>by first|assumption|(simp_all;done)⟩)))))))))))))))))))
 intro h11 a H
 try have rJ:=dF h11
 exact kH H (aU h11 M (aU h11 M (Pf h11 M (Rm M (aU M M (aU M M (Pf M M (Rm M (aU M M (aU M M (Pf M M (Rm M (aU M M (aU M M (Pf M M (Rm M (bH M M (Pf M M (Rm M (bH M M (Pf M M (aj K4 M (LR results45 M fun H=>H.rt ⟨_,M,fun h=>by first|assumption|(simp_all;done)⟩)))))))))))))))))))))))
theorem aaz:qV prog 68 [(0,1),(1,1),(2,1),(3,1),(4,5),(9,1),(10,1)] [.int .i64 0,.int .i64 0,.int .i64 0,.string ⟨#[]⟩,.slice none 0 0,.int .i64 0,.int .i64 0,.slice none 0 0,.slice none 0 0,.slice none 0 0,.slice none 0 0]:=⟨V,V⟩
theorem aC1:qV prog 159 [(0,1),(1,1)] [.int .i64 0,.int .i64 0]:=⟨V,V⟩
theorem aCY:qV prog 102 [(0,1),(1,1),(2,1)] [.int .i64 0,.string ⟨#[]⟩,.int .i64 0]:=⟨V,V⟩
theorem afV:aR 44:=aS func44 M
theorem aqT:aR 14:=aS func14 M
theorem WJ:aR 15:=aS func15 M
theorem asF:aR 45:=aS func45 M
def Ay (k:Int) (t:ByteArray) (i:Int) (ds:List gT):ak:=.mk k 0 0 t ⟨[],⟨i,0,ds,[]⟩⟩ [] []
def wT:gX:=⟨[Ay 1 ⟨#[97,98]⟩ 0 [],Ay 1 ⟨#[99,100]⟩ 3 [],Ay 1 ⟨#[101]⟩ 0 [⟨5,0⟩],Ay 2 ⟨#[]⟩ 0 []],Dx,[⟨3,⟨#[65,110]⟩,0⟩,⟨5,⟨#[66,111]⟩,0⟩],⟨[],[],[],[]⟩⟩
theorem o24:(nD (kK (fun _=>false) (fun _=>true) wT)).flow.length=2:=by kernel_rfl
theorem azX:((nD (kK (fun _=>false) (fun _=>true) wT)).flow.map ak.text).head?=some ⟨#[97,98,101]⟩:=by kernel_rfl
theorem azW:(nD (kK (fun _=>false) (fun _=>true) wT)).revs.length=0:=by kernel_rfl
theorem f24:(nD (kK (fun _=>true) (fun _=>false) wT)).flow.length=2:=by kernel_rfl
theorem atr:((nD (kK (fun _=>true) (fun _=>false) wT)).flow.map ak.text).head?=some ⟨#[97,98,99,100]⟩:=by kernel_rfl
theorem atq:(nD (kK (fun _=>true) (fun _=>false) wT)).revs.length=0:=by kernel_rfl
theorem z24:bq wT.flow<=1000:=by decide
theorem c24:iQ wT=0:=by kernel_rfl
theorem s24:yL 536870912 wT:=by
 have h:=z24
 have h0:nH Dx<=1000:=by decide
 refine ⟨⟨O,by show nH Dx<=_;omega,Z,fun x hx=>?_,Z,⟨fun _ h=>(by cases h),Z,fun _ h=>(by cases h),Z,fun _ h=>(by cases h),Z,fun _ h=>(by cases h),fun _ h=>(by cases h),fun _ h=>(by cases h)⟩⟩,O,by show nH Dx<=_;omega⟩
 simp only [wT,gu,List.not_mem_nil,or_false] at hx
 rcases hx with rfl|rfl <;> decide
theorem awh {F:List ak} {t:ByteArray} (h:(F.map ak.text).head?=some t) (h0:0 < F.length):F[0].text=t:=by
 cases F with
 | nil=>exact absurd h0 Z
 | cons x F=>simpa using h
set_option maxHeartbeats 2000000 in
theorem agf (G:GH) (w0:World) (hG:Hold G w0) :
  Calls prog 44 #[] w0 (bE w0 G fun u G'=>∃ D:kN,u=D.val∧pO G' D wT):=by
 refine eN [] func44 M ntmps44 M M hG ?_;intro a H;refine cZ (fun _ K1=>?_);refine dW jN H wn M ?_;clear H;intro b0 a w hb0 H;refine K1 _ _ ?_;clear K1;refine cZ (fun _ K2=>?_);refine jM aaz [_,_,_,_,_,_,_,_,_,_,_] H wn M M M M ?_;clear H;intro a H;refine jM aay [_,_,_,_] H wn M M M M ?_;clear H;intro a H;refine jM Mx [_,_,_,_,_] H wn M M M M ?_;clear H;intro a H;refine jM aaz [_,_,_,_,_,_,_,_,_,_,_] H wn M M M M ?_;clear H;intro a H;refine jM aC1 [_,_] H wn M M M M ?_;clear H;intro a H;refine iV mQ oJ [_,_] [_,_] H wn M M M M M (by intro i q h;match i,h with|0,h=>exact h|n+1,h=>simp at h) M M ?_;clear H;intro b6 a w hb6 H;refine jM aay [_,_,_,_] H wn M M M M ?_;clear H;intro a H;refine jM Mx [_,_,_,_,_] H wn M M M M ?_;clear H;intro a H;(iterate 2 refine jM aaz [_,_,_,_,_,_,_,_,_,_,_] H wn M M M M ?_;clear H;intro a H);refine iV iB eZ [_,_,_,_,_,_,_,_,_,_,_,_,_,_,_,_,_,_,_,_,_,_,_,_,_,_,_,_,_,_,_,_,_,_,_,_,_,_,_,_,_,_,_,_] [_,_,_,_,_,_,_,_,_,_,_,_,_,_,_,_,_,_,_,_,_,_,_,_,_,_,_,_,_,_,_,_,_,_,_,_,_,_,_,_,_,_,_,_] H wn M M M M M (by intro i q h;match i,h with|0,h=>exact h|1,h=>exact h|2,h=>exact h|3,h=>exact h|n+4,h=>simp at h) M M ?_;clear H;intro b11 a w KV H;(iterate 2 refine jM aCY [_,_,_] H wn M M M M ?_;clear H;intro a H);refine iV qP qp [_,_,_,_,_,_] [_,_,_,_,_,_] H wn M M M M M (by intro i q h;match i,h with|0,h=>exact h|1,h=>exact h|n+2,h=>simp at h) M M ?_;clear H;intro b14 a w XZ H;refine jM als [_,_,_,_,_,_,_,_,_,_,_] H wn M M M M ?_;clear H;intro a H;refine bJ jN 3 (vs:=[_,_,_,_,_,_,_,_,_,_,_]) H wn M ?_;clear H;intro w H;refine K2 _ _ ?_;clear K2;refine eP ?_;refine (leave1 H results44 (.cons (qM jN (cs:=[_,_,_,_,_,_,_,_,_,_,_]) H M M (H.hp.dG 3 M M)) .nil) ?_).1;have H:=H.eD (Pl:=[_,_,_,_]) (dK:=[_,_,_]) [2,1,0] Z M;obtain ⟨G1,hm1,X6,H⟩:=H.fU;obtain ⟨G2,hm2,FD,H⟩:=H.fU;obtain ⟨G3,zw,X4,H⟩:=H.fU;have nl:∀ {sz:Nat},av G2 (.sl sz []) (.slice none 0 0):=fun {sz}=>av.uM M Z;have Jo:∀ {sz:Nat},av G3 (.sl sz []) (.slice none 0 0):=fun {sz}=>av.uM M Z;have d1:av G2 (.sl 2 ([(⟨5,0⟩:gT)].map gT.dat)) (.slice (some ⟨b6,0,none⟩) 1 1):=av.wI (n:=1) (cap:=1) (hm2 _ _ X6) M (dS _) (show 1<=maxLen by decide) rfl (dx.nil.snoc (afh G2 ⟨5,0⟩) rfl);have r1:aX G2 (Ay 1 ⟨#[97,98]⟩ 0 []).dat _:=aX.mkItem (x:=Ay 1 ⟨#[97,98]⟩ 0 []) ⟨nl,nl,nl⟩ nl nl;have r2:aX G2 (Ay 1 ⟨#[99,100]⟩ 3 []).dat _:=aX.mkItem (x:=Ay 1 ⟨#[99,100]⟩ 3 []) ⟨nl,nl,nl⟩ nl nl;have r3:aX G2 (Ay 1 ⟨#[101]⟩ 0 [⟨5,0⟩]).dat _:=aX.mkItem (x:=Ay 1 ⟨#[101]⟩ 0 [⟨5,0⟩]) ⟨nl,d1,nl⟩ nl nl;have r4:aX G2 (Ay 2 ⟨#[]⟩ 0 []).dat _:=aX.mkItem (x:=Ay 2 ⟨#[]⟩ 0 []) ⟨nl,nl,nl⟩ nl nl;have fu:dx G2 11 (wT.flow.map ak.dat) _:=(((dx.nil.snoc r1 M).snoc r2 M).snoc r3 M).snoc r4 M;have hcr:dx G3 3 (wT.revs.map cB.dat) _:=(dx.nil.snoc (OY G3 ⟨3,⟨#[65,110]⟩,0⟩) M).snoc (OY G3 ⟨5,⟨#[66,111]⟩,0⟩) M;exact H.rt ⟨⟨(some ⟨b11,0,none⟩,4,4),(none,0,0),(none,0,0),(none,0,0),(some ⟨b14,0,none⟩,2,2),(none,0,0),(none,0,0),(none,0,0),(none,0,0),0,0⟩,M,⟨(av.wI (n:=4) (cap:=4) FD M (dS _) (show 4<=maxLen by decide) rfl fu).mono zw,⟨Jo,Jo,Jo⟩,rfl,rfl,av.wI (n:=2) (cap:=2) X4 M (dS _) (show 2<=maxLen by decide) rfl hcr,⟨Jo,Jo,Jo,Jo⟩⟩⟩
theorem afm {G:GH} {E:kN} {e:gX} {t:ByteArray} (hE:pO G E e) (h2:e.flow.length=2) (ht:(e.flow.map ak.text).head?=some t) (hr:e.revs.length=0) :
  ∃ b o fc rA rc,E.f=(some ⟨b,o,none⟩,2,fc)∧E.r=(rA,0,rc)∧aI G b (o+0*11+3)=some (.string t):=by
 obtain ⟨⟨fA,fn,fc⟩,_,_,_,⟨rA,rn,rc⟩,_,_,_,_,_,_⟩:=E;have hf:=hE.fl;have hv:=hE.rv;dsimp only [dh] at hf hv;have n1:=hf.len;have n2:=hv.len;rw [bK] at n1 n2;obtain ⟨A,c,e4,-,-,hg⟩:=hf.slice;rw [bK] at e4
 injection e4 with e4 e5 e6
 subst e4;obtain ⟨b,o,_,_,_,_,_,_,_,_,_,_,_,_,_,_,_,rfl,hrow,-⟩:=DV (show 0 < e.flow.length by omega) hg;have h3:=hrow 3 _ M;rw [awh ht] at h3;exact ⟨b,o,fc,rA,rc,by rw [n1,h2],by rw [n2,hr],h3⟩
theorem M7 {p:Prop} (h:p:=by
 first
  | exact H.rt M
  | (exfalso;simp_all;done)
  | (exfalso;simp_all;omega)):p:=h
set_option maxHeartbeats 1000000 in
theorem Zm (G:GH) (w0:World) (hG:Hold G w0):Calls prog 12 #[] w0 (bE w0 G fun u G'=>u=.bool true):=by
 refine eN [] func12 M ntmps12 M M hG ?_;intro a H;refine kP H (SR fun _ K1=>aj K1 M (SR fun _ K2=>?_));clear H K1;intro a H;refine s_call afV H wn M (agf _ _ H.ro) M ?_;clear H;rintro v3 G3 a w ⟨D3,rfl,hD3⟩ zw H;refine s_call aqT H wn M (aA4 _ _ H.ro D3 wT hD3 s24 c24) M ?_;clear H;rintro v4 G4 a w ⟨E,rfl,hE⟩ rD H;obtain ⟨b4,o4,fc,rA,rc,e1,e2,Bv⟩:=afm hE o24 azX azW;obtain ⟨_,_,_,_,_,_,_,_,_,_,_⟩:=E;dsimp only at e1 e2;subst e1 e2
 simp only [kN.val,kN.cells,dh] at H
 refine dW jN H wn M ?_;clear H;intro b1 a w hb1 H;refine bJ jN 0 (vs:=[_,_,_,_,_,_,_,_,_,_,_]) H wn M ?_;clear H;intro w H;refine K2 _ _ ?_;clear K2;refine cZ (fun _ K3=>?_);refine s_call afV H wn M (agf _ _ H.ro) M ?_;clear H;rintro v5 G5 a w ⟨D5,rfl,hD5⟩ yh H;refine s_call WJ H wn M (Z9 _ _ H.ro D5 wT hD5 s24 c24) M ?_;clear H;rintro v6 G6 a w ⟨E6,rfl,hE6⟩ Eo H;obtain ⟨b6,o6,gc,sA,sc,e3,e4,ht6⟩:=afm hE6 f24 atr atq;obtain ⟨_,_,_,_,_,_,_,_,_,_,_⟩:=E6;dsimp only at e3 e4;subst e3 e4
 simp only [kN.val,kN.cells,dh] at H
 replace Bv:=aG (fun b o h=>Eo b o (yh b o h)) Bv;refine dW jN H wn M ?_;clear H;intro b2 a w hb2 H;refine bJ jN 0 (vs:=[_,_,_,_,_,_,_,_,_,_,_]) H wn M ?_;clear H;intro w H;refine K3 _ _ ?_;clear K3;refine kP H (SR fun _ K4=>bC vZ jy 1 M M (Rl iB M (Rc M (Rm M (Sp 11 M ?_ ?_))))) <;> clear H
 ·intro h11 a H
  try have rJ:=dT h11
  refine kH H (YF vZ h11 M (YO jy 1 h11 M ?_));clear H;intro a H;refine yG iB eZ 0 H (wg H M M h11) M M M Z M ?_;clear H;intro a H;refine kH H (YF wh h11 M (YR jf h11 M Bv ?_));clear H;intro a H;refine Gp H (wg H M M h11) M M M ?_;clear H;intro a H;refine kH H (Pt h11 M (Rm M (Sp 19 M ?_ ?_))) <;> clear H
  ·intro h19 a H
   try have tX:=dT h19
   refine kH H (YF vZ h19 M (YO jy 0 h19 M (YL iB h19 M (YC h19 M (Pt h19 M (Rm M (Sp 25 M ?_ ?_))))))) <;> clear H
   ·intro iR a H
    try have p25:=dT iR
    refine kH H (YF vZ iR M (YO jy 0 iR M ?_));clear H;intro a H;refine yG iB eZ 0 H (wg H M M iR) M M M Z M ?_;clear H;intro a H;refine kH H (YF wh iR M (YR jf iR M ht6 ?_));clear H;intro a H;refine Gp H (wg H M M iR) M M M ?_;clear H;intro a H;refine kH H (Pt iR M (Rm M (Sp 33 M ?_ ?_))) <;> clear H
    ·intro uz a H
     try have p33:=dT uz
     refine kH H (YF Fq uz M (YO zI 1 uz M (YL qP uz M (YF Fq uz M (YO zI 0 uz M (YL qP uz M ?_))))));clear H;intro a H;refine O1 _ H (wg H M M uz) M M M O O M ?_;clear H;intro a H;refine kH H (YC uz M (Pt uz M (aj K4 M ?_)));clear H K4;intro a H;refine lr H results12 M ?_
     exact M7
    intro uz a H
    try have p33:=dF uz
    refine kH H (bH uz M (bH uz M (aU uz M (Pf uz M (aj K4 M ?_)))));clear H K4;intro a H;refine lr H results12 M ?_
    exact M7
   intro iR a H
   try have p25:=dF iR
   refine kH H (bH iR M (bH iR M (Pf iR M (Rm M (bH M M (bH M M (aU M M (Pf M M (aj K4 M ?_)))))))));clear H K4;intro a H;refine lr H results12 M ?_
   exact M7
  intro h19 a H
  try have tX:=dF h19
  refine kH H (aU h19 M (aU h19 M (Pf h19 M (Rm M (bH M M (bH M M (Pf M M (Rm M (bH M M (bH M M (aU M M (Pf M M (aj K4 M ?_)))))))))))));clear H K4;intro a H;refine lr H results12 M ?_
  exact M7
 intro h11 a H
 try have rJ:=dF h11
 refine kH H (bH h11 M (bH h11 M (Pf h11 M (Rm M (aU M M (aU M M (Pf M M (Rm M (bH M M (bH M M (Pf M M (Rm M (bH M M (bH M M (aU M M (Pf M M (aj K4 M ?_)))))))))))))))));clear H K4;intro a H;refine lr H results12 M ?_
 exact M7
theorem Vk {p:Prop} (h:p:=by
 first
  | exact H.rt ⟨_,M,fun h=>⟨ahu h,O,O⟩⟩
  | exact H.rt ⟨_,M,fun h=>by cases h⟩):p:=h
theorem aCR (G:GH) (w0:World) (hG:Hold G w0) (D:kN) (d:gX) (hR:pO G D d) (hz:AA d) (A R:List Int) (va vr:ah) (hd:PG G A R va vr) :
  Calls prog 13 #[D.val,.agg #[va,vr]] w0 (bE w0 G fun u G'=>∃ b,u=.bool b∧(b=true->iQ d=0∧A.length<=300∧R.length<=300)):=by
 obtain ⟨aA,ac,rfl,-,-,-⟩:=hd.ha.slice;obtain ⟨rA,rc,rfl,-,-,-⟩:=hd.hr.slice
 simp only [bK] at *
 refine eN [(0,_),(1,_)] func13 M ntmps13 M M hG ?_;intro a H;refine cZ (fun _ K1=>?_);refine dZ (cs:=[_,_,_,_,_,_,_,_,_,_,_]) H wn M M M ?_;clear H;intro b2 a w hb2 H;refine dZ (cs:=[_,_]) H wn M M M ?_;clear H;intro b3 a w hb3 H;refine kH H (aj K1 M (SR fun _ K2=>bC atG EH 0 M M (Rl mD M (Rc M (Rm M (Sp 9 M ?_ ?_)))))) <;> clear H K1
 ·intro h9 a H
  try have p9:=dT h9
  refine kH H (YF atH h9 M (YO EH 0 h9 M (YL mD h9 M (YC h9 M (Pt h9 M (Rm M (Sp 15 M ?_ ?_))))))) <;> clear H
  ·intro jC a H
   try have sD:=dT jC
   refine bQ jN (cs:=[_,_,_,_,_,_,_,_,_,_,_]) H (wg H M M jC) M M (H.hp.dG 1 M M) M ?_;clear H;intro a H;refine s_call asF H (wg H M M jC) M (aCQ _ _ H.ro D d hR hz) M ?_;clear H;rintro v17 AB a w ⟨b17,rfl,ahu⟩ uJ H;refine kH H (Pt jC M (aj K2 M ?_));clear H K2;intro a H;refine lr H results13 M ?_
   exact Vk
  intro jC a H
  try have sD:=dF jC
  refine kH H (aU jC M (Pf jC M (aj K2 M ?_)));clear H K2;intro a H;refine lr H results13 M ?_
  exact Vk
 intro h9 a H
 try have p9:=dF h9
 refine kH H (aU h9 M (aU h9 M (Pf h9 M (Rm M (aU M M (Pf M M (aj K2 M ?_)))))));clear H K2;intro a H;refine lr H results13 M ?_
 exact Vk
theorem WX:aR 84:=aS func84 M
theorem aqQ:aR 144:=aS func144 M
theorem arG:aR 200:=aS func200 M
theorem afS:aR 34:=aS func34 M
theorem aqR:aR 145:=aS func145 M
theorem asU:aR 83:=aS func83 M
def mU (h:dD):Bool:=decide (h.marks.bD.length=0)
def rP (r:aO):Bool:=mU r.head && (r.cells.findIdx? fun c=>mU c.head).isSome
def nT (x:ak):Bool:=mU x.head && (decide (x.kind≠7) || (x.rows.findIdx? rP).isSome)
theorem aaV (G:GH) (w0:World) (hG:Hold G w0) (h:dD) (p d l:ah) (hh:jG G h p d l) :
  Calls prog 84 #[sQ h p d l] w0 (bE w0 G fun u G'=>u=.bool (mU h)):=by
 obtain ⟨pA,pn,pc,rfl⟩:=hh.props.form;obtain ⟨dA,dn,dc,rfl⟩:=hh.bD.form;obtain ⟨lA,ln,lc,rfl⟩:=hh.layers.form;have hdn:=hh.bD.len;rw [bK] at hdn;subst hdn;refine eN [(0,_)] func84 M ntmps84 M M hG ?_;intro a H;refine cZ (fun _ K1=>?_);refine dZ (cs:=[_,_,_,_,_]) H wn M M M ?_;clear H;intro b1 a w hb1 H;exact kH H (aj K1 M (SR fun _ K2=>Rf oh M (bC qH qO 0 M M (Rl mQ M (Rc M (aj K2 M (LR results84 M fun H=>H.rt (iP (decide_eq_decide.2 O)))))))))
theorem aCf (G:GH) (c:aQ):qW (.func (.func 145) #[] #[]) G c.dat (mU c.head):=by
 intro G1 w0 cs hm hG hr;refine kD (caps:=[]) aqR ?_;obtain ⟨pA,pn,pc,dA,dn,dc,yA,yn,yc,fA,fn,fc,rfl,hh,-⟩:=hr.cell;refine eN [(0,_)] func145 M ntmps145 M M hG ?_;intro a H;refine cZ (fun _ K1=>?_);refine dZ (cs:=[_,_,_,_,_,_,_]) H wn M M M ?_;clear H;intro b1 a w hb1 H;refine kH H (aj K1 M (SR fun _ K2=>Rf Ii M ?_));clear H K1;intro a H;refine bQ gB (cs:=[_,_,_,_,_]) H wn M M (H.hp.dG 0 M M) M ?_;clear H;intro a H;refine s_call WX H wn M (aaV _ _ H.ro c.head _ _ _ hh) M ?_;clear H;rintro v5 G5 a w rfl yh H;exact kH H (aj K2 M (LR results145 M fun H=>H.rt M))
theorem aCg (G:GH) (w0:World) (hG:Hold G w0) (r:aO) (cs:List ah) (hr:aX G r.dat cs) :
  Calls prog 83 #[.agg cs.toArray] w0 (bE w0 G fun u G'=>u=.bool (rP r)):=by
 obtain ⟨pA,pn,pc,dA,dn,dc,yA,yn,yc,fA,fn,fc,rfl,hh,hcl⟩:=hr.row;refine eN [(0,_)] func83 M ntmps83 M M hG ?_;intro a H;refine cZ (fun _ K1=>?_);refine dZ (cs:=[_,_,_,_,_,_]) H wn M M M ?_;clear H;intro b1 a w hb1 H;refine kH H (aj K1 M (SR fun _ K2=>Rf KN M ?_));clear H K1;intro a H;refine bQ gB (cs:=[_,_,_,_,_]) H wn M M (H.hp.dG 0 M M) M ?_;clear H;intro a H;refine s_call WX H wn M (aaV _ _ H.ro r.head _ _ _ hh) M ?_;clear H;rintro v5 G5 a w rfl yh H;refine kH H (Rm M (Sp 6 M ?_ ?_)) <;> clear H
 ·intro h6 a H
  try have p6:=dT h6
  refine kH H (YF wm h6 M (YO wL 0 h6 M ?_));clear H;intro a H;refine s_call aqQ H (wg H M M h6) M (apK _ _ H.ro r.cells (fun c=>mU c.head) _ _ (hcl.mono yh) (fun c _=>aCf _ c)) M ?_;clear H;rintro v9 G9 a w rfl yj H;exact kH H (Pt h6 M (aj K2 M (LR results83 M fun H=>H.rt (by unfold rP;simp_all))))
 intro h6 a H
 try have p6:=dF h6
 exact kH H (bH h6 M (Pf h6 M (aj K2 M (LR results83 M fun H=>H.rt (by unfold rP;simp_all)))))
theorem aCh (G:GH) (r:aO):qW (.func (.func 83) #[] #[]) G r.dat (rP r):=by
 intro G1 w0 cs hm hG hr;exact kD (caps:=[]) asU (aCg G1 w0 hG r cs hr)
theorem aCJ (G:GH) (w0:World) (hG:Hold G w0) (x:ak) (cs:List ah) (hr:aX G x.dat cs) :
  Calls prog 138 #[.agg cs.toArray] w0 (bE w0 G fun u G'=>u=.bool (nT x)):=by
 obtain ⟨pA,pn,pc,dA,dn,dc,yA,yn,yc,fA,fn,fc,rA,rn,rc,rfl,hh,-,hrw⟩:=hr.item;refine eN [(0,_)] func138 M ntmps138 M M hG ?_;intro a H;refine cZ (fun _ K1=>?_);refine dZ (cs:=[_,_,_,_,_,_,_,_,_,_,_]) H wn M M M ?_;clear H;intro b1 a w hb1 H;refine kH H (aj K1 M (SR fun _ K2=>Rf wU M ?_));clear H K1;intro a H;refine bQ gB (cs:=[_,_,_,_,_]) H wn M M (H.hp.dG 0 M M) M ?_;clear H;intro a H;refine s_call WX H wn M (aaV _ _ H.ro x.head _ _ _ hh) M ?_;clear H;rintro v5 G5 a w rfl yh H;refine kH H (Rm M (Sp 6 M ?_ ?_)) <;> clear H
 ·intro h6 a H
  try have p6:=dT h6
  refine kH H (YF kF h6 M (YO aF 0 h6 M (YC h6 M (YM h6 M (Sp 10 M ?_ ?_))))) <;> clear H
  ·intro h10 a H
   try have ni:=dT h10
   exact kH H (bH h10 M (PT h6 h10 M (Pt h6 M (aj K2 M (LR results138 M fun H=>H.rt (by unfold nT;simp_all))))))
  intro h10 a H
  try have ni:=dF h10
  refine kH H (YF qd h10 M (YO qw 0 h10 M ?_));clear H;intro a H;refine s_call arG H (wg H M M h10) M (apL _ _ H.ro x.rows rP _ _ (hrw.mono yh) (fun r _=>aCh _ r)) M ?_;clear H;rintro v13 JN a w rfl KY H;exact kH H (PF h6 h10 M (Pt h6 M (aj K2 M (LR results138 M fun H=>H.rt (by unfold nT;simp_all)))))
 intro h6 a H
 try have p6:=dF h6
 exact kH H (aU h6 M (aU h6 M (Ku M (Ku M (Ku M (Ks h6 M (Pf h6 M (aj K2 M (LR results138 M fun H=>H.rt (by unfold nT;simp_all))))))))))
theorem acB {p:Prop} (h:p:=by
 first
  | exact H.rt (by unfold rP;rw [OG hk2 hno (by show mU _=_;unfold mU;rw [lD];omega),Option.isSome_some,Bool.and_true];exact iP (decide_eq_decide.2 O))
  | exact H.rt (by unfold rP;rw [show r.cells.take k=r.cells from nZ O] at hno;rw [hno,Option.isSome_none,Bool.and_false])):p:=h
theorem ali (G:GH) (w0:World) (hG:Hold G w0) (r:aO) (cs:List ah) (hr:aX G r.dat cs) :
  Calls prog 34 #[.agg cs.toArray] w0 (bE w0 G fun u G'=>u=.bool (rP r)):=by
 obtain ⟨pA,pn,pc,dA,dn,dc,yA,yn,yc,fA,fn,fc,rfl,hh,hcl⟩:=hr.row;have hdn:=hh.bD.len;rw [bK] at hdn;subst hdn;obtain ⟨fA',fc',e,hc1,hc2,hg⟩:=hcl.slice
 injection e with e1 e2 e3
 rw [bK] at e2 hc1;subst e1 e2 e3;have hml:maxLen=9223372036854775807:=rfl;refine eN [(0,_)] func34 M ntmps34 M M hG ?_;intro a H;refine cZ (fun _ K1=>?_);refine dZ (cs:=[_,_,_,_,_,_]) H wn M M M ?_;clear H;intro b1 a w hb1 H;refine kH H (aj K1 M (SQ fun _ K2=>SR fun _ K3=>aj K3 M (SB ?_)));clear H K1 K3;intro a H;skip;refine fD (ι:=Nat) (Tc:=[(1,_)]) (Lc:=[]) (fun gh=>[(3,vi gh)]) (fun gh=>[(b1,.cells #[.slice pA pn pc,vi r.head.marks.ins,vi r.head.marks.move,.slice dA r.head.marks.bD.length dc,.slice yA yn yc,.slice fA r.cells.length fc] 74 (0,0))]) (fun gh=>G) (fun gh=>gh<=r.cells.length∧(r.cells.take gh).findIdx? (fun c=>mU c.head)=none) (fun gh=>r.cells.length - gh) (0) (by exact H.sub ⟨M,M,aC⟩) ?_ ?_
 ·exact ⟨O,M⟩
 clear H;intro k a w hI H;obtain ⟨hk,hno⟩:=hI;dsimp only [lca,bM] at H;refine kP H (SQ fun _ K4=>SR fun _ K5=>Rm M (bC wm wL 0 M M (Rl oK M (Rc M (Kz K5 (Cd M ?_ ?_)))))) <;> clear H K5
 ·intro h8 a H
  try have p8:=dT h8
  have hk2:k < r.cells.length:=by omega
  obtain ⟨b2,o2,a1,a2,a3,a4,a5,a6,a7,a8,a9,MZ,U6,b3_,rfl,hrow,Yk,-⟩:=Ky hk2 hg;have h5:=Yk.bD.len;rw [bK] at h5;subst h5;refine kP H (Kc K4 (SQ fun _ K6=>SB (SR fun _ K7=>bC wm wL 0 M M (Rm M (Ri oK kL M M (Rf Ii M (Rf oh M (Rf qH M (Rg qO M (hrow 4 _ M) (Rl mQ M (Rc M (Kz K7 (Cd M ?_ ?_))))))))))))) <;> clear H K4 K7
  ·intro h20 a H
   try have BI:=dT h20
   refine kP H (SR fun _ K8=>Rf KN M (Rf oh M (bC qH qO 0 M M (Rl mQ M (Rc M (aj K8 M ?_))))));clear H K8;intro a H;refine lr H results34 M ?_
   exact acB
  intro h20 a H
  try have BI:=dF h20
  refine kP H (Kc K6 (SC (Rm M (Rd M (Ra M ?_)))));clear H K6;intro a H;refine aD ?_;refine dQ (k+1) (by exact H.sub ⟨M,M,aC⟩) ?_
  exact ⟨O,Sn hk2 hno (by show mU _=_;unfold mU;rw [uW];omega)⟩
 intro h8 a H
 try have p8:=dF h8
 refine dY ?_;refine K2 _ _ ?_;clear K2;refine kP H (SR fun _ K9=>aj K9 M ?_);clear H K9;intro a H;refine lr H results34 M ?_
 exact acB
theorem Vl {p:Prop} (h:p:=by
 first
  | exact H.rt (by unfold nT;rw [hv,OG hk2 hno h22];simp)
  | exact H.rt (by unfold nT;rw [show x.rows.take k=x.rows from nZ O] at hno;rw [hv,hno];simp)
  | exact H.rt (by unfold nT mU;rw [qE O,Hq])):p:=h
theorem aCL (G:GH) (w0:World) (hG:Hold G w0) (x:ak) (cs:List ah) (hr:aX G x.dat cs) :
  Calls prog 82 #[.agg cs.toArray] w0 (bE w0 G fun u G'=>u=.bool (nT x)):=by
 obtain ⟨pA,pn,pc,dA,dn,dc,yA,yn,yc,fA,fn,fc,rA,rn,rc,rfl,hh,-,hrw⟩:=hr.item;have hdn:=hh.bD.len;rw [bK] at hdn;subst hdn;obtain ⟨rA',rc',e,hc1,hc2,hg⟩:=hrw.slice
 injection e with e1 e2 e3
 rw [bK] at e2 hc1;subst e1 e2 e3;have hml:maxLen=9223372036854775807:=rfl;refine eN [(0,_)] func82 M ntmps82 M M hG ?_;intro a H;refine cZ (fun _ K1=>?_);refine dZ (cs:=[_,_,_,_,_,_,_,_,_,_,_]) H wn M M M ?_;clear H;intro b1 a w hb1 H;refine kH H (aj K1 M (SQ fun _ K2=>SR fun _ K3=>Rf wU M (Rf oh M (bC qH qO 0 M M (Rl mQ M (Rc M (Kz K3 (Cd M ?_ ?_)))))))) <;> clear H K1 K3
 ·intro h9 a H
  try have p9:=dT h9
  refine kP H (SR fun _ K4=>aj K4 M ?_);clear H K4;intro a H;refine lr H results82 M ?_
  exact Vl
 intro h9 a H
 try have p9:=dF h9
 have hv:mU x.head=true:=by unfold mU;rw [lD];omega
 refine kP H (Kc K2 (SQ fun _ K5=>SR fun _ K6=>aj K6 M (SB ?_)));clear H K2 K6;intro a H;skip;refine fD (ι:=Nat × GH) (Tc:=[(1,_)]) (Lc:=[(_,_)]) (fun gh=>[(3,vi gh.1)]) (fun gh=>[]) (fun gh=>gh.2) (fun gh=>gh.1<=x.rows.length∧(x.rows.take gh.1).findIdx? rP=none∧(∀ b o,G b=some o->gh.2 b=some o)) (fun gh=>x.rows.length - gh.1) ((0,G)) (by exact H.sub ⟨M,M,aC⟩) ?_ ?_
 ·exact zV
 clear H;rintro ⟨k,g⟩ a w hI H;dsimp only at hI H;obtain ⟨hk,hno,hgm⟩:=hI;dsimp only [lca,bM] at H;refine kP H (SQ fun _ K7=>SR fun _ K8=>Rm M (bC qd qw 0 M M (Rl mR M (Rc M (Kz K8 (Cd M ?_ ?_)))))) <;> clear H K8
 ·intro iq a H
  try have qL:=dT iq
  have hk2:k < x.rows.length:=by omega
  obtain ⟨b2,o2,cs2,rfl,Ye,hrow,hrep⟩:=hg k x.rows[k].dat (by simp [hk2]);obtain ⟨a1,a2,a3,a4,a5,a6,a7,a8,a9,MZ,U6,b3_,rfl,-⟩:=hrep.row;replace hrow:=fun j u hj=>aG hgm (hrow j u hj);refine kP H (Kc K7 (SQ fun _ K9=>SB (SR fun _ aT=>bC qd qw 0 M M (Rm M (Ri mR jO M M ?_)))));clear H K7;intro a H;refine bQ jO (cs:=[.slice a1 a2 a3,vi x.rows[k].head.marks.ins,vi x.rows[k].head.marks.move,.slice a4 a5 a6,.slice a7 a8 a9,.slice MZ U6 b3_]) H wn M M (fun j v hj=>H.hp.aI (hrow j v hj)) M ?_;clear H;intro a H;refine s_call afS H wn M (ali _ _ H.ro x.rows[k] _ (hrep.mono hgm)) M ?_;clear H;rintro v22 Ux a w rfl ahM H;refine aT _ _ ?_;clear aT;refine jL H M ?_ ?_
  ·intro h22
   try have nk:=dT h22
   refine kP H (SR fun _ bR=>aj bR M ?_);clear H bR;intro a H;refine lr H results82 M ?_
   exact Vl
  intro h22
  try have nk:=dF h22
  refine kP H (Kc K9 (SC (Rm M (Rd M (Ra M ?_)))));clear H K9;intro a H;refine aD ?_;refine dQ ((k+1,_)) (by exact H.sub ⟨M,M,aC⟩) ?_
  (try dsimp only);exact ⟨O,Sn hk2 hno h22,fun b o h=>ahM b o (hgm b o h)⟩
 intro iq a H
 try have qL:=dF iq
 refine dY ?_;refine K5 _ _ ?_;clear K5;refine kP H (SR fun _ cu=>bC kF aF 0 M M (Rc M (aj cu M ?_)));clear H cu;intro a H;refine lr H results82 M ?_
 exact Vl
theorem Pm:prog.underlying 57=some (.slice 4):=by kernel_rfl
theorem asT:aR 82:=aS func82 M
def kg (l:List ak):List Bool:=l.flatMap fun x=>List.replicate (n1 x) (nT x)
theorem Xm (a b:List ak):kg (a++b)=kg a++kg b:=by simp [kg]
theorem Xo (x:ak):kg [x]=List.replicate (n1 x) (nT x):=by simp [kg]
theorem Xn:∀ l:List ak,(kg l).length<=bq l:=fun l=>by
 have h:=Zj l
 have e:(kg l).length=(Es l).length:=by
  induction l with
  | nil=>rfl
  | cons x l ih =>
   rw [show x :: l=[x]++l from rfl,Xm,ayG,Xo,ayH,gF,gF,List.length_replicate,List.length_replicate,ih (Zj l)]
 omega
abbrev AX (b:Bool):List Dat:=[.lf (.bool b)]
theorem aof (G:GH) (b:Bool):aX G (AX b) [.bool b]:=by simp [aX,av,Value.oneCell']
theorem aoe {G:GH} {A:List Bool} {B:Option Addr} {n c k:Nat} (hv:av G (.sl 1 (A.map AX)) (.slice B n c)) (hk:k < A.length):∃ b o,B=some ⟨b,o,none⟩∧aI G b (o+k*1)=some (.bool A[k]):=by
 obtain ⟨b,o,cs,h1,h2,h3,h4⟩:=hv.at_ k (AX A[k]) (by simp [hk])
 exact acM
set_option maxRecDepth 10000 in
theorem ant:∀ X:Fin 256,tJ .and .u8 ((X.val:Nat):Int) 192=128↔(128<=X.val∧X.val<=191):=by decide
theorem aeT {s:ByteArray} {i:Nat} (h:i < s.size):tJ .and .u8 (fC s i) 192=128↔128<=fC s i∧fC s i<=191:=by
 have h1:=ant ⟨s[i].toNat,s[i].toNat_lt⟩;dsimp only at h1;rw [oF h,h1];omega
theorem aeR {s:ByteArray}:∀ (t i:Nat),i+t<=s.size->(∀ j,j < t->128<=fC s (i+j)∧fC s (i+j)<=191)->kE s i=kE s (i+t)
 | 0,_,_,_=>rfl
 | t+1,i,h,hc=>by
  have ih:=aeR (s:=s) t (i+1) O fun j hj=>by have:=hc (j+1) O;rwa [show i+(j+1)=i+1+j by omega] at this
  have h0:=hc 0 O;rw [sJ] at h0;rw [kE.eq_def,ay (show i < s.size by omega),ay ((aeT O).2 h0),gZ,ih]
  congr 1;omega
theorem apH {s:ByteArray} {i:Nat} (h:nL s i < 0) (hi:i < s.size):kE s i=1+kE s (i+(gM s i).2.1):=by
 have hd:=WC h hi;obtain ⟨-,-,e3,e4⟩:=WB hi (Px h hi).1
 rw [kE.eq_def,ay hi,au fun hc=>e4 ((aeT hi).1 hc),aeR (s:=s) ((gM s i).2.1 - 1) (i+1) O fun j hj=>by
  have:=e3 (j+1) O O
  rw [show i+1+j=i+(j+1) by omega];exact this.2]
 congr 2;omega
inductive nX (s:ByteArray) (F:List Bool):Nat->Nat->List UInt8->Nat->Nat->Prop
 | nil (p k:Nat):nX s F p k [] p k
 | step {p k p' k':Nat} {B:List UInt8} (hp:p < s.size) (hd:(gM s p).2.2=true) (hw:0 < (gM s p).2.1) (h:nX s F (p+(gM s p).2.1) (k+1) B p' k'):nX s F p k ((if F.getD k false=true then (s.data.toList.drop p).take (gM s p).2.1 else [])++B) p' k'
theorem nX.trans {s:ByteArray} {F:List Bool} {p k p1 k1 p2 k2:Nat} {B C:List UInt8} (h1:nX s F p k B p1 k1) (h2:nX s F p1 k1 C p2 k2):nX s F p k (B++C) p2 k2:=by
 induction h1 with
 | nil=>exact h2
 | step hp hd hw h ih=>rw [iL];exact nX.step hp hd hw (ih h2)
theorem aon (a c r:ByteArray) {j w:Nat} (h:j+w<=c.size):(((a++(c++r)).data.toList.drop (a.size+j)).take w)=(c.data.toList.drop j).take w:=by
 have hc:c.data.toList.length=c.size:=pY
 have e:(a++(c++r)).data.toList=a.data.toList++(c.data.toList++r.data.toList):=by simp
 have ha:a.data.toList.length=a.size:=pY;rw [e,List.drop_append,List.drop_eq_nil_of_le O,jA,ha,show a.size+j - a.size=j by omega,List.drop_append_of_le_length O,List.take_append_of_le_length (by rw [List.length_drop];omega)]
theorem nX.mid (a c r:ByteArray) {F:List Bool} {b:Bool}:∀ (q j k:Nat),c.size - j<=q->j<=c.size->nL c j < 0->(∀ i,i < kE c j->F.getD (k+i) false=b) ->
  nX (a++(c++r)) F (a.size+j) k (if b=true then c.data.toList.drop j else []) (a.size+c.size) (k+kE c j)
 | q,j,k,hq,hj,hf,hF=>by
  have hc:c.data.toList.length=c.size:=pY
  by_cases hi:j < c.size
  ·have hd:=WC hf hi;have hs:=Px hf hi;have hu:=apH hf hi;have hsz:(gM c j).2.2=true:=hs.1
   have e1:gM (a++(c++r)) (a.size+j)=gM c j:=by rw [WA,Wz hi hsz]
   match q,hq with
   | 0,hq=>omega
   | q+1,hq =>
    have ih:=nX.mid a c r (F:=F) (b:=b) q (j+(gM c j).2.1) (k+1) O O hs.2 fun i hi2=>by
     rw [Nat.add_assoc];exact hF (1+i) O
    have h0:=hF 0 O;rw [sJ] at h0;have st:=nX.step (s:=a++(c++r)) (F:=F) (p:=a.size+j) (k:=k) (by simp only [ByteArray.size_append];omega) (by rw [e1];exact hsz) (by rw [e1];exact hd.1) (by rw [e1,Nat.add_assoc];exact ih);rw [e1,aon a c r hd.2,h0] at st;rw [hu];rw [show k+1+kE c (j+(gM c j).2.1)=k+(1+kE c (j+(gM c j).2.1)) by omega] at st
    cases b with
    | false=>exact st
    | true =>
     simp only [if_true] at st |-
     rwa [show (c.data.toList.drop j).take (gM c j).2.1++c.data.toList.drop (j+(gM c j).2.1)=c.data.toList.drop j by rw [<- List.drop_drop,List.take_append_drop]] at st
  have e:j=c.size:=by omega
  have e2:kE c j=0:=by rw [kE.eq_def,au hi]
  rw [e2,sJ,List.drop_eq_nil_of_le O,ite_self,e];exact nX.nil _ _
def wO (l:List ak):List UInt8:=l.flatMap fun x=>if nT x=true then (jB x).data.toList else []
theorem agC (x:ak) (l:List ak):kg (x :: l)=List.replicate (n1 x) (nT x)++kg l:=by
 rw [show x :: l=[x]++l from rfl,Xm,Xo]
theorem nX.flow:∀ (l:List ak) (a:ByteArray) (F:List Bool),(∀ x∈l,lX (jB x)=true∧oU (jB x)=n1 x) ->
  nX (a++⟨(jD l).toArray⟩) (F++kg l) a.size F.length (wO l) (a++⟨(jD l).toArray⟩).size (F++kg l).length
 | [],a,F,_=>by
  have e1:(a++⟨(jD []).toArray⟩:ByteArray).size=a.size:=by
   rw [ByteArray.size_append]
   show a.size+0=_
   rw [sJ]
  have e2:F++kg []=F:=by simp [kg]
  rw [e1,e2];exact nX.nil _ _
 | x :: l,a,F,h=>by
  obtain ⟨hv,hn⟩:=h x dV
  have hf:nL (jB x) 0 < 0:=by simpa [lX] using hv
  have hcn:kE (jB x) 0=n1 x:=by rw [<- hn];unfold oU;rw [ay hv]
  have ih:=nX.flow l (a++jB x) (F++List.replicate (n1 x) (nT x)) fun y hy=>h y (gI _ hy)
  have m:=nX.mid a (jB x) ⟨(jD l).toArray⟩ (F:=F++kg (x :: l)) (b:=nT x) (jB x).size 0 F.length O (kY _) hf fun i hi=>by
   rw [hcn] at hi;rw [agC,List.getD_eq_getElem?_getD,um O,show F.length+i - F.length=i by omega,yO (by simpa using hi),List.getElem?_replicate,ay hi];rfl
  rw [hcn,sJ,uX] at m;rw [ByteArray.append_assoc,iL,<- agC,ByteArray.size_append,gF,List.length_replicate] at ih;rw [alI]
  have e:wO (x :: l)=(if nT x=true then (jB x).data.toList else [])++wO l:=by simp [wO]
  rw [e];exact m.trans ih
structure abo (but r:List Int):Prop where
 inc:r.Pairwise (· < ·)
 rng:∀ x∈r,1<=x∧x<=1000
 len:r.length<=40
 dis:∀ x∈r,x∉but
theorem abo.nil (but:List Int):abo but []:=⟨List.Pairwise.nil,fun _ h=>(by cases h),Z,fun _ h=>(by cases h)⟩
def Qa (G:GH) (L:OL) (B:Option Addr) (but:List Int):Prop:=∀ i (hi:i < but.length),∃ b o,B=some ⟨b,o,none⟩∧(aI G b (o+i*1)=some (vi but[i])∨∃ cs,(b,.cells cs 3 (0,0))∈L∧cs[o+i*1]?=some (vi but[i]))
theorem Qa.of {G:GH} {L:OL} {but:List Int} {B:Option Addr} {n c:Nat} (hv:av G (.sl 1 (but.map fun k=>[li k])) (.slice B n c)):Qa G L B but:=fun i hi=>by
 obtain ⟨b,o,e,h⟩:=LX (f:=fun q=>q) hv hi;exact ⟨b,o,e,.inl (by rw [Nat.mul_one];exact h)⟩

section
section
variable {N:Nat} {D:List Deferred} {w0:World} {F:Nat->Prop} {G0 G:GH} {L:List (Nat × Obj)} {T:List (Nat × ah)}
variable {r:Option Nat} {P:Program} {ops:Array Oper} {Q:Exit->Act->World->Prop} {rest:List Oper} {a:Act} {w:World}
variable {d:Nat} {ty:TypeId} {pos:String} {aL:Array Edge} {g:Option (Nat × Bool)}
end
end

section
section
variable {N:Nat} {D:List Deferred} {w0:World} {F:Nat->Prop} {G0 G G1 G2:GH} {L L1 L2:OL} {T Xs:List (Nat × ah)}
variable {r:Option Nat} {P:Program} {Q:Exit->Act->World->Prop} {l:List Oper} {a a':Act} {w w':World}
end
end

theorem WH:aR 12:=aS func12 M
theorem aqM:aR 13:=aS func13 M

section
variable {acc rej acc' aFJ:Int->Bool}
def Left (C:aV) (acc rej:Int->Bool) (h:dD):Prop:=∀ q∈refs h,q=0∨(q∈C.lq∧acc q=false∧rej q=false)
theorem QT {C:aV} {e:Int} {h:dD} (hE:iU C e h=0) (hg:¬ lS acc rej h):Left C acc rej (gL acc rej h):=by
 have hh:=(IJ _ _ _).1 hE;intro q hq
 unfold refs at hq
 rcases gu.1 hq with rfl|hq
 ·show (if lH acc h then 0 else h.marks.ins)=0∨_
  by_cases hi:lH acc h
  ·rw [ay hi];exact .inl M
  show _∨((if lH acc h then 0 else h.marks.ins)∈_∧acc (if lH acc h then 0 else h.marks.ins)=false∧rej (if lH acc h then 0 else h.marks.ins)=false)
  rw [au hi]
  by_cases h0:h.marks.ins=0
  ·exact .inl h0
  refine .inr ⟨hh.mrk.1 h0,?_,?_⟩
  ·cases ha:acc h.marks.ins
   ·rfl
   exact absurd ⟨h0,ha⟩ hi
  cases ha:rej h.marks.ins
  ·rfl
  exact absurd (.inl ⟨h0,ha⟩) hg
 rcases kC.1 hq with hq|hq
 ·obtain ⟨x,hx,rfl⟩:=List.mem_map.1 hq;have hx2:x∈h.marks.bD.filter fun x=>!rej x.rev:=hx;rw [List.mem_filter] at hx2;refine .inr ⟨(hh.dl.1 x hx2.1).1,?_,by simpa using hx2.2⟩
  cases ha:acc x.rev
  ·rfl
  exact absurd (.inr ⟨x,hx2.1,ha⟩) hg
 obtain ⟨y,hy,rfl⟩:=List.mem_map.1 hq;obtain ⟨z,hz,e,h1,h2⟩:=(Nu acc rej hh).2 y hy;rw [<- e];exact .inr ⟨(hh.ly.1 z hz).1,h2,h1⟩
theorem ahf:∀ a b:List ak,kT (a++b)=kT a++kT b
 | [],b=>by simp [kT]
 | x :: a,b=>by simp [kT,ahf a b]
theorem ahp:∀ a b:List aO,ql (a++b)=ql a++ql b
 | [],b=>by simp [ql]
 | x :: a,b=>by simp [ql,ahp a b]
theorem ahc:∀ a b:List aQ,ru (a++b)=ru a++ru b
 | [],b=>by simp [ru]
 | x :: a,b=>by simp [ru,ahc a b]
theorem Vm {p:Prop} (h:p:=by
 exact (kC.1 hh).elim (a h0) (b h0)):p:=h
mutual
theorem aBf (C:aV) (body note:Bool) (t:Int):∀ x:ak,mh C body note t x->∀ h∈kT (mK acc rej x),Left C acc rej h
 | .mk k c i tx h f r,hx,h0,hh=>by
  have hf:=Tt C false true t f;have hr:=akv C note (t+1) r;rw [mh] at hx;obtain ⟨-,-,h3,h4,h5⟩:=hx;rw [mK] at hh
  split at hh
  ·rw [kT] at hh;cases hh
  rename_i hg
  have hd:=QT h3 hg
  have one:∀ y:ak,kT [y]=Bp y:=fun y=>by rw [kT,kT,fG]
  split at hh
  ·rename_i h6
   rw [one,Bp,ay h6,au (show ¬ k=7 by omega),fG] at hh
   rcases gu.1 hh with rfl|hh
   ·exact hd
   exact hf (h4 h6) h0 hh
  rename_i h6
  split at hh
  ·rename_i h7
   split at hh
   ·rw [kT] at hh;cases hh
   rw [one,Bp,au h6,ay h7,jA] at hh
   rcases gu.1 hh with rfl|hh
   ·exact hd
   exact hr (h5 h7).2 h0 hh
  rename_i h7
  rw [one,Bp,au h6,au h7,jA] at hh;rw [qY.1 hh];exact hd
theorem aBg (C:aV) (note:Bool) (t:Int):∀ x:aO,pI C note t x->∀ h∈ql (nS acc rej x),Left C acc rej h
 | .mk h cs,hx,h0,hh=>by
  have hc:=aku C note t cs;rw [pI] at hx;rw [nS] at hh
  split at hh
  ·rw [ql] at hh;cases hh
  rename_i hg
  split at hh
  ·rw [ql] at hh;cases hh
  rw [ql,ql,fG,FC] at hh
  rcases gu.1 hh with rfl|hh
  ·exact QT (Tz.1 hx.1).1 hg
  exact hc hx.2 h0 hh
theorem aBe (C:aV) (note:Bool) (t:Int):∀ x:aQ,pG C note t x->∀ h∈ru (oz acc rej x),Left C acc rej h
 | .mk i h f,hx,h0,hh=>by
  have hf:=Tt C false note t f;rw [pG] at hx;rw [oz] at hh
  split at hh
  ·rw [ru] at hh;cases hh
  rename_i hg
  rw [ru,ru,fG,Fz] at hh
  rcases gu.1 hh with rfl|hh
  ·exact QT hx.1 hg
  exact hf hx.2 h0 hh
theorem Tt (C:aV) (body note:Bool) (t:Int):∀ l:List ak,iN C body note t l->∀ h∈kT (bZ acc rej l),Left C acc rej h
 | [],_,h0,hh=>by rw [bZ,kT] at hh;cases hh
 | x :: l,h,h0,hh=>by
  rw [iN] at h;have a:=aBf C body note t x h.1;have b:=Tt C body note t l h.2;rw [bZ,ahf] at hh;exact Vm
theorem akv (C:aV) (note:Bool) (t:Int):∀ l:List aO,kJ C note t l->∀ h∈ql (fZ acc rej l),Left C acc rej h
 | [],_,h0,hh=>by rw [fZ,ql] at hh;cases hh
 | x :: l,h,h0,hh=>by
  rw [kJ] at h;have a:=aBg C note t x h.1;have b:=akv C note t l h.2;rw [fZ,ahp] at hh;exact Vm
theorem aku (C:aV) (note:Bool) (t:Int):∀ l:List aQ,lg C note t l->∀ h∈ru (fK acc rej l),Left C acc rej h
 | [],_,h0,hh=>by rw [fK,ru] at hh;cases hh
 | x :: l,h,h0,hh=>by
  rw [lg] at h;have a:=aBe C note t x h.1;have b:=aku C note t l h.2;rw [fK,ahc] at hh;exact Vm
end
def Pp (acc rej:Int->Bool) (r:List cB):List cB:=r.filter fun x=>!acc x.id && !rej x.id
theorem aoa {p:Prop} (h:p:=by
 exact g3 (.inr (by have:=List.length_pos_of_mem hx;omega))):p:=h
theorem acG {p:Prop} (h:p:=by
 unfold vD at g3
 rw [uW] at g3;rintro (⟨a,-⟩|⟨x,hx,-⟩)
 ·exact g3 (.inl (.inl a))
 exact aoa):p:=h
theorem aBp {d:gX} (h:iQ d=0):iQ ⟨bZ acc rej d.flow,eU acc rej d.fin,Pp acc rej d.revs,d.lK⟩=0:=by
 obtain ⟨g1,⟨g2,g3⟩,g4,-,-⟩:=(yV _).1 h;obtain ⟨h1,h2,h3,h4,h5⟩:=(yV _).1 (TB (acc:=acc) (rej:=rej) h);have hg:=akM h1.2
 have h0:(0:Int)∉(kK acc rej d).jT.lq:=by
  exact acI
 have hin:∀ q,(q=0∨(q∈d.jT.lq∧acc q=false∧rej q=false))->q≠0->q∈(Pp acc rej d.revs).map cB.id:=by
  intro q hq hn;obtain ⟨a,b,c⟩:=hq.resolve_left hn;obtain ⟨x,hx,rfl⟩:=List.mem_map.1 (show q∈d.revs.map cB.id from a);exact List.mem_map.2 ⟨x,List.mem_filter.2 ⟨hx,by simp [b,c]⟩,M⟩
 have hgo:¬ lS acc rej d.fin:=by
  exact acG
 refine (yV _).2 ⟨⟨h1.1,agZ (hg.sub List.filter_sublist)⟩,⟨N8 (C:=(kK acc rej d).jT) (C':=bG [] d.lK.styles d.lK.lists (Pp acc rej d.revs)) M M h0 (fun q hq hn=>hin q ?_ hn) h2.1,h2.2⟩,OZ (C:=(kK acc rej d).jT) (C':=bG [] d.lK.styles d.lK.lists (Pp acc rej d.revs)) M M h0 true false 0 _ (fun x hx q hq hn=>hin q (Tt d.jT true false 0 _ g4 x hx q hq) hn) h3,h4,h5⟩;have hl:=QT g2 hgo;rw [show eU acc rej d.fin=gL acc rej d.fin from au hgo] at hq;exact hl q hq
theorem aDG {d:gX} (h:iQ d=0) {q:Int} (hq:q∈nV (pF (kK acc rej d))):q∈(Pp acc rej d.revs).map cB.id:=by
 have h1:=(SI (aBp (acc:=acc) (rej:=rej) h)).1
 unfold nV at hq
 rw [List.mem_filter,lD,Qe] at hq;obtain ⟨hq|hq,hn⟩:=hq
 ·cases hq
 exact (Tn h1 q hq).resolve_left hn
end
abbrev cF:Int->Bool:=fun _=>false
abbrev cT:Int->Bool:=fun _=>true
section
abbrev lN:=Int × Bool
def Jt (k:Int):lN->List (Int × lN)->List bW
 | _,[]=>[]
 | s,(r,t) :: p=>⟨r,k,s.1,s.2⟩ :: Jt k t p
def Ig:lN->List (Int × lN)->lN
 | s,[]=>s
 | _,(_,t) :: p=>Ig t p
def Ey:List bW->lN->lN
 | [],now=>now
 | y :: _,_=>(y.before,y.had)
def vM:List bW->lN->List (Int × lN)
 | [],_=>[]
 | y :: r,now=>(y.rev,Ey r now) :: vM r now
def dA (acc:Int->Bool):lN->List (Int × lN)->lN × List (Int × lN)
 | s,[]=>(s,[])
 | s,(r,t) :: p=>if ((r,t) :: p).any (fun q=>acc q.1)=true then dA acc t p else (s,(r,t) :: p)
def wR (acc rej:Int->Bool) (q:lN × List (Int × lN)):lN × List (Int × lN):=((dA acc q.1 q.2).1,(dA acc q.1 q.2).2.filter fun x=>!rej x.1)
theorem akj (k:Int):∀ (p:List (Int × lN)) (s:lN),Ey (Jt k s p) (Ig s p)=s
 | [],_=>rfl
 | (_,_) :: _,_=>rfl
theorem akk (k:Int):∀ (p:List (Int × lN)) (s:lN),vM (Jt k s p) (Ig s p)=p
 | [],_=>rfl
 | (r,t) :: p,s=>by
  rw [Jt,Ig,vM,akj,akk]
theorem Nq {acc:Int->Bool} {s:lN} {p:List (Int × lN)} (h:p.any (fun q=>acc q.1)=false):dA acc s p=(s,p):=by
 cases p with
 | nil=>rfl
 | cons x p=>rw [dA,au (by rw [h];decide)]
theorem apT {acc:Int->Bool} {s t:lN} {p:List (Int × lN)} (h:p.any (fun q=>acc q.1)=true):dA acc s p=dA acc t p:=by
 cases p with
 | nil=>cases h
 | cons x p=>rw [dA,dA,ay h,ay h]
def fP (f g:Int->Bool):Int->Bool:=fun q=>f q || g q
variable {acc rej dJ eH fq iI:Int->Bool}
theorem Ww (x2:∀ q,eH q=true->fq q=false):∀ (p:List (Int × lN)) (s:lN),p.any (fun q=>dJ q.1)=false ->
  dA fq s (p.filter fun x=>!eH x.1)=((dA (fP dJ fq) s p).1,(dA (fP dJ fq) s p).2.filter fun x=>!eH x.1)
 | [],_,_=>rfl
 | (r,t) :: p,s,h=>by
  rw [List.any_cons,Bool.or_eq_false_iff] at h;obtain ⟨h1,h2⟩:=h;dsimp only at h1;have ihs:=Ww x2 p s h2;have iht:=Ww x2 p t h2
  have hor:fP dJ fq r=fq r:=by unfold fP;rw [h1,Bool.false_or]
  have hany:(p.filter fun x=>!eH x.1).any (fun q=>fq q.1)=p.any fun q=>fP dJ fq q.1:=by
   rw [Ck,List.any_eq_true,List.any_eq_true]
   constructor
   ·rintro ⟨x,hx,ha⟩;exact ⟨x,(List.mem_filter.1 hx).1,by unfold fP;rw [ha,Bool.or_true]⟩
   rintro ⟨x,hx,ha⟩
   have h3:dJ x.1=false:=by
    cases e:dJ x.1
    ·rfl
    rw [List.any_eq_false] at h2;exact absurd e (h2 x hx)
   unfold fP at ha
   rw [h3,Bool.false_or] at ha;refine ⟨x,List.mem_filter.2 ⟨hx,?_⟩,ha⟩
   cases e:eH x.1
   ·rfl
   rw [x2 _ e] at ha;cases ha
  by_cases hr:eH r=true
  ·rw [List.filter_cons_of_neg (by simp [hr])];have hac:fq r=false:=x2 _ hr
   by_cases ha:p.any (fun q=>fP dJ fq q.1)=true
   ·have e:dA (fP dJ fq) s ((r,t) :: p)=dA (fP dJ fq) t p:=by rw [dA,ay (by rw [List.any_cons,ha,Bool.or_true])]
    rw [e,apT (t:=t) (by rw [hany];exact ha),iht]
   have ha':p.any (fun q=>fP dJ fq q.1)=false:=by rw [Bool.not_eq_true] at ha;exact ha
   have e:dA (fP dJ fq) s ((r,t) :: p)=(s,(r,t) :: p):=Nq (by rw [List.any_cons,ha',hor,hac];rfl);rw [e,ihs,Nq ha'];dsimp only;rw [List.filter_cons_of_neg (by simp [hr])]
  have hr':eH r=false:=by simpa using hr
  rw [List.filter_cons_of_pos (by simp [hr'])]
  have hc:((r,t) :: p.filter fun x=>!eH x.1).any (fun q=>fq q.1)=((r,t) :: p).any fun q=>fP dJ fq q.1:=by
   rw [List.any_cons,List.any_cons,hany,hor]
  by_cases ha:((r,t) :: p).any (fun q=>fP dJ fq q.1)=true
  ·rw [dA,ay (by rw [hc];exact ha),dA,ay ha,iht]
  rw [dA,au (by rw [hc];exact ha),dA,au ha];dsimp only;rw [List.filter_cons_of_pos (by simp [hr'])]
theorem afg (x2:∀ q,eH q=true->fq q=false):∀ (p:List (Int × lN)) (s:lN),wR fq iI (wR dJ eH (s,p))=wR (fP dJ fq) (fP eH iI) (s,p)
 | [],_=>rfl
 | (r,t) :: p,s=>by
  by_cases ha:((r,t) :: p).any (fun q=>dJ q.1)=true
  ·have ih:=afg x2 p t
   have e1:wR dJ eH (s,(r,t) :: p)=wR dJ eH (t,p):=by
    unfold wR;dsimp only;rw [dA,ay ha]
   have e2:wR (fP dJ fq) (fP eH iI) (s,(r,t) :: p)=wR (fP dJ fq) (fP eH iI) (t,p):=by
    unfold wR;dsimp only
    rw [dA,ay];rw [List.any_eq_true] at ha |-;obtain ⟨x,hx,hq⟩:=ha;exact ⟨x,hx,by unfold fP;rw [hq,Bool.true_or]⟩
   rw [e1,e2,ih]
  have ha':((r,t) :: p).any (fun q=>dJ q.1)=false:=by rw [Bool.not_eq_true] at ha;exact ha
  unfold wR
  dsimp only;rw [Nq ha'];dsimp only;rw [Ww x2 _ _ ha'];dsimp only;rw [List.filter_filter];refine cO (Prod.mk _) (List.filter_congr fun x _=>?_)
  unfold fP
  cases eH x.1 <;> cases iI x.1 <;> rfl
theorem aaD {props:List aN} {key:Int}:∀ {l:List bW} {k:Nat},k<=l.length->(qo props key l).getD k (0,false)=Ey (l.drop k) (lG props key)
 | [],k,h=>by
  have:k=0:=by simpa using h
  subst this;rfl
 | y :: r,0,_=>rfl
 | y :: r,k+1,h=>by
  have ih:=aaD (props:=props) (key:=key) (l:=r) (k:=k) (by simpa using h);rw [xQ,<- ih];rfl
theorem ajk {props:List aN} {key:Int} {full:List bW}:∀ (l:List bW) (k:Nat) (now:lN),full.drop k=l->k<=full.length->(∀ y∈l,y.key=key) ->
  uL rej (qo props key full) l k now=(Jt key now ((vM l (lG props key)).filter fun x=>!rej x.1),Ig now ((vM l (lG props key)).filter fun x=>!rej x.1))
 | [],_,now,_,_,_=>by rw [uL,vM];rfl
 | y :: r,k,now,hd,hk,hy=>by
  have hlt:k < full.length:=by
   rcases Nat.lt_or_ge k full.length with h|h
   ·exact h
   rw [List.drop_eq_nil_of_le h] at hd;cases hd
  have hd2:full.drop (k+1)=r:=by rw [<- List.drop_drop,hd];rfl
  have ih:=fun now=>ajk (props:=props) r (k+1) now hd2 O fun z hz=>hy z (gI _ hz);rw [uL,vM]
  by_cases hr:rej y.rev=true
  ·rw [ay hr,ih,List.filter_cons_of_neg (by simp [hr])]
  rw [au hr];dsimp only;rw [ih,List.filter_cons_of_pos (by simpa using hr),aaD O,hd2,Jt,Ig,hy y dV]
theorem NQ:∀ (l:List bW) (k c:Nat),l.any (fun y=>acc y.rev)=false->jh acc l k c=c
 | [],_,_,_=>by rw [jh]
 | y :: r,k,c,h=>by
  rw [List.any_cons,Bool.or_eq_false_iff] at h;rw [jh,h.1,au Z];exact NQ r _ _ h.2
theorem Xx:∀ (l:List bW) (k c:Nat),l.any (fun y=>acc y.rev)=true->jh acc l k c=k+jh acc l 0 0
 | [],_,_,h=>by cases h
 | y :: r,k,c,h=>by
  rw [jh,jh]
  by_cases hr:r.any (fun y=>acc y.rev)=true
  ·rw [Xx r (k+1) _ hr,Xx r (0+1) _ hr];omega
  have hr':r.any (fun y=>acc y.rev)=false:=by rw [Bool.not_eq_true] at hr;exact hr
  rw [List.any_cons,hr',Bool.or_false] at h;rw [NQ _ _ _ hr',NQ _ _ _ hr',ay h,ay h]
theorem Uf (now:lN):∀ l:List bW,(vM l now).any (fun q=>acc q.1)=l.any fun y=>acc y.rev
 | []=>rfl
 | y :: r=>by rw [vM,List.any_cons,List.any_cons,Uf now r]
theorem agS (now:lN):∀ l:List bW,dA acc (Ey l now) (vM l now)=(Ey (l.drop (jh acc l 0 0)) now,vM (l.drop (jh acc l 0 0)) now)
 | []=>rfl
 | y :: r=>by
  have ih:=agS now r
  by_cases hr:r.any (fun y=>acc y.rev)=true
  ·have e:jh acc (y :: r) 0 0=jh acc r 0 0+1:=by rw [jh,Xx _ _ _ hr];omega
   rw [e,xQ,<- ih,vM,dA,ay (by rw [List.any_cons,Uf,hr,Bool.or_true])]
  have hr':r.any (fun y=>acc y.rev)=false:=by rw [Bool.not_eq_true] at hr;exact hr
  by_cases hy:acc y.rev=true
  ·have e:jh acc (y :: r) 0 0=1:=by rw [jh,NQ _ _ _ hr',ay hy]
   rw [e,vM,dA,ay (by rw [List.any_cons,hy,Bool.true_or])];rw [Nq (by rw [Uf];exact hr')]
   rfl
  have e:jh acc (y :: r) 0 0=0:=by rw [jh,NQ _ _ _ hr',au hy]
  rw [e,uX];exact Nq (by rw [Uf,List.any_cons,hr',Bool.or_false];simpa using hy)
theorem XB {props:List aN} {key:Int} {l:List bW} (h:∀ y∈l,y.key=key) :
  mO acc rej props key l=(Jt key (wR acc rej (Ey l (lG props key),vM l (lG props key))).1 (wR acc rej (Ey l (lG props key),vM l (lG props key))).2,Ig (wR acc rej (Ey l (lG props key),vM l (lG props key))).1 (wR acc rej (Ey l (lG props key),vM l (lG props key))).2):=by
 have hle:jh acc l 0 0<=l.length:=by have:=agR acc l 0 0 (dS _);omega
 unfold mO wR
 dsimp only;rw [agS,aaD hle,ajk _ _ _ M hle fun y hy=>h y (List.mem_of_mem_drop hy)]
def AJ (l:List aN):Prop:=l.Pairwise fun x y=>x.key < y.key
theorem get_some {l:List aN} (hs:AJ l) {k v:Int} (h:(⟨k,v⟩:aN)∈l):lG l k=(v,true):=by
 have hh:qm (l.map aN.key) k=true:=by
  rw [NZ (List.pairwise_map.2 (hs.imp fun h=>Int.le_of_lt h)),lD];exact List.mem_map.2 ⟨_,h,M⟩
 obtain ⟨h1,h2⟩:=KU hh
 unfold lG
 rw [ay hh,List.getD_eq_getElem?_getD,eB h1,Option.getD_some];obtain ⟨j,hj,e⟩:=List.getElem_of_mem h
 have hij:gY (l.map aN.key) k=j:=by
  rcases Nat.lt_trichotomy (gY (l.map aN.key) k) j with h3|h3|h3
  ·have:=List.pairwise_iff_getElem.1 hs _ _ h1 hj h3;rw [h2,e] at this;exact absurd this (Int.lt_irrefl _)
  ·exact h3
  have:=List.pairwise_iff_getElem.1 hs _ _ hj h1 h3;rw [h2,e] at this;exact absurd this (Int.lt_irrefl _)
 have e2:l[gY (l.map aN.key) k]=⟨k,v⟩:=by
  rw [<- e];congr 1
 rw [e2]
theorem get_none {l:List aN} (hs:AJ l) {k:Int} (h:∀ p∈l,p.key≠k):lG l k=(0,false):=by
 unfold lG
 rw [au];intro hh;obtain ⟨h1,h2⟩:=KU hh;exact h _ (jS h1) h2
theorem get_mem {l:List aN} (hs:AJ l) {k v:Int} (h:lG l k=(v,true)):(⟨k,v⟩:aN)∈l:=by
 by_cases hp:∃ p∈l,p.key=k
 ·obtain ⟨⟨k',v'⟩,hm,e⟩:=hp;dsimp only at e;subst e;rw [get_some hs hm] at h
  injection h with h1 h2
  rw [<- h1];exact hm
 rw [get_none hs fun p hpm e=>hp ⟨p,hpm,e⟩] at h
 injection h with _ h2
 cases h2
theorem aki {l:List aN} (hs:AJ l) (p:aN):p∈l↔lG l p.key=(p.value,true):=⟨fun h=>get_some hs h,fun h=>get_mem hs h⟩
theorem aAE {l m:List aN} (hl:AJ l) (hm:AJ m) (h:∀ k,lG l k=lG m k):l=m:=by
 have hmem:∀ p,p∈l↔p∈m:=fun p=>by rw [aki hl,aki hm,h]
 clear h
 induction l generalizing m with
 | nil =>
  cases m with
  | nil=>rfl
  | cons y m=>exact absurd ((hmem y).2 dV) (by simp)
 | cons x l ih =>
  cases m with
  | nil=>exact absurd ((hmem x).1 dV) (by simp)
  | cons y m =>
   obtain ⟨l1,l2⟩:=qC.1 hl;obtain ⟨m1,m2⟩:=qC.1 hm
   have e:x=y:=by
    rcases gu.1 ((hmem x).1 dV) with e|hx
    ·exact e
    rcases gu.1 ((hmem y).2 dV) with e|hy
    ·exact e.symm
    have:=m1 x hx;have:=l1 y hy
    omega
   subst e;rw [ih l2 m2 fun p=>?_]
   constructor
   ·intro hp
    rcases gu.1 ((hmem p).1 (gI _ hp)) with rfl|h
    ·exact absurd (l1 p hp) (Int.lt_irrefl _)
    exact h
   intro hp
   rcases gu.1 ((hmem p).2 (gI _ hp)) with rfl|h
   ·exact absurd (m1 p hp) (Int.lt_irrefl _)
   exact h
theorem ald {l:List aN} (hs:AJ l) (k v:Int) (p:aN):p∈BM l k v↔p=⟨k,v⟩∨(p∈l∧p.key≠k):=by
 unfold BM
 split
 ·rename_i h
  obtain ⟨h1,h2⟩:=KU h;rw [List.getD_eq_getElem?_getD,eB h1,Option.getD_some,h2]
  have hne:∀ j (hj:j < l.length),j≠gY (l.map aN.key) k->l[j].key≠k:=fun j hj hn e=>by
   rcases Nat.lt_or_gt_of_ne hn with h3|h3
   ·have:=List.pairwise_iff_getElem.1 hs _ _ hj h1 h3
    omega
   have:=List.pairwise_iff_getElem.1 hs _ _ h1 hj h3
   omega
  constructor
  ·intro hp;obtain ⟨j,hj,e⟩:=List.getElem_of_mem hp;rw [List.length_set] at hj;rw [List.getElem_set] at e
   split at e
   ·exact .inl e.symm
   rename_i hn
   rw [<- e];exact .inr ⟨jS hj,hne j hj fun e=>hn e.symm⟩
  rintro (rfl|⟨hp,hk⟩)
  ·exact List.mem_set (by exact h1) _
  obtain ⟨j,hj,e⟩:=List.getElem_of_mem hp
  have hn:gY (l.map aN.key) k≠j:=fun e2=>by subst e2;rw [e] at h2;exact hk h2
  have:(l.set (gY (l.map aN.key) k) ⟨k,v⟩)[j]'(by rw [List.length_set];exact hj)=p:=by rw [List.getElem_set,au hn,e]
  rw [<- this];exact jS _
 rename_i h
 have hne:∀ p∈l,p.key≠k:=fun p hpm he=>by
  rw [NZ (List.pairwise_map.2 (hs.imp fun h=>Int.le_of_lt h)),lD] at h;exact h (List.mem_map.2 ⟨p,hpm,he⟩)
 rw [kC,gu]
 constructor
 ·rintro (hp|rfl|hp)
  ·exact .inr ⟨List.mem_of_mem_take hp,hne p (List.mem_of_mem_take hp)⟩
  ·exact .inl M
  exact .inr ⟨List.mem_of_mem_drop hp,hne p (List.mem_of_mem_drop hp)⟩
 rintro (rfl|⟨hp,-⟩)
 ·exact .inr (.inl M)
 rw [<- List.take_append_drop (gY (l.map aN.key) k) l] at hp
 rcases kC.1 hp with hp|hp
 ·exact .inl hp
 exact .inr (.inr hp)
theorem aeK {l:List aN} (hs:AJ l) (k:Int) (p:aN):p∈Ba l k↔p∈l∧p.key≠k:=by
 unfold Ba
 split
 ·rename_i h
  obtain ⟨h1,h2⟩:=KU h
  have hsp:l=l.take (gY (l.map aN.key) k)++l[gY (l.map aN.key) k] :: l.drop (gY (l.map aN.key) k+1):=by
   rw [List.getElem_cons_drop,List.take_append_drop]
  have hs2:=hs
  unfold AJ at hs2
  rw [hsp,List.pairwise_append,qC] at hs2;obtain ⟨-,⟨b,-⟩,c⟩:=hs2
  constructor
  ·intro hp
   rcases kC.1 hp with hp|hp
   ·have:=c p hp _ dV;exact ⟨List.mem_of_mem_take hp,O⟩
   have:=b p hp;exact ⟨List.mem_of_mem_drop hp,O⟩
  rintro ⟨hp,hk⟩;rw [hsp] at hp
  rcases kC.1 hp with hp|hp
  ·exact kC.2 (.inl hp)
  rcases gu.1 hp with rfl|hp
  ·exact absurd h2 hk
  exact kC.2 (.inr hp)
 rename_i h
 refine ⟨fun hp=>⟨hp,fun he=>?_⟩,fun hp=>hp.1⟩;rw [NZ (List.pairwise_map.2 (hs.imp fun h=>Int.le_of_lt h)),lD] at h;exact h (List.mem_map.2 ⟨p,hp,he⟩)
theorem aur {l:List aN} (hs:AJ l) {k:Int} {s:lN} (hw:AJ (vN l k s)) (h0:s.2=false->s.1=0) (k':Int):lG (vN l k s) k'=if k'=k then s else lG l k':=by
 obtain ⟨v,b⟩:=s
 have other:∀ p:aN,p.key≠k->(p∈vN l k (v,b)↔p∈l):=fun p hp=>by
  unfold vN
  split
  ·rw [ald hs];exact ⟨fun h=>h.elim (fun e=>absurd (by rw [e]) hp) fun h=>h.1,fun h=>.inr ⟨h,hp⟩⟩
  rw [aeK hs];exact ⟨fun h=>h.1,fun h=>⟨h,hp⟩⟩
 by_cases hk:k'=k
 ·subst hk;rw [ay M]
  cases b with
  | true =>
   refine get_some hw ?_
   show _∈BM l k' v
   rw [ald hs];exact .inl M
  | false =>
   have:=h0 M;dsimp only at this;subst this;refine get_none hw fun p hp=>?_;have hp:p∈Ba l k':=hp;rw [aeK hs] at hp;exact hp.2
 rw [au hk]
 by_cases hp:∃ p∈l,p.key=k'
 ·obtain ⟨⟨k2,v2⟩,hm,e⟩:=hp;dsimp only at e;subst e;rw [get_some hs hm];exact get_some hw ((other _ hk).2 hm)
 rw [get_none hs fun p hpm e=>hp ⟨p,hpm,e⟩];exact get_none hw fun p hpm e=>hp ⟨p,(other p (by rw [e];exact hk)).1 hpm,e⟩
end
section
variable {acc rej dJ eH fq iI:Int->Bool}
def ou (k:Int) (l:List bW):List bW:=l.filter fun y=>decide (y.key=k)
theorem ajr (k:Int) (a b:List bW):ou k (a++b)=ou k a++ou k b:=List.filter_append ..
theorem ajq {k:Int} {l:List bW} (h:∀ y∈l,y.key=k):ou k l=l:=List.filter_eq_self.2 fun y hy=>by simpa using h y hy
theorem SF {k:Int} {l:List bW} (h:∀ y∈l,y.key≠k):ou k l=[]:=List.filter_eq_nil_iff.2 fun y hy=>by simpa using h y hy
theorem ZG {k:Int} {l:List bW}:∀ y∈ou k l,y.key=k:=fun y hy=>by simpa using (List.mem_filter.1 hy).2
def MQ (l:List bW):Prop:=l.Pairwise fun x y=>x.key<=y.key
theorem acC {p:Prop} (h:p:=by
 exact List.mem_filter.2 ⟨dV,by simp⟩):p:=h
theorem azj {l m:List bW} (hl:MQ l) (hm:MQ m) (h:∀ k,ou k l=ou k m):l=m:=by
 induction l generalizing m with
 | nil =>
  cases m with
  | nil=>rfl
  | cons z m =>
   have:=h z.key
   unfold ou at this
   rw [List.filter_cons_of_pos (by simp)] at this
   cases this
 | cons y l ih =>
  cases m with
  | nil =>
   have:=h y.key
   unfold ou at this
   rw [List.filter_cons_of_pos (by simp)] at this
   cases this
  | cons z m =>
   obtain ⟨l1,l2⟩:=qC.1 hl;obtain ⟨m1,m2⟩:=qC.1 hm;have le1:∀ x∈y :: l,y.key<=x.key:=fun x hx=>(gu.1 hx).elim (fun e=>by rw [e];exact Int.le_refl _) (l1 x);have le2:∀ x∈z :: m,z.key<=x.key:=fun x hx=>(gu.1 hx).elim (fun e=>by rw [e];exact Int.le_refl _) (m1 x)
   have a1:z∈ou z.key (y :: l):=by rw [h];exact acC
   have a2:y∈ou y.key (z :: m):=by rw [<- h];exact acC
   have b1:=le1 z (List.mem_filter.1 a1).1;have b2:=le2 y (List.mem_filter.1 a2).1
   have hk:y.key=z.key:=by omega
   have e:=h y.key
   unfold ou at e
   rw [List.filter_cons_of_pos (by simp),List.filter_cons_of_pos (by simp [hk])] at e
   injection e with e1 e2
   subst e1;rw [ih l2 m2 fun k=>?_]
   by_cases hk2:y.key=k
   ·subst hk2;exact e2
   have e3:=h k
   unfold ou at e3
   rwa [List.filter_cons_of_neg (by simpa using hk2),List.filter_cons_of_neg (by simpa using hk2)] at e3
theorem afn {k:Int}:∀ {r:List bW},(∀ z∈r,k<=z.key)->MQ r->∀ z∈r.dropWhile (fun z=>decide (z.key=k)),k < z.key
 | [],_,_,z,h=>by simp at h
 | w :: r,h1,h2,z,h=>by
  obtain ⟨p1,p2⟩:=qC.1 h2;rw [List.dropWhile_cons] at h
  by_cases e:w.key=k
  ·rw [ay (by simpa using e)] at h;exact afn (fun z hz=>h1 z (gI _ hz)) p2 z h
  rw [au (by simpa using e)] at h;have:=h1 w dV
  rcases gu.1 h with rfl|h
  ·omega
  have:=p1 z h;omega
theorem aha:∀ (f:Nat) (l:List bW),l.length<=f->MQ l->(rX f l).Pairwise fun p q=>p.1 < q.1
 | 0,l,h,_=>by
  have:l=[]:=List.eq_nil_of_length_eq_zero O;subst this;exact List.Pairwise.nil
 | f+1,[],_,_=>List.Pairwise.nil
 | f+1,y :: r,h,hs=>by
  obtain ⟨p1,p2⟩:=qC.1 hs
  have h2:(r.dropWhile fun z=>decide (z.key=y.key)).length<=f:=by
   exact acK
  have hs2:MQ (r.dropWhile fun z=>decide (z.key=y.key)):=p2.sublist (List.dropWhile_sublist _);have hgt:=afn p1 p2;obtain ⟨e1,e2⟩:=Io f _ h2;rw [rX];refine qC.2 ⟨fun q hq=>?_,aha f _ h2 hs2⟩;obtain ⟨z,t,hz⟩:=List.exists_cons_of_ne_nil (e2 q hq)
  have hz2:z∈q.2:=by rw [hz];exact dV
  have:=hgt z (by rw [<- e1];exact List.mem_flatMap.2 ⟨q,hq,hz2⟩);rw [NS f _ q hq z hz2] at this;exact this
theorem XA (props:List aN) (k:Int):mO acc rej props k []=([],lG props k):=by
 unfold mO qo
 rw [jh,List.drop_nil,uL];rfl
theorem afa {C:aV} {e:Int} {props:List aN} (hp:xO C e props) (k:Int):∀ (L:List (Int × List bW)) (s:List aN × List bW),L.Pairwise (fun p q=>p.1 < q.1)->xO C e s.1->(∀ q∈L,q.2≠[]∧∀ y∈q.2,y.key=q.1∧He C e y) ->
  lG (uq acc rej props L s).1 k=(if k∈L.map Prod.fst then (mO acc rej props k (ou k (L.flatMap Prod.snd))).2 else lG s.1 k) ∧
   ou k (uq acc rej props L s).2=ou k s.2++(mO acc rej props k (ou k (L.flatMap Prod.snd))).1
 | [],s,_,_,_=>by
  rw [uq,List.flatMap_nil,show ou k []=[] from rfl,XA]
  simp
 | (k0,l0) :: r,s,hw,hs,hL=>by
  obtain ⟨w1,w2⟩:=qC.1 hw;obtain ⟨h1,h2⟩:=hL (k0,l0) dV;have hL2:=fun q hq=>hL q (gI _ hq);obtain ⟨a,b⟩:=ahb acc rej hp h1 h2;have hws:=amt hs b;obtain ⟨i1,i2⟩:=afa hp k r (vN s.1 k0 (mO acc rej props k0 l0).2,s.2++(mO acc rej props k0 l0).1) w2 hws hL2;have hg:=aur hs.2 hws.2 b.2.2 k;rw [uq,i1,i2,List.flatMap_cons,dO];dsimp only;rw [ajr,ajr,hg]
  by_cases hk:k=k0
  ·subst hk
   have hn:k∉r.map Prod.fst:=fun hm=>by
    obtain ⟨q,hq,e⟩:=List.mem_map.1 hm;have:=w1 q hq;dsimp only at this
    omega
   have hr:ou k (r.flatMap Prod.snd)=[]:=SF fun y hy e=>by
    obtain ⟨q,hq,hy2⟩:=List.mem_flatMap.1 hy;refine hn (List.mem_map.2 ⟨q,hq,?_⟩);rw [<- ((hL2 q hq).2 y hy2).1];exact e
   rw [au hn,ay M,ay dV,hr,fG,ajq (fun y hy=>(h2 y hy).1),ajq (fun y hy=>(a y hy).1),XA,fG];exact Hy
  have hl0:ou k l0=[]:=SF fun y hy e=>hk (by rw [<- e];exact (h2 y hy).1);have hg0:ou k (mO acc rej props k0 l0).1=[]:=SF fun y hy e=>hk (by rw [<- e];exact (a y hy).1);rw [hl0,hg0,jA,fG,au hk];refine ⟨?_,M⟩
  by_cases hm:k∈r.map Prod.fst
  ·rw [ay hm,ay (gI _ hm)]
  rw [au hm,au fun h=>(gu.1 h).elim hk hm]
theorem Nv {C:aV} {e:Int} {h:dD} (hh:JR C e h) (k:Int):lG (gL acc rej h).props k=(mO acc rej h.props k (ou k h.marks.layers)).2∧ou k (gL acc rej h).marks.layers=(mO acc rej h.props k (ou k h.marks.layers)).1:=by
 obtain ⟨f1,f2⟩:=Io h.marks.layers.length h.marks.layers (dS _);obtain ⟨g1,g2⟩:=afa (acc:=acc) (rej:=rej) hh.ps k (rX h.marks.layers.length h.marks.layers) (h.props,[]) (aha _ _ (dS _) hh.ly.2) hh.ps fun q hq=>⟨f2 q hq,fun y hy=>⟨NS _ _ q hq y hy,hh.ly.1 y (by rw [<- f1];exact List.mem_flatMap.2 ⟨q,hq,hy⟩)⟩⟩;rw [f1] at g1 g2;refine ⟨?_,g2⟩;refine g1.trans ?_
 split
 ·rfl
 rename_i hn
 have:ou k h.marks.layers=[]:=SF fun y hy e=>by
  rw [<- f1] at hy;obtain ⟨q,hq,hy2⟩:=List.mem_flatMap.1 hy;exact hn (List.mem_map.2 ⟨q,hq,by rw [<- NS _ _ q hq y hy2];exact e⟩)
 rw [this,XA]
theorem avV {a b:dD} (h1:a.props=b.props) (h2:a.marks.ins=b.marks.ins) (h3:a.marks.move=b.marks.move) (h4:a.marks.bD=b.marks.bD) (h5:a.marks.layers=b.marks.layers):a=b:=by
 obtain ⟨p,⟨i,m,d,l⟩⟩:=a;obtain ⟨p',⟨i',m',d',l'⟩⟩:=b;dsimp only at h1 h2 h3 h4 h5;subst h1 h2 h3 h4 h5
 rfl
theorem Xy {h:dD} (hg:lS dJ eH h):lS (fP dJ fq) (fP eH iI) h:=by
 rcases hg with ⟨a,b⟩|⟨x,hx,b⟩
 ·exact .inl ⟨a,by unfold fP;rw [b];rfl⟩
 exact .inr ⟨x,hx,by unfold fP;rw [b];rfl⟩
theorem adN {p:Prop} (h:p:=by
 by_cases hq:lH dJ h
 ·rw [ay hq,ay (hins.2 (.inl hq)),ite_self]
 rw [au hq]
 by_cases hq2:lH fq (gL dJ eH h)
 ·rw [ay hq2,ay (hins.2 (.inr hq2))]
 rw [au hq2,au fun h=>(hins.1 h).elim hq hq2]):p:=h
theorem QO {C:aV} {e:Int} {h:dD} (hh:JR C e h) (x1:∀ q,dJ q=true->iI q=false) (x2:∀ q,eH q=true->fq q=false) (hn:¬ lS dJ eH h) :
  (lS fq iI (gL dJ eH h)↔lS (fP dJ fq) (fP eH iI) h)∧gL fq iI (gL dJ eH h)=gL (fP dJ fq) (fP eH iI) h:=by
 have g1:=(Nu dJ eH hh).1;have g2:=(Nu fq iI g1).1;have g3:=(Nu (fP dJ fq) (fP eH iI) hh).1;have hi:(gL dJ eH h).marks.ins=if lH dJ h then 0 else h.marks.ins:=rfl;have hm:(gL dJ eH h).marks.move=if lH dJ h then 0 else h.marks.move:=rfl;have hd:(gL dJ eH h).marks.bD=h.marks.bD.filter fun x=>!eH x.rev:=rfl
 have hr1:h.marks.ins≠0->eH h.marks.ins=false:=fun h0=>by
  cases hr:eH h.marks.ins
  ·rfl
  exact absurd (.inl ⟨h0,hr⟩) hn
 have ha1:∀ x∈h.marks.bD,dJ x.rev=false:=fun x hx=>by
  cases hr:dJ x.rev
  ·rfl
  exact absurd (.inr ⟨x,hx,hr⟩) hn
 have hins:lH (fP dJ fq) h↔lH dJ h∨lH fq (gL dJ eH h):=by
  unfold lH
  rw [hi]
  by_cases hq:lH dJ h
  ·rw [ay hq];exact ⟨fun _=>.inl hq,fun _=>⟨hq.1,by unfold fP;rw [hq.2];rfl⟩⟩
  rw [au hq]
  constructor
  ·rintro ⟨a,b⟩
   unfold fP at b
   rw [Bool.or_eq_true] at b;exact b.elim (fun b=>.inl ⟨a,b⟩) fun b=>.inr ⟨a,b⟩
  rintro (h|⟨a,b⟩)
  ·exact absurd h hq
  exact ⟨a,by unfold fP;rw [b,Bool.or_true]⟩
 constructor
 ·unfold lS
  rw [hi,hd]
  constructor
  ·rintro (⟨a,b⟩|⟨x,hx,b⟩)
   ·by_cases hq:lH dJ h
    ·rw [ay hq] at a;exact absurd M a
    rw [au hq] at a b;exact .inl ⟨a,by unfold fP;rw [b,Bool.or_true]⟩
   exact .inr ⟨x,(List.mem_filter.1 hx).1,by unfold fP;rw [b,Bool.or_true]⟩
  rintro (⟨a,b⟩|⟨x,hx,b⟩)
  ·unfold fP at b
   rw [hr1 a,Bool.false_or] at b
   have hq:¬ lH dJ h:=fun hq=>by rw [x1 _ hq.2] at b;cases b
   rw [au hq];exact .inl ⟨a,b⟩
  unfold fP at b
  rw [ha1 x hx,Bool.false_or] at b;refine .inr ⟨x,List.mem_filter.2 ⟨hx,?_⟩,b⟩
  cases hr:eH x.rev
  ·rfl
  rw [x2 _ hr] at b;cases b
 have hkey:∀ k,mO fq iI (gL dJ eH h).props k (ou k (gL dJ eH h).marks.layers)=mO (fP dJ fq) (fP eH iI) h.props k (ou k h.marks.layers):=fun k=>by
  obtain ⟨k1,k2⟩:=Nv (acc:=dJ) (rej:=eH) hh k;rw [XB ZG,k1,k2,XB (acc:=dJ) ZG,XB (acc:=fP dJ fq) ZG];dsimp only;rw [akj,akk,show ∀ q:lN × List (Int × lN),(q.1,q.2)=q from fun _=>rfl,afg x2]
 refine avV (aAE g2.ps.2 g3.ps.2 fun k=>?_) ?_ ?_ ?_ (azj g2.ly.2 g3.ly.2 fun k=>?_)
 ·exact (Nv g1 k).1.trans ((cO Prod.snd (hkey k)).trans (Nv hh k).1.symm)
 ·show (if lH fq (gL dJ eH h) then (0:Int) else (gL dJ eH h).marks.ins)=if lH (fP dJ fq) h then 0 else h.marks.ins
  rw [hi]
  exact adN
 ·show (if lH fq (gL dJ eH h) then (0:Int) else (gL dJ eH h).marks.move)=if lH (fP dJ fq) h then 0 else h.marks.move
  rw [hm]
  exact adN
 ·show (gL dJ eH h).marks.bD.filter (fun x=>!iI x.rev)=h.marks.bD.filter fun x=>!fP eH iI x.rev
  rw [hd,List.filter_filter];refine List.filter_congr fun x _=>?_
  unfold fP
  cases eH x.rev <;> cases iI x.rev <;> rfl
 exact (Nv g1 k).2.trans ((cO Prod.fst (hkey k)).trans (Nv hh k).2.symm)
end
section
variable {acc rej dJ eH fq iI:Int->Bool}
mutual
theorem aAI (x1:∀ q,dJ q=true->iI q=false) (x2:∀ q,eH q=true->fq q=false) (C:aV) (body note:Bool) (t:Int):∀ x:ak,mh C body note t x->bZ fq iI (mK dJ eH x)=mK (fP dJ fq) (fP eH iI) x
 | .mk k c i tx h f r,hx=>by
  have hf:=Tk x1 x2 C false true t f;have hr:=akn x1 x2 C note (t+1) r;rw [mh] at hx;obtain ⟨-,-,h3,h4,h5⟩:=hx
  have one:∀ y:ak,bZ fq iI [y]=mK fq iI y:=fun y=>by rw [bZ,bZ,fG]
  have zero:bZ fq iI []=[]:=by rw [bZ]
  rw [mK,mK]
  by_cases hg:lS dJ eH h
  ·rw [ay hg,ay (Xy hg),zero]
  obtain ⟨c1,c2⟩:=QO ((IJ _ _ _).1 h3) x1 x2 hg;rw [au hg]
  by_cases h6:k=6
  ·rw [ay h6,ay h6,one,mK,ay h6,hf (h4 h6),c2]
   simp only [c1]
  rw [au h6,au h6]
  by_cases h7:k=7
  ·rw [ay h7,ay h7];have e:=hr (h5 h7).2
   by_cases hn:(fZ dJ eH r).length=0
   ·have e2:fZ (fP dJ fq) (fP eH iI) r=[]:=by
     rw [<- e,List.eq_nil_of_length_eq_zero hn,fZ]
    rw [ay hn,zero,e2]
    simp
   rw [au hn,one,mK,au h6,ay h7,e,c2]
   simp only [c1]
  rw [au h7,au h7,one,mK,au h6,au h7,c2]
  simp only [c1]
theorem aAJ (x1:∀ q,dJ q=true->iI q=false) (x2:∀ q,eH q=true->fq q=false) (C:aV) (note:Bool) (t:Int):∀ x:aO,pI C note t x->fZ fq iI (nS dJ eH x)=nS (fP dJ fq) (fP eH iI) x
 | .mk h cs,hx=>by
  have hc:=akm x1 x2 C note t cs;rw [pI] at hx
  have one:∀ y:aO,fZ fq iI [y]=nS fq iI y:=fun y=>by rw [fZ,fZ,fG]
  have zero:fZ fq iI []=[]:=by rw [fZ]
  rw [nS,nS]
  by_cases hg:lS dJ eH h
  ·rw [ay hg,ay (Xy hg),zero]
  obtain ⟨c1,c2⟩:=QO ((IJ _ _ _).1 (Tz.1 hx.1).1) x1 x2 hg;have e:=hc hx.2;rw [au hg]
  by_cases hn:(fK dJ eH cs).length=0
  ·have e2:fK (fP dJ fq) (fP eH iI) cs=[]:=by
    rw [<- e,List.eq_nil_of_length_eq_zero hn,fK]
   rw [ay hn,zero,e2]
   simp
  rw [au hn,one,nS,e,c2]
  simp only [c1]
theorem aAH (x1:∀ q,dJ q=true->iI q=false) (x2:∀ q,eH q=true->fq q=false) (C:aV) (note:Bool) (t:Int):∀ x:aQ,pG C note t x->fK fq iI (oz dJ eH x)=oz (fP dJ fq) (fP eH iI) x
 | .mk i h f,hx=>by
  have hf:=Tk x1 x2 C false note t f;rw [pG] at hx
  have one:∀ y:aQ,fK fq iI [y]=oz fq iI y:=fun y=>by rw [fK,fK,fG]
  have zero:fK fq iI []=[]:=by rw [fK]
  rw [oz,oz]
  by_cases hg:lS dJ eH h
  ·rw [ay hg,ay (Xy hg),zero]
  obtain ⟨c1,c2⟩:=QO ((IJ _ _ _).1 hx.1) x1 x2 hg;rw [au hg,one,oz,hf hx.2,c2]
  simp only [c1]
theorem Tk (x1:∀ q,dJ q=true->iI q=false) (x2:∀ q,eH q=true->fq q=false) (C:aV) (body note:Bool) (t:Int):∀ l:List ak,iN C body note t l->bZ fq iI (bZ dJ eH l)=bZ (fP dJ fq) (fP eH iI) l
 | [],_=>by rw [bZ,bZ,bZ]
 | x :: l,h=>by
  rw [iN] at h;rw [bZ,bZ,TD,aAI x1 x2 C body note t x h.1,Tk x1 x2 C body note t l h.2]
theorem akn (x1:∀ q,dJ q=true->iI q=false) (x2:∀ q,eH q=true->fq q=false) (C:aV) (note:Bool) (t:Int):∀ l:List aO,kJ C note t l->fZ fq iI (fZ dJ eH l)=fZ (fP dJ fq) (fP eH iI) l
 | [],_=>by rw [fZ,fZ,fZ]
 | x :: l,h=>by
  rw [kJ] at h;rw [fZ,fZ,aai,aAJ x1 x2 C note t x h.1,akn x1 x2 C note t l h.2]
theorem akm (x1:∀ q,dJ q=true->iI q=false) (x2:∀ q,eH q=true->fq q=false) (C:aV) (note:Bool) (t:Int):∀ l:List aQ,lg C note t l->fK fq iI (fK dJ eH l)=fK (fP dJ fq) (fP eH iI) l
 | [],_=>by rw [fK,fK,fK]
 | x :: l,h=>by
  rw [lg] at h;rw [fK,fK,aae,aAH x1 x2 C note t x h.1,akm x1 x2 C note t l h.2]
end
def wF (acc rej:Int->Bool) (l:List ak):List ak:=iA (bZ acc rej l)
theorem Uc (l:List ak):wF acc rej l=((bZ acc rej l).map nI).foldl addN []:=by unfold wF;rw [wH,Jk]
theorem Py (a b:List ak):wF acc rej (a++b)=((bZ acc rej b).map nI).foldl addN (wF acc rej a):=by
 rw [Uc,Uc,TD,ji,List.foldl_append]
theorem aDU {a b:List ak} (h:(bZ acc rej a).map nI=(bZ acc rej b).map nI):wF acc rej a=wF acc rej b:=by rw [Uc,Uc,h]
theorem add_assoc {X:List ak} {z y:ak} (hz:¬ qG z) (hy:¬ qG y) (hj:pE z y):addN (addN X z) y=addN X (mJ z y):=by
 obtain ⟨j1,j2,j3⟩:=hj
 have hzy:¬ qG (mJ z y):=by
  rintro (⟨h,-⟩|⟨-,h⟩)
  ·have:z.kind=7:=h
   omega
  have h2:(z.text++y.text).size=0:=h;rw [ByteArray.size_append] at h2;exact hz (.inr ⟨j2,O⟩)
 by_cases hx:∃ o w,X=o++[w]∧pE w z
 ·obtain ⟨o,w,rfl,k1,k2,k3⟩:=hx;rw [zU hz ⟨k1,k2,k3⟩,zU hy (show pE (mJ w z) y from ⟨j1,k2,by show w.head=_;rw [k3,j3]⟩),zU hzy (show pE w (mJ z y) from ⟨j2,k2,k3⟩)]
  unfold mJ
  simp only [ak.kind,ak.code,ak.id,ak.text,ak.head,ak.flow,ak.rows,ByteArray.append_assoc]
 have hn:∀ o w,X=o++[w]->¬ pE w z:=fun o w e h=>hx ⟨o,w,e,h⟩;have hn2:∀ o w,X=o++[w]->¬ pE w (mJ z y):=fun o w e h=>hx ⟨o,w,e,j2,h.2.1,h.2.2⟩;rw [AQ hz hn,zU hy ⟨j1,j2,j3⟩,AQ hzy hn2]
theorem TG {x:ak} (h:x.kind=1):mK acc rej x=if lS acc rej x.head then [] else [.mk x.kind x.code x.id x.text (gL acc rej x.head) x.flow x.rows]:=by
 rw [OX,au (show ¬ x.kind=6 by omega),au (show ¬ x.kind=7 by omega)]
theorem aDT {out:List ak} {y:ak} (hc:EL out):wF acc rej (addN out y)=wF acc rej (out++[y]):=by
 have one:∀ y:ak,bZ acc rej [y]=mK acc rej y:=fun y=>by rw [bZ,bZ,fG]
 by_cases hd:qG y
 ·rw [E8 hd,Py,one]
  rcases hd with ⟨h7,hr⟩|⟨h1,ht⟩
  ·rw [OX,au (show ¬ y.kind=6 by omega),ay h7,List.eq_nil_of_length_eq_zero hr,fZ]
   by_cases hg:lS acc rej y.head
   ·rw [ay hg];rfl
   rw [au hg,ay (by rfl)];rfl
  rw [TG h1]
  split
  ·rfl
  rw [dO,qZ,List.foldl_cons,List.foldl_nil,E8];rw [nI];exact .inr ⟨h1,ht⟩
 by_cases hj:∃ o z,out=o++[z]∧pE z y
 ·obtain ⟨o,z,rfl,hz⟩:=hj;have hdz:=hc.1 z (by simp);rw [zU hd hz,Py,iL,Py,List.singleton_append,one,bZ,one,TG hz.2.1,TG (show (mJ z y).kind=1 from hz.2.1),TG hz.1]
  show List.foldl addN _ (List.map nI (if lS acc rej z.head then [] else [.mk z.kind z.code z.id (z.text++y.text) (gL acc rej z.head) z.flow z.rows]))=_
  rw [<- hz.2.2]
  split
  ·rfl
  simp only [dO,qZ,List.foldl_cons,List.foldl_nil,List.singleton_append]
  rw [add_assoc]
  ·rw [nI,nI,nI];rfl
  ·rw [nI];exact fun hq=>hq.elim (fun h=>by have h7:z.kind=7:=h.1;have:=hz.2.1;omega) fun h=>hdz (.inr h)
  ·rw [nI];exact fun hq=>hq.elim (fun h=>by have h7:y.kind=7:=h.1;have:=hz.1;omega) fun h=>hd (.inr h)
  rw [nI,nI];exact ⟨hz.1,hz.2.1,M⟩
 rw [AQ hd fun o z e h=>hj ⟨o,z,e,h⟩]
theorem ami:∀ (A out:List ak),EL out->wF acc rej (A.foldl addN out)=wF acc rej (out++A)
 | [],out,_=>by rw [List.foldl_nil,fG]
 | y :: A,out,h=>by
  rw [List.foldl_cons,ami A _ (aeA h),Py,aDT h,<- Py,iL];rfl
theorem aaW {l:List ak} (h:(bZ acc rej (lV l)).map nI=(bZ acc rej l).map nI):wF acc rej (iA l)=wF acc rej l:=by
 rw [wH,ami _ _ Wm,jA];exact aDU h
theorem ajD (l:List aO):(kW l).length=l.length:=by rw [F6,bK]
theorem ajy (l:List aQ):(kV l).length=l.length:=by rw [Jj,bK]
mutual
theorem aBi:∀ x:ak,(mK acc rej (nI x)).map nI=(mK acc rej x).map nI
 | .mk k c i tx h f r=>by
  have hf:=aaW (Tw f);have hr:=akx r
  unfold wF at hf
  rw [wH f,wH (bZ acc rej ((lV f).foldl addN [])),wH (bZ acc rej f)] at hf
  have e:(fZ acc rej (kW r)).length=(fZ acc rej r).length:=by
   have:=cO List.length hr
   rwa [ajD,ajD] at this
  have hff:=Xk (SN f);have hrr:=ZM r;rw [nI,mK,mK]
  split
  ·rfl
  split
  ·rw [dO,dO,nI,nI,hf,hrr]
  split
  ·rw [e]
   split
   ·rfl
   rw [dO,dO,nI,nI,hr,hff]
  rw [dO,dO,nI,nI,hff,hrr]
theorem aBj:∀ x:aO,kW (nS acc rej (nR x))=kW (nS acc rej x)
 | .mk h cs=>by
  have hc:=akw cs
  have e:(fK acc rej (kV cs)).length=(fK acc rej cs).length:=by
   have:=cO List.length hc
   rwa [ajy,ajy] at this
  rw [nR,nS,nS,e]
  split
  ·rfl
  split
  ·rfl
  simp only [kW,nR,hc]
theorem aBh:∀ x:aQ,kV (oz acc rej (nC x))=kV (oz acc rej x)
 | .mk i h f=>by
  have hf:=aaW (Tw f)
  unfold wF at hf
  rw [wH f,wH (bZ acc rej ((lV f).foldl addN [])),wH (bZ acc rej f)] at hf;rw [nC,oz,oz]
  split
  ·rfl
  simp only [kV,nC,hf]
theorem Tw:∀ l:List ak,(bZ acc rej (lV l)).map nI=(bZ acc rej l).map nI
 | []=>by rw [lV]
 | x :: l=>by
  have h1:=aBi x;have h2:=Tw l;rw [lV,bZ,bZ,ji,ji,h1,h2]
theorem akx:∀ l:List aO,kW (fZ acc rej (kW l))=kW (fZ acc rej l)
 | []=>by rw [kW]
 | x :: l=>by
  have h1:=aBj x;have h2:=akx l
  have app:∀ a b:List aO,kW (a++b)=kW a++kW b:=fun a b=>by rw [F6,F6,F6,ji]
  rw [kW,fZ,fZ,app,app,h1,h2]
theorem akw:∀ l:List aQ,kV (fK acc rej (kV l))=kV (fK acc rej l)
 | []=>by rw [kV]
 | x :: l=>by
  have h1:=aBh x;have h2:=akw l
  have app:∀ a b:List aQ,kV (a++b)=kV a++kV b:=fun a b=>by rw [Jj,Jj,Jj,ji]
  rw [kV,fK,fK,app,app,h1,h2]
end
theorem amj (l:List ak):iA (bZ acc rej (iA l))=iA (bZ acc rej l):=aaW (Tw l)
theorem azu (d:gX):pF (kK acc rej (nD d))=⟨iA (bZ acc rej d.flow),eU acc rej d.fin,(nD d).revs,d.lK⟩:=by
 show (⟨iA (bZ acc rej (iA d.flow)),_,_,_⟩:gX)=_
 rw [amj];rfl
theorem SK (d:gX):nD d=⟨iA d.flow,d.fin,d.revs.filter (fun r=>decide (r.id∈nV (pF d))),d.lK⟩:=by
 unfold nD;rw [aja]
theorem aBx {d:gX} (h:iQ d=0):nD (kK acc rej (nD d))=nD (kK acc rej d):=by
 have hu:nV (pF (kK acc rej (nD d)))=nV (pF (kK acc rej d)):=by rw [azu];rfl
 have hk:∀ q∈nV (pF (kK acc rej d)),q∈(nD d).revs.map cB.id:=fun q hq=>by
  rw [<- hu] at hq;obtain ⟨x,hx,e⟩:=List.mem_map.1 (aDG (ajA h) hq);exact List.mem_map.2 ⟨x,(List.mem_filter.1 hx).1,e⟩
 have hr:(nD d).revs.filter (fun r=>decide (r.id∈nV (pF (kK acc rej d))))=d.revs.filter fun r=>decide (r.id∈nV (pF (kK acc rej d))):=by
  rw [SK d];dsimp only;rw [List.filter_filter];refine List.filter_congr fun r hr=>?_
  by_cases hq:r.id∈nV (pF (kK acc rej d))
  ·obtain ⟨x,hx,e⟩:=List.mem_map.1 (hk _ hq);rw [SK d] at hx;have h2:=(List.mem_filter.1 hx).2;rw [e] at h2;rw [h2,Bool.and_true]
  rw [qE hq,Hq]
 rw [SK (kK acc rej (nD d)),SK (kK acc rej d),hu]
 show (⟨iA (bZ acc rej (iA d.flow)),eU acc rej d.fin,(nD d).revs.filter _,d.lK⟩:gX)=⟨iA (bZ acc rej d.flow),eU acc rej d.fin,d.revs.filter _,d.lK⟩
 rw [amj,hr]
theorem atJ {d:gX} (h:iQ d=0):¬ lS acc rej d.fin∧JR d.jT 3 d.fin:=by
 obtain ⟨-,⟨g2,g3⟩,-,-,-⟩:=(yV _).1 h;refine ⟨?_,(IJ _ _ _).1 g2⟩
 exact acG
theorem aBo {d:gX} (h:iQ d=0) (x1:∀ q,dJ q=true->iI q=false) (x2:∀ q,eH q=true->fq q=false):kK fq iI (kK dJ eH d)=kK (fP dJ fq) (fP eH iI) d:=by
 obtain ⟨-,-,g4,-,-⟩:=(yV _).1 h;obtain ⟨f1,f2⟩:=atJ (acc:=dJ) (rej:=eH) h;obtain ⟨c1,c2⟩:=QO f2 x1 x2 f1;have e1:=Tk x1 x2 d.jT true false 0 d.flow g4;have a1:eU dJ eH d.fin=gL dJ eH d.fin:=au f1
 unfold kK
 dsimp only;rw [e1,a1]
 unfold eU
 simp only [c1,c2]
theorem twice {d:gX} (h:iQ d=0) (x1:∀ q,dJ q=true->iI q=false) (x2:∀ q,eH q=true->fq q=false):nD (kK fq iI (nD (kK dJ eH d)))=nD (kK (fP dJ fq) (fP eH iI) d):=by
 rw [aBx (TB h),aBo h x1 x2]
end
theorem yL.up {n m:Nat} {d:gX} (h:yL n d) (hm:n<=m):yL m d:=⟨h.z,Nat.le_trans h.fl hm,Nat.le_trans h.hd hm⟩
section
def Mj (ch:List (Nat × Nat)) (m:Nat):Option Nat:=(ch.find? fun q=>Nat.beq q.2 m).map (·.1)
def Mi (ch:List (Nat × Nat)) (x:Nat->ah × OL) (m:Nat):OL:=match Mj ch m with|some p=>(x p).2|none=>[]
def live (ch:List (Nat × Nat)) (S:Nat->Bool) (m:Nat):Bool:=S m && ch.all fun q=>!Nat.beq q.1 m || !S q.2
def KC (ms:List Nat) (ch:List (Nat × Nat)) (bT:List (List Nat)):Bool :=
 (ch.all fun q=>ms.contains q.1 && ms.contains q.2 && (bT.getD q.2 []).contains q.1 && !Nat.beq q.1 q.2) && decide ((ch.map (·.1)).Nodup) && decide ((ch.map (·.2)).Nodup)
theorem KO {P:Nat->Bool} {x:Nat->ah × OL} {m:Nat} {ms:List Nat} (h:m∈ms):(jk ms P x).Perm ((bif P m then (x m).2 else [])++jk (ms.erase m) P x):=by
 have h1:(jk ms P x).Perm (jk (m :: ms.erase m) P x):=(List.perm_cons_erase h).flatMap_right _
 refine h1.trans ?_
 unfold jk
 rw [List.flatMap_cons]
theorem Rw {P Q:Nat->Bool} {x y:Nat->ah × OL} {ms:List Nat} (h:∀ m∈ms,P m=Q m∧x m=y m):jk ms P x=jk ms Q y:=by
 induction ms with
 | nil=>rfl
 | cons k ms ih =>
  have ih:=ih fun m hm=>h m (gI _ hm)
  obtain ⟨h1,h2⟩:=h k dV
  unfold jk at ih |-
  rw [List.flatMap_cons,List.flatMap_cons,ih,h1,h2]
theorem CZ {ch:List (Nat × Nat)} {S:Nat->Bool} {m:Nat}:live ch S m=true↔S m=true∧∀ q∈ch,q.1=m->S q.2=false:=by
 unfold live
 rw [iC,jR]
 refine and_congr_right fun _=>forall_congr' fun q=>forall_congr' fun _=>?_
 by_cases e:q.1=m
 ·subst e
  simp
 ·simp [wQ e,e]
theorem azL {ch:List (Nat × Nat)}:(ch.map (·.1)).Nodup->∀ {p q:Nat × Nat},p∈ch->q∈ch->p.1=q.1->p=q:=by
 induction ch with
 | nil=>intro _ p q h;cases h
 | cons c ch ih =>
  intro hn p q hp hq e
  rw [dO,List.nodup_cons] at hn
  rcases gu.1 hp with h1|h1 <;> rcases gu.1 hq with h2|h2
  ·rw [h1,h2]
  ·rw [h1] at e
   exact absurd (e ▸ List.mem_map_of_mem h2) hn.1
  ·rw [h2] at e
   exact absurd (e ▸ List.mem_map_of_mem h1) hn.1
  ·exact ih hn.2 h1 h2 e
theorem azM {ch:List (Nat × Nat)}:(ch.map (·.2)).Nodup->∀ {p q:Nat × Nat},p∈ch->q∈ch->p.2=q.2->p=q:=by
 induction ch with
 | nil=>intro _ p q h;cases h
 | cons c ch ih =>
  intro hn p q hp hq e
  rw [dO,List.nodup_cons] at hn
  rcases gu.1 hp with h1|h1 <;> rcases gu.1 hq with h2|h2
  ·rw [h1,h2]
  ·rw [h1] at e
   exact absurd (e ▸ List.mem_map_of_mem h2) hn.1
  ·rw [h2] at e
   exact absurd (e ▸ List.mem_map_of_mem h1) hn.1
  ·exact ih hn.2 h1 h2 e
theorem aAF {ch:List (Nat × Nat)} {m p:Nat} (h:Mj ch m=some p):(p,m)∈ch:=by
 unfold Mj at h
 obtain ⟨q,h1,rfl⟩:=oO.1 h
 have h2:q.2=m:=by simpa using List.find?_some h1
 exact h2 ▸ List.mem_of_find?_eq_some h1
theorem aAG {ch:List (Nat × Nat)} {m:Nat} (h:Mj ch m=none):∀ q∈ch,¬ q.2=m:=by
 intro q hq e
 unfold Mj at h
 rw [Option.map_eq_none_iff,List.find?_eq_none] at h
 exact h q hq (by rw [e];exact Nat.beq_refl m)
theorem azd {ms:List Nat} {ch:List (Nat × Nat)} {bT:List (List Nat)} {S:Nat->Bool} {x:Nat->ah × OL} {m:Nat} (hnd:ms.Nodup) (hc:KC ms ch bT=true) (hm:m∈ms) (hS:S m=false) (hd:∀ j∈bT.getD m [],S j=true) (hu:∀ q∈ch,q.1=m->S q.2=false) :
  ∃ R:OL,(jk ms (live ch S) x).Perm (Mi ch x m++R)∧∀ y:ah × OL,(jk ms (live ch (dL S m)) (oL x m y)).Perm (y.2++R):=by
 unfold KC at hc
 rw [iC,iC,jR,decide_eq_true_iff,decide_eq_true_iff] at hc
 obtain ⟨⟨h1,h2⟩,h3⟩:=hc
 have hq:∀ q∈ch,q.1∈ms∧q.2∈ms∧q.1∈bT.getD q.2 []∧¬ q.1=q.2:=fun q hq=>by
  have:=h1 q hq
  rw [iC,iC,iC,qX,qX,qX] at this
  obtain ⟨⟨⟨a,b⟩,c⟩,d⟩:=this
  exact ⟨a,b,c,fun e=>by rw [e,Nat.beq_refl] at d;cases d⟩
 have hlm:live ch S m=false:=by
  cases h:live ch S m with
  | false=>rfl
  | true=>rw [CZ] at h;rw [h.1] at hS;cases hS
 have ahJ:live ch (dL S m) m=true:=CZ.2 ⟨ay M,fun q hq1 e=>by
  have:=hu q hq1 e
  rwa [show dL S m q.2=S q.2 from au fun e2=>(hq q hq1).2.2.2 (e.trans e2.symm)]⟩
 have hother:∀ j,j≠m->(∀ q∈ch,q.1=j->q.2≠m)->live ch S j=live ch (dL S m) j:=fun j hj hn=>by
  rw [Ck,CZ,CZ,show dL S m j=S j from au hj]
  refine and_congr_right fun _=>forall_congr' fun q=>forall_congr' fun hq1=>forall_congr' fun e=>?_
  rw [show dL S m q.2=S q.2 from au (hn q hq1 e)]
 have hx:∀ y j,j≠m->x j=oL x m y j:=fun y j hj=>(aaS hj).symm
 have hne:∀ j∈ms.erase m,j≠m:=fun j hj e=>by rw [e] at hj;exact (List.Nodup.not_mem_erase hnd) hj
 cases hp:Mj ch m with
 | none =>
  refine ⟨jk (ms.erase m) (live ch S) x,?_,fun y=>?_⟩
  ·have:=KO (P:=live ch S) (x:=x) hm
   rw [hlm] at this
   simpa [Mi,hp] using this
  ·have:=KO (P:=live ch (dL S m)) (x:=oL x m y) hm
   rw [ahJ,aaR] at this
   rw [Rw (P:=live ch S) (Q:=live ch (dL S m)) (y:=oL x m y) fun j hj=>⟨hother j (hne j hj) fun q hq1 _=>aAG hp q hq1,hx y j (hne j hj)⟩]
   exact this
 | some p =>
  have hpm:=aAF hp
  obtain ⟨g1,g2,g3,g4⟩:=hq _ hpm
  have hpe:p∈ms.erase m:=(List.mem_erase_of_ne g4).2 g1
  have hlp:live ch S p=true:=CZ.2 ⟨hd p g3,fun q hq1 e=>by
   have:=azL h2 hq1 hpm e
   rw [this];exact hS⟩
  have awu:live ch (dL S m) p=false:=by
   cases h:live ch (dL S m) p with
   | false=>rfl
   | true =>
    have:=(CZ.1 h).2 _ hpm M
    rw [show dL S m m=true from ay M] at this
    cases this
  refine ⟨jk ((ms.erase m).erase p) (live ch S) x,?_,fun y=>?_⟩
  ·have e1:=KO (P:=live ch S) (x:=x) hm
   have e2:=KO (P:=live ch S) (x:=x) hpe
   rw [hlm] at e1
   rw [hlp] at e2
   simp only [cond_false,jA,cond_true] at e1 e2
   simpa [Mi,hp] using e1.trans e2
  ·have e1:=KO (P:=live ch (dL S m)) (x:=oL x m y) hm
   have e2:=KO (P:=live ch (dL S m)) (x:=oL x m y) hpe
   rw [ahJ,aaR] at e1
   rw [awu] at e2
   simp only [cond_false,jA,cond_true] at e1 e2
   rw [Rw (P:=live ch S) (Q:=live ch (dL S m)) (y:=oL x m y) fun j hj=>by
    have hj1:=List.mem_of_mem_erase hj
    have hjm:=hne j hj1
    have hjp:j≠p:=fun e=>by rw [e] at hj;exact (List.Nodup.not_mem_erase (hnd.erase m)) hj
    exact ⟨hother j hjm fun q hq1 e e2=>hjp (by rw [<- e,azM h3 hq1 hpm e2]),hx y j hjm⟩]
   exact e1.trans (List.Perm.append_left _ e2)
section
variable {N:Nat} {D:List Deferred} {w0:World} {F:Nat->Prop} {G0 G G1 G2:GH} {L L1 L2:OL} {T Xs:List (Nat × ah)}
variable {r:Option Nat} {P:Program} {Q:Exit->Act->World->Prop} {l:List Oper} {a a':Act} {w w':World}
theorem aop {id:Nat} (ms:List Nat) (ch:List (Nat × Nat)) (hm:P.follows .mixedOrders=true) (bT:List (List Nat)) (B:List Nat) (hk:Ab l bT=true) (hB:yJ l bT B=true) (hnd:ms.Nodup) (hms:(ms.all fun m=>Nat.blt m l.length && !B.contains m)=true) (hc:KC ms ch bT=true) (pr:(Nat->ah × OL)->Nat->ah->GH->Prop)
  (hp:∀ m,ms.contains m=true->∀ x y i v G,Nat.beq i m=false->(bT.getD i []).contains m=false->pr x i v G->pr (oL x m y) i v G)
  (H:St N D w0 F G0 G L T a w)
  (hstep:allI (fun i o=>∀ x L' S a w G1,(∀ q,q∈L->q∈L')->B.contains i=false->ms.contains i=false->S i=false->(∀ j∈bT.getD i [],S j=true)->(∀ k o,G k=some o->G1 k=some o)->St N D w0 F G0 G1 L' T a w->(∀ i d,S i=true->eX l i=some d->∃ v,a.tmps[d]?=some v∧pr x i v G1) ->
   WL r P l.toArray (fun e a' w'=>e=.normal∧DX N D w0 F G0 G L' T l (pr x) (dL S i) a' w') [o] a w) 0 l)
  (hmid:allI (fun m o=>ms.contains m=true->∀ x L' S a w G1,(∀ q,q∈L->q∈L')->S m=false->(∀ j∈bT.getD m [],S j=true)->(∀ k o,G k=some o->G1 k=some o)->St N D w0 F G0 G1 (Mi ch x m++L') T a w->(∀ y i d,i≠m->S i=true->eX l i=some d->∃ v,a.tmps[d]?=some v∧pr x i v G1∧pr (oL x m y) i v G1) ->
   WL r P l.toArray (fun e a' w'=>e=.normal∧∃ y,DX N D w0 F G0 G (y.2++L') T l (pr (oL x m y)) (dL S m) a' w') [o] a w) 0 l)
  (hend:∀ x a w G1,(∀ k o,G k=some o->G1 k=some o)->St N D w0 F G0 G1 (jk ms (live ch fun _=>true) x++L) T a w->(∀ i d,B.contains i=false->eX l i=some d->∃ v,a.tmps[d]?=some v∧pr x i v G1)->WL r P l.toArray (fun e a w=>e=.normal∧Q .normal a w) (rH l B) a w):WP r P (.region id l.toArray true) Q a w:=by
 have hu:∀ {m i:Nat} {S:Nat->Bool},(∀ j,j < l.length->i∈bT.getD j []->S j=false)->∀ q∈ch,q.1=i->S q.2=false:=by
  intro m i S hdesc q hq e
  have h1:=hc
  unfold KC at h1
  rw [iC,iC,jR] at h1
  have h2:=h1.1.1 q hq
  rw [iC,iC,iC,qX,qX,qX] at h2
  have h3:=jR.1 hms q.2 h2.1.1.2
  rw [iC] at h3
  exact hdesc q.2 (Eq.mp Nat.blt_eq h3.1) (e ▸ h2.1.2)
 refine Kv hm bT B hk hB (fun S a w=>∃ x,DX N D w0 F G0 G (jk ms (live ch S) x++L) T l (pr x) S a w)
  ⟨fun _=>(.bool false,[]),DX.perm (L1:=L) ⟨G,fun _ _ h=>h,H.move H.hp.drew,fun _ _ h=>absurd (show false=true from h) Z⟩ (by
   have:∀ ms:List Nat,jk ms (live ch fun _=>false) (fun _=>(.bool false,[]))=[]:=fun ms=>by
    induction ms with
    | nil=>rfl
    | cons k ms ih=>unfold jk at ih |-;rw [List.flatMap_cons,ih];rfl
   rw [this];exact List.Perm.refl _)⟩ ?_ ?_
 ·rintro i o S a w ho hb aK mg hdesc ⟨x,G1,hG,HS,hv⟩
  have hsub:∀ q,q∈L->q∈jk ms (live ch S) x++L:=fun q hq=>List.mem_append_right _ hq
  have hno:∀ j,j < l.length->S j=true->(bT.getD j []).contains i=false:=fun j hjl hj=>by
   cases hc:(bT.getD j []).contains i with
   | false=>rfl
   | true =>
    have:=hdesc j hjl (by simpa using hc)
    rw [this] at hj;cases hj
  cases hi:ms.contains i with
  | true =>
   obtain ⟨R,zo,hR2⟩:=azd (x:=x) hnd hc (by simpa using hi) aK mg (hu (m:=i) hdesc)
   have h:=AU hmid i o ho
   rw [gZ] at h
   have HS2:=HS.perm ((List.Perm.append_right L zo).trans (List.Perm.of_eq (iL ..)))
   have h:=h hi x (R++L) S a w G1 (fun q hq=>List.mem_append_right _ hq) aK mg hG HS2 fun y j d hj hSj hd=>by
    obtain ⟨v,hv1,hv2⟩:=hv j d hSj hd
    exact ⟨v,hv1,hv2,hp i hi x y j v _ (wQ hj) (hno j (wS hd) hSj) hv2⟩
   refine qy (fun e a' w' ⟨he,y,hD⟩=>⟨he,oL x i y,hD.perm ?_⟩) h
   rw [<- iL]
   exact List.Perm.append_right L (hR2 y).symm
  | false =>
   have h:=AU hstep i o ho
   rw [gZ] at h
   have hni:i∉ms:=by simpa using hi
   have e:jk ms (live ch (dL S i)) x=jk ms (live ch S) x:=Rw fun j hj=>⟨by
    have hji:j≠i:=fun e=>hni (e ▸ hj)
    rw [Ck,CZ,CZ,show dL S i j=S j from au hji]
    refine and_congr_right fun _=>forall_congr' fun q=>forall_congr' fun hq1=>forall_congr' fun e=>?_
    have h1:=hc
    unfold KC at h1
    rw [iC,iC,jR] at h1
    have h2:=h1.1.1 q hq1
    rw [iC,iC,iC,qX,qX] at h2
    rw [show dL S i q.2=S q.2 from au (show ¬ q.2=i from fun e=>hni (e ▸ h2.1.1.2))],M⟩
   refine qy (fun e' a' w' ⟨he,hD⟩=>⟨he,x,?_⟩) (h x _ S a w G1 hsub hb hi aK mg hG HS hv)
   rw [e]
   exact hD
 ·rintro S a w hall Oi ⟨x,G1,hG,HS,hv⟩
  have hS:∀ m∈ms,S m=true:=fun m hmm=>by
   have h:=jR.1 hms m hmm
   rw [iC] at h
   exact hall m (Eq.mp Nat.blt_eq h.1) (by simpa using h.2)
  have e:jk ms (live ch S) x=jk ms (live ch fun _=>true) x:=Rw fun j hj=>⟨by
   rw [Ck,CZ,CZ]
   refine and_congr (by simp [hS j hj]) (forall_congr' fun q=>forall_congr' fun hq1=>forall_congr' fun e=>?_)
   have h1:=hc
   unfold KC at h1
   rw [iC,iC,jR] at h1
   have h2:=h1.1.1 q hq1
   rw [iC,iC,iC,qX,qX] at h2
   rw [hS q.2 h2.1.1.2],M⟩
  rw [e] at HS
  exact hend x a w G1 hG HS fun j d hb hd=>hv j d (hall j (wS hd) hb) hd
end
end
section
section
variable {N:Nat} {D:List Deferred} {w0:World} {F:Nat->Prop} {G0 G G1 G2:GH} {L L1 L2:OL} {T Xs:List (Nat × ah)}
variable {r:Option Nat} {P:Program} {Q:Exit->Act->World->Prop} {l:List Oper} {a a':Act} {w w':World}
end
end
theorem Qa.row {G:GH} {L:OL} {but:List Int} {B:Option Addr} {c:Nat} {xs:List ah} (h:bY 3 1 (.slice B but.length c) but.length xs L) (hx:xs=but.map vi):Qa G L B but:=fun i hi=>by
 rcases h.2 with ⟨-,h0,-⟩|⟨b,cap,cur,e,rfl,h1,h2,h3,h4⟩
 ·omega
 injection e with e1 e2 e3
 subst e1;refine ⟨b,0,M,.inr ⟨cur,dV,?_⟩⟩
 have h5:(cur.toList.take (but.length*1))[i]?=some (vi but[i]):=by rw [h4,hx];simp [hi]
 rw [uS,jl] at h5;rw [Nat.mul_one,gZ]
 simpa using h5
theorem agF:∀ l:List Int,(l.map fun k=>[vi k]).flatten=l.map vi
 | []=>rfl
 | x :: l=>by rw [dO,List.flatten_cons,agF l];rfl
theorem V9 {G:GH}:∀ {l:List Int} {xs:List ah},dx G 1 (l.map fun k=>[li k]) xs->xs=l.map vi:=by
 rintro l _ ⟨css,rfl,hl,h⟩;rw [bK] at hl
 have e:css=l.map fun k=>[vi k]:=by
  refine List.ext_getElem (by simpa using hl) fun i h1 h2=>?_
  have hi:i < l.length:=by simpa using h2
  have h3:=(h i [li l[i]] css[i] (by simp [hi]) (by simp [h1])).1;rw [List.getElem_map]
  simp only [aX] at h3
  obtain ⟨_,_,e,⟨rfl,-⟩,rfl⟩:=h3;exact e
 rw [e];exact agF l
theorem ajS {d:gX} (h:iQ d=0):Hg d.flow:=by
 have h1:=lQ h _ (gI _ (gI _ dV));exact Hg.of (QM h1)
structure UY (G:GH) (A R B S:List Int) (va vr vb vs:ah):Prop where
 ha:av G (.sl 1 (A.map fun k=>[li k])) va
 hr:av G (.sl 1 (R.map fun k=>[li k])) vr
 hb:av G (.sl 1 (B.map fun k=>[li k])) vb
 hs:av G (.sl 1 (S.map fun k=>[li k])) vs
 la:A.length<=4294967296
 lr:R.length<=4294967296
 lb:B.length<=4294967296
 ls:S.length<=4294967296
theorem UY.mono {G G':GH} {A R B S:List Int} {va vr vb vs:ah} (hm:∀ b o,G b=some o->G' b=some o) (h:UY G A R B S va vr vb vs):UY G' A R B S va vr vb vs:=⟨h.ha.mono hm,h.hr.mono hm,h.hb.mono hm,h.hs.mono hm,h.la,h.lr,h.lb,h.ls⟩
theorem WV:aR 42:=aS func42 M
mutual
/-- The flows that are left in the final view. -/
def FY:ak->List Int
 | .mk k c i tx h f r=>if nT (.mk k c i tx h f r)=true then (if k=6 then i :: iH f else [])++rG r else []
def FZ:aO->List Int
 | .mk h cs=>if rP (.mk h cs)=true then sw cs else []
def FX:aQ->List Int
 | .mk i h f=>if mU h=true then i :: iH f else []
def iH:List ak->List Int
 | []=>[]
 | x :: l=>FY x++iH l
def rG:List aO->List Int
 | []=>[]
 | x :: l=>FZ x++rG l
def sw:List aQ->List Int
 | []=>[]
 | x :: l=>FX x++sw l
end
theorem ayM (x:ak):FY x=if nT x=true then (if x.kind=6 then x.id :: iH x.flow else [])++rG x.rows else []:=by cases x;rw [FY];rfl
theorem aji (x:aO):FZ x=if rP x=true then sw x.cells else []:=by cases x;rw [FZ];rfl
theorem ajf (x:aQ):FX x=if mU x.head=true then x.id :: iH x.flow else []:=by cases x;rw [FX];rfl
theorem Zp:∀ a b:List ak,iH (a++b)=iH a++iH b
 | [],b=>by simp [iH]
 | x :: a,b=>by simp [iH,Zp a b]
theorem Zr:∀ a b:List aO,rG (a++b)=rG a++rG b
 | [],b=>by simp [rG]
 | x :: a,b=>by simp [rG,Zr a b]
theorem Zo:∀ a b:List aQ,sw (a++b)=sw a++sw b
 | [],b=>by simp [sw]
 | x :: a,b=>by simp [sw,Zo a b]
theorem ajh {l:List ak} {k:Nat} (h:k < l.length):iH (l.take (k+1))=iH (l.take k)++FY l[k]:=by rw [jK h,Zp];simp [iH]
theorem ajj {l:List aO} {k:Nat} (h:k < l.length):rG (l.take (k+1))=rG (l.take k)++FZ l[k]:=by rw [jK h,Zr];simp [rG]
theorem ajg {l:List aQ} {k:Nat} (h:k < l.length):sw (l.take (k+1))=sw (l.take k)++FX l[k]:=by rw [jK h,Zo];simp [sw]
mutual
theorem ayJ:∀ x:ak,(FY x).length<=1+bX x.dat
 | .mk k c i tx h f r=>by
  have hf:=Jd f;have hr:=Zl r;have e:=uP (.mk k c i tx h f r)
  simp only [ak.text,ak.head,ak.flow,ak.rows] at e
  rw [FY]
  split
  ·rw [gF]
   split
   ·rw [kR];omega
   rw [List.length_nil];omega
  exact Fb
theorem ayK:∀ x:aO,(FZ x).length<=1+bX x.dat
 | .mk h cs=>by
  have hc:=Zk cs;have e:=zP (.mk h cs)
  simp only [aO.head,aO.cells] at e
  rw [FZ]
  split
  ·omega
  exact Fb
theorem ayI:∀ x:aQ,(FX x).length<=1+bX x.dat
 | .mk i h f=>by
  have hf:=Jd f;have e:=zO (.mk i h f)
  simp only [aQ.head,aQ.flow] at e
  rw [FX]
  split
  ·rw [kR];omega
  exact Fb
theorem Jd:∀ l:List ak,(iH l).length<=bq l
 | []=>by simp [iH]
 | x :: l=>by
  have h1:=ayJ x;have h2:=Jd l;rw [iH,gF,show bq (x :: l)=1+bX x.dat+bq l by simp [bq,dM]];omega
theorem Zl:∀ l:List aO,(rG l).length<=fQ l
 | []=>by simp [rG]
 | x :: l=>by
  have h1:=ayK x;have h2:=Zl l;rw [rG,gF,show fQ (x :: l)=1+bX x.dat+fQ l by simp [fQ,dM]];omega
theorem Zk:∀ l:List aQ,(sw l).length<=gH l
 | []=>by simp [sw]
 | x :: l=>by
  have h1:=ayI x;have h2:=Zk l;rw [sw,gF,show gH (x :: l)=1+bX x.dat+gH l by simp [gH,dM]];omega
end
theorem Vr {p:Prop} (h:p:=by
 rw [List.take_append_drop,gF] at h2;omega):p:=h
theorem ayN (l:List ak) (j:Nat):(iH (l.take j)).length<=bq l:=by
 have h1:=Jd l;have h2:=cO List.length (Zp (l.take j) (l.drop j));exact Vr
theorem ayO (l:List aO) (j:Nat):(rG (l.take j)).length<=fQ l:=by
 have h1:=Zl l;have h2:=cO List.length (Zr (l.take j) (l.drop j));exact Vr
theorem ayL (l:List aQ) (j:Nat):(sw (l.take j)).length<=gH l:=by
 have h1:=Zk l;have h2:=cO List.length (Zo (l.take j) (l.drop j));exact Vr
theorem Qx {p:Prop} (h:p:=by
 rw [<- ji,List.take_append_drop] at h;exact h):p:=h
theorem aEk {l:List aO} {j:Nat} (h:j < l.length):gH l[j].cells<=fQ l:=by
 have e:=zP l[j]
 have h1:fQ l=fQ (l.take j)+fQ (l.drop j):=by
  have h:=Dp ((l.take j).map aO.dat) ((l.drop j).map aO.dat);exact Qx
 rw [nK h,show ∀ (x:aO) (L:List aO),fQ (x :: L)=1+bX x.dat+fQ L from fun x L=>by simp [fQ,dM]] at h1
 omega
theorem aEf {l:List aQ} {j:Nat} (h:j < l.length):bq l[j].flow+1<=gH l:=by
 have e:=zO l[j]
 have h1:gH l=gH (l.take j)+gH (l.drop j):=by
  have h:=Dp ((l.take j).map aQ.dat) ((l.drop j).map aQ.dat);exact Qx
 rw [nK h,show ∀ (x:aQ) (L:List aQ),gH (x :: L)=1+bX x.dat+gH L from fun x L=>by simp [gH,dM]] at h1
 omega
theorem aEj {l:List ak} {j:Nat} (h:j < l.length):bq l[j].flow+fQ l[j].rows+1<=bq l:=by
 have e:=uP l[j]
 have h1:bq l=bq (l.take j)+bq (l.drop j):=by
  have h:=Dp ((l.take j).map ak.dat) ((l.drop j).map ak.dat);exact Qx
 rw [nK h,show ∀ (x:ak) (L:List ak),bq (x :: L)=1+bX x.dat+bq L from fun x L=>by simp [bq,dM]] at h1
 omega
def UF (n:Nat):Prop:=∀ (G:GH) (w0:World),Hold G w0->∀ (l:List ak) (v:ah),av G (.sl 11 (l.map ak.dat)) v->bq l < n->Calls prog 42 #[v] w0 (bE w0 G fun u G'=>av G' (.sl 1 ((iH l).map fun k=>[li k])) u)
theorem acD {p:Prop} (h:p:=by
 exact Ac HT Hb hG hv (aip aP gy) H M):p:=h
theorem aob {p:Prop} (h:p:=by
 exact Ac HT Hb hG hv (ain aP gy) H M):p:=h
theorem Qs {p:Prop} (h:p:=by
 intro aP gy dU aW a w G1 fE _ _ _ _ aK hc hG HT hv;have H:=HT;clear aK;have Hb:=H.full;have H:=Hb;clear hc;refine kH H (Rm M ?_);clear H;intro a H;refine aD ⟨M,?_⟩;exact acD):p:=h
theorem Nb {p:Prop} (h:p:=by
 clear H;intro a H;refine aD ⟨M,?_⟩;exact acD):p:=h
theorem Qz {p:Prop} (h:p:=by
 clear H;intro a H;refine aD ⟨M,?_⟩;exact aob):p:=h
theorem adu {p:Prop} (h:p:=by
 have Hb:=H.full;have H:=Hb;clear hc;refine kH H (Ri iB eZ M M ?_);exact Nb):p:=h
set_option maxHeartbeats 8000000 in
theorem ayC {n:Nat} (ih:UF n) (hn:n<=1073741824):UF (n+1):=by
 intro G w0 hG l v hv hz;obtain ⟨LA,PY,rfl,hc1,hc2,hg⟩:=hv.slice;have hml:maxLen=9223372036854775807:=rfl;have hll:=Dw l;rw [bK] at *;refine eN [(0,_)] func42 M ntmps42 M M hG ?_;intro a H;refine kP H (SR fun _ K1=>aj K1 M (SR fun _ K2=>aj K2 M (SQ fun _ K3=>SR fun _ K4=>aj K4 M (SB ?_))));clear H K1 K2 K4;intro a H;skip;refine fD (ι:=Nat × ah × List Int × OL × GH) (Tc:=[(0,_)]) (Lc:=[]) (fun gh=>[(3,gh.2.1),(4,vi gh.1)]) (fun gh=>[]++gh.2.2.2.1) (fun gh=>gh.2.2.2.2) (fun gh=>gh.1<=l.length∧bY 3 1 gh.2.1 gh.2.2.1.length (gh.2.2.1.map vi) gh.2.2.2.1∧gh.2.2.1=iH (l.take gh.1)∧(∀ b o,G b=some o->gh.2.2.2.2 b=some o)) (fun gh=>l.length - gh.1) ((0,.slice none 0 0,[],[],G)) (by exact H.sub ⟨M,M,M,aC⟩) ?_ ?_
 ·exact ⟨O,bY.nil,M,fun _ _ h=>h⟩
 clear H;rintro ⟨k,v3,m,Lo,g⟩ a w hI H;dsimp only at hI H;obtain ⟨hk,hrw,hm,hgm⟩:=hI;dsimp only [lca,bM] at H;refine kP H (SQ fun _ K5=>SR fun _ K6=>Rm M (Rm M (Rl iB M (Rc M (Kz K6 (Cd M ?_ ?_)))))) <;> clear H K6
 ·intro h11 a H
  try have rJ:=dT h11
  have hk2:k < l.length:=by omega
  obtain ⟨b_,o_,cs_,rfl,-,hrow,hrep⟩:=hg k l[k].dat (by simp [hk2]);have axi:=hrep;obtain ⟨pA,pn,pc,dA,dn,dc,yA,yn,yc,fA,fn,fc,sA,sn,sc,rfl,hhd,hfl,hrs⟩:=hrep.item;have hke:=ayM l[k];have hzk:=aEj hk2;obtain ⟨sA',sc',es,hs1,hs2,hgr⟩:=hrs.slice
  injection es with e1 e2 e3
  rw [bK] at e2 hs1;subst e1 e2 e3;have hrl:=JH l[k].rows;have hkt:=ayN l k;have hkf:=Jd l[k].flow;rw [<- hm] at hkt;refine kP H (Kc K5 (SQ fun _ K7=>SB (SQ fun _ K8=>SR fun _ K9=>Rm M (Rm M (Ri iB eZ M M ?_)))));clear H K5;intro a H;refine bQ eZ (cs:=[_,_,_,_,_,_,_,_,_,_,_]) H wn M M (fun j v hj=>H.hp.aI (aG hgm (hrow j v hj))) M ?_;clear H;intro a H;refine s_call asT H wn M (aCL _ _ H.ro l[k] _ (axi.mono hgm)) M ?_;clear H;rintro v18 EO a w rfl hm18 H;have KX:∀ b o,G b=some o->EO b=some o:=fun b o h=>hm18 b o (hgm b o h);refine kH H (Rn M (Kz K9 (Cd M ?_ ?_))) <;> clear H K9
  ·intro h19 a H
   try have tX:=dT h19
   refine dY ?_;refine K7 _ _ ?_;clear K7;refine kP H (SC (Rm M (Rd M (Ra M ?_))));clear H;intro a H;refine aD ?_;refine dQ ((k+1,v3,m,Lo,EO)) (by exact H.sub ⟨M,M,M,aC⟩) ?_
   (try dsimp only);exact ⟨O,hrw,by rw [ajh hk2,hke,au (by simp_all),fG];exact hm,fun b o h=>hm18 b o (hgm b o h)⟩
  intro h19 a H
  try have tX:=dF h19
  have hsh:nT l[k]=true:=by simpa using h19
  refine iD ?_;refine K8 _ _ ?_;clear K8;refine uo (ι:=ah × List Int × OL × GH) (Tc:=[(0,_),(4,_)]) (Lc:=[]) (fun gh=>[(3,gh.1)]) (fun gh=>[]++gh.2.2.1) (fun gh=>gh.2.2.2) (fun gh=>bY 3 1 gh.1 gh.2.1.length (gh.2.1.map vi) gh.2.2.1∧gh.2.1=m++(if l[k].kind=6 then l[k].id :: iH l[k].flow else [])∧(∀ b o,G b=some o->gh.2.2.2 b=some o)) (by exact H.sub ⟨M,M,aC⟩) ?_ ?_
  ·skip;refine kP H (SR fun _ aT=>Rm M (Rm M (Ri iB eZ M M (Rf kF M (Rg aF M (aG KX (hrow 0 _ M)) (Rc M (Kz aT (Cd M ?_ ?_)))))))) <;> clear H aT
   ·intro iR a H
    try have p25:=dT iR
    obtain ⟨wM,wN,rfl,-,-⟩:=hrw.shape
    have aip:UQ (fun (aP:Nat) (gy:ah × OL) (bV:Nat) (v:ah) (G:GH)=>match bV with|0=>v=.slice wM m.length wN|1=>v=.slice (some ⟨b_,o_,none⟩) l.length PY|2=>v=vi k|3=>v=(aH b_ (o_+k*11))|4=>v=(aH b_ (o_+k*11+2))|5=>v=vi l[k].id|6=>v=.slice (some ⟨aP,0,none⟩) 1 1|7=>v=gy.1∧bY 3 1 v (m.length+1) (m.map vi++[vi l[k].id]) gy.2|8=>v=.slice (some ⟨b_,o_,none⟩) l.length PY|9=>v=vi k|10=>v=(aH b_ (o_+k*11))|11=>v=(aH b_ (o_+k*11+9))|12=>v=.slice fA fn fc|_=>True):=by intro aP gy bV v G G' hm h;(iterate 16 (rcases bV with _|bV;(first|exact h)));exact trivial
    refine V6 (κ:=ah × OL) ((.slice wM m.length wN,Lo)) (hmx) [[],[],[],[1,2],[1,2,3],ra 1 4,ra 1 5,ra 0 7,[],[],[8,9],[8,9,10],ra 8 4,ra 0 13,ra 0 14,ra 0 15] [13,14,15] V V 1 6 7 Z Z Z Z Z Z Z Z Z [] (Lo) (.cells [vi l[k].id].toArray 3 (0,0)) (fun b_ k_=>(b_,.cells [vi l[k].id].toArray 3 (0,0)) :: k_.2) (fun x hx=>by cases hx) (fun x hx=>by cases hx) (fun _ _ x hx=>by cases hx) (fun (aP:Nat) (gy:ah × OL) (bV:Nat) (v:ah) (G:GH)=>match bV with|0=>v=.slice wM m.length wN|1=>v=.slice (some ⟨b_,o_,none⟩) l.length PY|2=>v=vi k|3=>v=(aH b_ (o_+k*11))|4=>v=(aH b_ (o_+k*11+2))|5=>v=vi l[k].id|6=>v=.slice (some ⟨aP,0,none⟩) 1 1|7=>v=gy.1∧bY 3 1 v (m.length+1) (m.map vi++[vi l[k].id]) gy.2|8=>v=.slice (some ⟨b_,o_,none⟩) l.length PY|9=>v=vi k|10=>v=(aH b_ (o_+k*11))|11=>v=(aH b_ (o_+k*11+9))|12=>v=.slice fA fn fc|_=>True) (fun b b' k i v G hi hc h=>by (iterate 16 (rcases i with _|i;(first|exact h|exact absurd hi Z|exact absurd hc Z)));exact trivial) (fun b k k' i v G hi hc h=>by (iterate 16 (rcases i with _|i;(first|exact h|exact absurd hi Z|exact absurd hc Z)));exact trivial) H ?_ ?_ ?_ ?_ ?_ V V
    ·clear H;refine aB ?_ ?_ ?_ ?_ (aB ?_ ?_ ?_ ?_ (aB ?_ ?_ ?_ ?_ (aB ?_ ?_ ?_ ?_ dz)))
     ·exact Qs
     ·intro _ _ _ _ _ _ _ _ _ hB;exact gV
     ·exact Qs
     ·intro aP gy dU aW a w G1 fE _ _ _ _ aK hc hG HT hv;have H:=HT;clear aK;have H:=H.aM (hv 1 27 (hc 1 Z) M) M;have H:=H.aM (hv 2 28 (hc 2 Z) M) M;exact adu
     ·intro aP gy dU aW a w G1 fE _ _ _ _ aK hc hG HT hv;have H:=HT;clear aK;have H:=H.aM (hv 3 29 (hc 3 Z) M) M;have Hb:=H.full;have H:=Hb;clear hc;refine kH H (Rf KM M ?_);exact Nb
     ·intro aP gy dU aW a w G1 fE _ _ _ _ aK hc hG HT hv;have H:=HT;clear aK;have H:=H.aM (hv 4 30 (hc 4 Z) M) M;have Hb:=H.full;have H:=Hb;clear hc;refine kH H (Rg aF M (aG hG (aG KX (hrow 2 _ M))) ?_);exact Nb
     ·intro _ _ _ _ _ _ _ _ _ _ hB;exact gV
     ·exact Vt
     ·exact Qs
     ·exact Qs
     ·intro aP gy dU aW a w G1 fE _ _ _ _ aK hc hG HT hv;have H:=HT;clear aK;have H:=H.aM (hv 8 34 (hc 8 Z) M) M;have H:=H.aM (hv 9 35 (hc 9 Z) M) M;exact adu
     ·intro aP gy dU aW a w G1 fE _ _ _ _ aK hc hG HT hv;have H:=HT;clear aK;have H:=H.aM (hv 10 36 (hc 10 Z) M) M;have Hb:=H.full;have H:=Hb;clear hc;refine kH H (Rf Af M ?_);exact Nb
     ·intro aP gy dU aW a w G1 fE _ _ _ _ aK hc hG HT hv;have H:=HT;clear aK;have H:=H.aM (hv 11 37 (hc 11 Z) M) M;have Hb:=H.full;have H:=Hb;clear hc;refine kH H (Rg jy M (aG hG (aG KX (hrow 9 _ M))) ?_);exact Nb
     ·exact Kj
     ·exact Kj
     exact zW
    ·clear H;intro o_ aP gy aW a w G1 lU _ hc hG HT hv;obtain rfl:_=o_:=Option.some.inj lU;clear lU;have H:=HT;have Hb:=H.full;have H:=Hb;clear hc;have XU:∀ k o,G1 k=some o->G1 k=some o:=fun _ _ h=>h;refine kH H (Rm M ?_);clear H;intro a H;refine aD ⟨M,?_⟩;exact Bc V (aip aP gy) M HT Hb hG (fun j e h1 h2 h3=>hv j e h1 h2 h3) XU (rfl) H
    ·clear H;intro o_ gy aW a w G1 lU _ hc hG HT hv;obtain rfl:_=o_:=Option.some.inj lU;clear lU;have H:=HT;have H:=H.aM (hv 0 5 31 Z (hc 5 Z) M) M;have Hb:=H.full;have H:=Hb;clear hc;refine iV mD aF [_] [_] H wn M M M M M (by intro i q h;match i,h with|0,h=>exact h|n+1,h=>simp at h) M M ?_;clear H;intro b32 a w aEQ H;refine aD ⟨M,b32,?_⟩;exact M4
    ·clear H;intro o_ aP aW a w G1 lU _ hc hG HT hv;obtain rfl:_=o_:=Option.some.inj lU;clear lU;have H:=HT;have H:=H.aM (hv ((.slice wM m.length wN,Lo)) 0 26 Z (hc 0 Z) M) M;have H:=H.aM (hv ((.slice wM m.length wN,Lo)) 6 32 Z (hc 6 Z) M) M;have Hb:=H.full;have H:=Hb;clear hc;refine ny (Li:=[_]) (Lo:=Lo) (news:=[vi l[k].id]) mD aF M M H wn M M hrw M (H.hp.dG 0 M M) M O O M ?_;clear H;intro v33 L33 a w FV H;refine aD ⟨M,(v33,L33),?_⟩;exact QX V M HT Hb hG (fun j e h1 h2 h3=>hv _ j e h1 h2 h3) (⟨M,FV⟩) H
    clear H;intro b32 gy a w G KR H hv;obtain ⟨u33,YU,Om⟩:=hv 7 33 Z M;(try dsimp only at Om);obtain ⟨uz,FV⟩:=Om;have H:=H.gU YU;have H:=H.aM (hv 12 38 M M) M;clear hv;refine s_call WV H wn M (ih _ _ H.ro l[k].flow _ (hfl.mono fun b o h=>KR b o (KX b o h)) O) M ?_;clear H;rintro v39 UC a w Yz Od H;obtain ⟨A39,n39,c39,rfl⟩:=Yz.form
    obtain rfl:n39=(iH l[k].flow).length:=by simpa using Yz.len
    obtain ⟨A33,c33,e33,-,-⟩:=FV.shape;rw [e33] at FV H;refine aaq mD aF M M (Li:=[_]) (Lo:=gy.2) H wn M M FV Yz O O M ?_;clear H;intro v40 L40 n40 a w Sg avI H
    have Sg:bY 3 1 v40 (m++[l[k].id]++iH l[k].flow).length ((m++[l[k].id]++iH l[k].flow).map vi) L40:=by
     rw [V9 avI] at Sg;rw [show (m++[l[k].id]++iH l[k].flow).length=m.length+1+(iH l[k].flow).length from by rw [gF,gF,List.length_singleton],show (m++[l[k].id]++iH l[k].flow).map vi=m.map vi++[vi l[k].id]++(iH l[k].flow).map vi from by rw [ji,ji];rfl];exact Sg
    refine kH H (Ra M ?_);clear H;intro a H;refine aD ⟨M,?_⟩;refine ⟨(v40,m++[l[k].id]++iH l[k].flow,L40,_),by exact (H.eD (Pl:=[_]) (dK:=[]) [] Z M).sub ⟨M,M,M,aC⟩,?_⟩;(try dsimp only);exact ⟨Sg,by rw [ay (by assumption)];simp,fun b o h=>Od b o (KR b o (KX b o h))⟩
   intro iR a H
   try have p25:=dF iR
   refine iD ?_;refine ⟨(v3,m,Lo,EO),by exact H.sub ⟨M,M,M,aC⟩,?_⟩;(try dsimp only);exact ⟨hrw,by rw [au (by assumption),fG],KX⟩
  clear H;rintro ⟨v3,m2,Lo,g2⟩ a w hI H;dsimp only at hI H;obtain ⟨hrw,hm2,jW⟩:=hI;dsimp only [lca,bM] at H;refine kP H (SR fun _ bR=>aj bR M (SB ?_));clear H bR;intro a H;skip;refine fD (ι:=Nat × ah × List Int × OL × GH) (Tc:=[(0,_),(4,_)]) (Lc:=[]) (fun gh=>[(3,gh.2.1),(5,vi gh.1)]) (fun gh=>[]++gh.2.2.2.1) (fun gh=>gh.2.2.2.2) (fun gh=>gh.1<=l[k].rows.length∧bY 3 1 gh.2.1 gh.2.2.1.length (gh.2.2.1.map vi) gh.2.2.2.1∧gh.2.2.1=m2++rG (l[k].rows.take gh.1)∧(∀ b o,G b=some o->gh.2.2.2.2 b=some o)) (fun gh=>l[k].rows.length - gh.1) ((0,v3,m2,Lo,g2)) (by exact H.sub ⟨M,M,M,M,aC⟩) ?_ ?_
  ·exact ⟨O,hrw,by rw [List.take_zero,rG,fG],jW⟩
  clear H;rintro ⟨j,v3,m3,Lo,g3⟩ a w hI H;dsimp only at hI H;obtain ⟨hj,hrw,zw,rC⟩:=hI;dsimp only [lca,bM] at H;refine kP H (SQ fun _ cu=>SR fun _ dw=>Rm M (Rm M (Rm M (Ri iB eZ M M (Rf qd M (Rg qw M (aG rC (hrow 10 _ M)) (Rl mR M (Rc M (Kz dw (Cd M ?_ ?_)))))))))) <;> clear H dw
  ·intro h48 a H
   try have p48:=dT h48
   have hj2:j < l[k].rows.length:=by omega
   obtain ⟨c_,p_,ds_,rfl,-,YK,aiy⟩:=hgr j l[k].rows[j].dat (by simp [hj2]);have axj:=aiy;obtain ⟨rpA,rpn,rpc,rdA,rdn,rdc,ryA,ryn,ryc,rcA,rcn,rcc,rfl,hhr,hcl⟩:=aiy.row;obtain ⟨cA',cc',ec,Yc,avN,hgc⟩:=hcl.slice
   injection ec with e1 e2 e3
   rw [bK] at e2 Yc;subst e1 e2 e3;have hzr:=aEk hj2;have avQ:=JG l[k].rows[j].cells;have aFc:=ayO l[k].rows j;have awE:=cO List.length zw;have awC:=cO List.length hm2;rw [gF] at awE awC
   have aFa:(if l[k].kind=6 then l[k].id :: iH l[k].flow else []).length<=bq l[k].flow+1:=by
    split
    ·rw [kR];omega
    exact Fb
   refine kP H (Kc cu (SQ fun _ dB=>SB (SR fun _ dX=>aj dX M (SB ?_))));clear H cu dX;intro a H;skip;refine fD (ι:=Nat × ah × List Int × OL × GH) (Tc:=[(0,_),(4,_),(5,_)]) (Lc:=[]) (fun gh=>[(3,gh.2.1),(6,vi gh.1)]) (fun gh=>[]++gh.2.2.2.1) (fun gh=>gh.2.2.2.2) (fun gh=>gh.1<=l[k].rows[j].cells.length∧bY 3 1 gh.2.1 gh.2.2.1.length (gh.2.2.1.map vi) gh.2.2.2.1∧gh.2.2.1=m3++(if rP l[k].rows[j]=true then sw (l[k].rows[j].cells.take gh.1) else [])∧(∀ b o,G b=some o->gh.2.2.2.2 b=some o)) (fun gh=>l[k].rows[j].cells.length - gh.1) ((0,v3,m3,Lo,g3)) (by exact H.sub ⟨M,M,M,M,M,aC⟩) ?_ ?_
   ·exact ⟨O,hrw,by rw [List.take_zero,sw,ite_self,fG],rC⟩
   clear H;rintro ⟨c,v3,m4,Lo,g4⟩ a w hI H;dsimp only at hI H;obtain ⟨hc,hrw,rD,sV⟩:=hI;have awt:=ayL l[k].rows[j].cells c;have awF:=cO List.length rD;rw [gF] at awF
   have aE9:(if rP l[k].rows[j]=true then sw (l[k].rows[j].cells.take c) else []).length<=gH l[k].rows[j].cells:=by
    split
    ·exact awt
    exact Fb
   dsimp only [lca,bM] at H;refine kP H (SQ fun _ eu=>SR fun _ dN=>Rm M (Rm M (Rm M (Ri iB eZ M M (Rf qd M (Rg qw M (aG sV (hrow 10 _ M)) (Rm M (Ri mR jO M M (Rf wm M (Rg wL M (aG sV (YK 5 _ M)) (Rl oK M (Rc M (Rm M (Sp 63 M ?_ ?_)))))))))))))) <;> clear H
   ·intro h63 a H
    try have p63:=dT h63
    refine kH H (YM h63 M (YM h63 M (YI iB eZ h63 M M (YF qd h63 M (YR qw h63 M (aG sV (hrow 10 _ M)) (YM h63 M (YI mR jO h63 M M ?_)))))));clear H;intro a H;refine bQ jO (cs:=[_,_,_,_,_,_]) H (wg H M M h63) M M (fun j v hj=>H.hp.aI (aG sV (YK j v hj))) M ?_;clear H;intro a H;refine s_call afS H (wg H M M h63) M (ali _ _ H.ro l[k].rows[j] _ (axj.mono sV)) M ?_;clear H;rintro v72 PU a w rfl Yr H;have N9:∀ b o,G b=some o->PU b=some o:=fun b o h=>Yr b o (sV b o h);refine kH H (Pt h63 M (Kz dN (Cd M ?_ ?_))) <;> clear H dN
    ·intro Iu a H
     try have p73:=dT Iu
     have hse:rP l[k].rows[j]=true:=by assumption
     have hc2:c < l[k].rows[j].cells.length:=by omega
     obtain ⟨e_,q_,xs_,rfl,-,axn,axk⟩:=hgc c l[k].rows[j].cells[c].dat (by simp [hc2]);obtain ⟨Zn,Zv,Zu,Zg,kdn,Zh,Zw,Zy,Zx,OI,OM,OJ,rfl,hhc,awj⟩:=axk.cell;have hdl:=hhc.bD.len;rw [bK] at hdl;subst hdl;have hzc:=aEf hc2;have aFb:=Jd l[k].rows[j].cells[c].flow;refine kP H (Kc eu (SQ fun _ eO=>SB (SR fun _ gD=>Rm M (Rm M (Ri iB eZ M M (Rf qd M (Rg qw M (aG N9 (hrow 10 _ M)) (Rm M (Ri mR jO M M (Rf wm M (Rg wL M (aG N9 (YK 5 _ M)) (Rm M (Ri oK kL M M ?_)))))))))))));clear H eu;intro a H;refine bQ kL (cs:=[_,_,_,_,_,_,_]) H wn M M (fun j v hj=>H.hp.aI (aG N9 (axn j v hj))) M ?_;clear H;intro a H;refine dW kL H wn M ?_;clear H;intro b7 a w CB H;refine bJ kL 0 (vs:=[_,_,_,_,_,_,_]) H wn M ?_;clear H;intro w H;refine gD _ _ ?_;clear gD;refine kP H (SR fun _ fF=>Rf Ii M (Rf oh M (bC qH qO 0 M M (Rl mQ M (Rc M (Kz fF (Cd M ?_ ?_))))))) <;> clear H fF
     ·intro XQ a H
      try have p93:=dT XQ
      have hvi:mU l[k].rows[j].cells[c].head=true:=by unfold mU;rw [lD];omega
      obtain ⟨wM,wN,rfl,-,-⟩:=hrw.shape
      have ain:UQ (fun (aP:Nat) (gy:ah × OL) (bV:Nat) (v:ah) (G:GH)=>match bV with|0=>v=.slice wM m4.length wN|1=>v=(aH b7 (0+0))|2=>v=vi l[k].rows[j].cells[c].id|3=>v=.slice (some ⟨aP,0,none⟩) 1 1|4=>v=gy.1∧bY 3 1 v (m4.length+1) (m4.map vi++[vi l[k].rows[j].cells[c].id]) gy.2|5=>v=(aH b7 (0+6))|6=>v=.slice OI OM OJ|_=>True):=by intro aP gy bV v G G' hm h;(iterate 10 (rcases bV with _|bV;(first|exact h)));exact trivial
      refine V6 (κ:=ah × OL) ((.slice wM m4.length wN,Lo)) (hmx) [[],[],[1],[1,2],ra 0 4,[],[5],ra 0 7,ra 0 8,ra 0 9] [7,8,9] V V 2 3 4 Z Z Z Z Z Z Z Z Z [(b7,.cells #[vi l[k].rows[j].cells[c].id,.slice Zn Zv Zu,vi l[k].rows[j].cells[c].head.marks.ins,vi l[k].rows[j].cells[c].head.marks.move,.slice Zg l[k].rows[j].cells[c].head.marks.bD.length Zh,.slice Zw Zy Zx,.slice OI OM OJ] 76 (0,0))] ((b7,.cells #[vi l[k].rows[j].cells[c].id,.slice Zn Zv Zu,vi l[k].rows[j].cells[c].head.marks.ins,vi l[k].rows[j].cells[c].head.marks.move,.slice Zg l[k].rows[j].cells[c].head.marks.bD.length Zh,.slice Zw Zy Zx,.slice OI OM OJ] 76 (0,0)) :: Lo) (.cells [vi l[k].rows[j].cells[c].id].toArray 3 (0,0)) (fun b_ k_=>(b_,.cells [vi l[k].rows[j].cells[c].id].toArray 3 (0,0)) :: (b7,.cells #[vi l[k].rows[j].cells[c].id,.slice Zn Zv Zu,vi l[k].rows[j].cells[c].head.marks.ins,vi l[k].rows[j].cells[c].head.marks.move,.slice Zg l[k].rows[j].cells[c].head.marks.bD.length Zh,.slice Zw Zy Zx,.slice OI OM OJ] 76 (0,0)) :: k_.2) (fun x hx=>by rw [qY.1 hx];exact dV) (fun x hx=>by rw [qY.1 hx];exact dV) (fun _ _ x hx=>by rw [qY.1 hx];exact gI _ dV) (fun (aP:Nat) (gy:ah × OL) (bV:Nat) (v:ah) (G:GH)=>match bV with|0=>v=.slice wM m4.length wN|1=>v=(aH b7 (0+0))|2=>v=vi l[k].rows[j].cells[c].id|3=>v=.slice (some ⟨aP,0,none⟩) 1 1|4=>v=gy.1∧bY 3 1 v (m4.length+1) (m4.map vi++[vi l[k].rows[j].cells[c].id]) gy.2|5=>v=(aH b7 (0+6))|6=>v=.slice OI OM OJ|_=>True) (fun b b' k i v G hi hc h=>by (iterate 10 (rcases i with _|i;(first|exact h|exact absurd hi Z|exact absurd hc Z)));exact trivial) (fun b k k' i v G hi hc h=>by (iterate 10 (rcases i with _|i;(first|exact h|exact absurd hi Z|exact absurd hc Z)));exact trivial) H ?_ ?_ ?_ ?_ ?_ V V
      ·clear H;refine aB ?_ ?_ ?_ ?_ (aB ?_ ?_ ?_ ?_ (bN ?_ (bN ?_ dz)))
       ·intro aP gy dU aW a w G1 fE _ _ _ _ aK hc hG HT hv;have H:=HT;clear aK;have Hb:=H.full;have H:=Hb;clear hc;refine kH H (Rm M ?_);exact Qz
       ·intro aP gy dU aW a w G1 fE _ _ _ _ aK hc hG HT hv;have H:=HT;clear aK;have Hb:=H.full;have H:=Hb;clear hc;refine kH H (Rf NK M ?_);exact Qz
       ·intro _ _ _ _ _ _ _ _ _ hB;exact gV
       ·intro _ _ _ _ _ _ _ _ _ _ hB;exact gV
       ·exact Vt
       ·intro aP gy dU aW a w G1 fE _ _ _ _ aK hc hG HT hv;have H:=HT;clear aK;have Hb:=H.full;have H:=Hb;clear hc;refine kH H (Rf Ij M ?_);exact Qz
       ·intro aP gy dU aW a w G1 fE _ _ _ _ aK hc hG HT hv;have H:=HT;clear aK;have H:=H.aM (hv 5 99 (hc 5 Z) M) M;have Hb:=H.full;have H:=Hb;clear hc;refine sF jy H wn M (H.hp.BF (fE _ dV) M) M ?_;exact Qz
       ·exact Kj
       ·exact Kj
       exact zW
      ·clear H;intro o_ aP gy aW a w G1 lU _ hc hG HT hv;obtain rfl:_=o_:=Option.some.inj lU;clear lU;have H:=HT;have H:=H.aM (hv 1 95 Z (hc 1 Z) M) M;have Hb:=H.full;have H:=Hb;clear hc;have auZ:∀ k o,G1 k=some o->G1 k=some o:=fun _ _ h=>h;refine sF aF H wn M (H.hp.BF dV M) M ?_;clear H;intro a H;refine aD ⟨M,?_⟩;exact Bc V (ain aP gy) M HT Hb hG (fun j e h1 h2 h3=>hv j e h1 h2 h3) auZ (rfl) H
      ·clear H;intro o_ gy aW a w G1 lU _ hc hG HT hv;obtain rfl:_=o_:=Option.some.inj lU;clear lU;have H:=HT;have H:=H.aM (hv 0 2 96 Z (hc 2 Z) M) M;have Hb:=H.full;have H:=Hb;clear hc;refine iV mD aF [_] [_] H wn M M M M M (by intro i q h;match i,h with|0,h=>exact h|n+1,h=>simp at h) M M ?_;clear H;intro b97 a w aEZ H;refine aD ⟨M,b97,?_⟩;exact M4
      ·clear H;intro o_ aP aW a w G1 lU _ hc hG HT hv;obtain rfl:_=o_:=Option.some.inj lU;clear lU;have H:=HT;have H:=H.aM (hv ((.slice wM m4.length wN,Lo)) 0 94 Z (hc 0 Z) M) M;have H:=H.aM (hv ((.slice wM m4.length wN,Lo)) 3 97 Z (hc 3 Z) M) M;have Hb:=H.full;have H:=Hb;clear hc;refine ny (Li:=[_,_]) (Lo:=Lo) (news:=[vi l[k].rows[j].cells[c].id]) mD aF M M H wn M M hrw M (H.hp.dG 0 M M) M O O M ?_;clear H;intro v98 L98 a w Oz H;refine aD ⟨M,(v98,L98),?_⟩;exact QX V M HT Hb hG (fun j e h1 h2 h3=>hv _ j e h1 h2 h3) (⟨M,Oz⟩) H
      clear H;intro b97 gy a w G ahe H hv;obtain ⟨u98,ayb,ail⟩:=hv 4 98 Z M;(try dsimp only at ail);obtain ⟨h98,Oz⟩:=ail;have H:=H.gU ayb;have H:=H.aM (hv 6 100 M M) M;clear hv;refine s_call WV H wn M (ih _ _ H.ro l[k].rows[j].cells[c].flow _ (awj.mono fun b o h=>ahe b o (N9 b o h)) O) M ?_;clear H;rintro aFN aEo a w IQ aww H;obtain ⟨amJ,n101,aoo,rfl⟩:=IQ.form
      obtain rfl:n101=(iH l[k].rows[j].cells[c].flow).length:=by simpa using IQ.len
      obtain ⟨A98,c98,e98,-,-⟩:=Oz.shape;rw [e98] at Oz H;refine aaq mD aF M M (Li:=[_,_]) (Lo:=gy.2) H wn M M Oz IQ O O M ?_;clear H;intro amb abl n102 a w Sc avE H
      have Sc:bY 3 1 amb (m4++[l[k].rows[j].cells[c].id]++iH l[k].rows[j].cells[c].flow).length ((m4++[l[k].rows[j].cells[c].id]++iH l[k].rows[j].cells[c].flow).map vi) abl:=by
       rw [V9 avE] at Sc;rw [show (m4++[l[k].rows[j].cells[c].id]++iH l[k].rows[j].cells[c].flow).length=m4.length+1+(iH l[k].rows[j].cells[c].flow).length from by rw [gF,gF,List.length_singleton],show (m4++[l[k].rows[j].cells[c].id]++iH l[k].rows[j].cells[c].flow).map vi=m4.map vi++[vi l[k].rows[j].cells[c].id]++(iH l[k].rows[j].cells[c].flow).map vi from by rw [ji,ji];rfl];exact Sc
      refine kH H (Ra M ?_);clear H;intro a H;refine aD ⟨M,?_⟩;refine eO _ _ ?_;clear eO;refine kP H (SC (Rm M (Rd M (Ra M ?_))));clear H;intro a H;refine aD ?_;refine dQ ((c+1,amb,m4++[l[k].rows[j].cells[c].id]++iH l[k].rows[j].cells[c].flow,abl,_)) (by exact (H.eD (Pl:=[_,_]) (dK:=[]) [] Z M).sub ⟨M,M,M,M,M,aC⟩) ?_
      (try dsimp only);exact ⟨O,Sc,by rw [rD,ay hse,ay hse,ajg hc2,ajf,ay (by assumption)];simp,fun b o h=>aww b o (ahe b o (Yr b o (sV b o h)))⟩
     intro XQ a H
     try have p93:=dF XQ
     have hvi:¬ mU l[k].rows[j].cells[c].head=true:=by unfold mU;rw [lD];omega
     refine kP H (Kc eO (SC (Rm M (Rd M (Ra M ?_)))));clear H eO;intro a H;refine aD ?_;refine dQ ((c+1,v3,m4,Lo,PU)) (by exact (H.eD (Pl:=[_]) (dK:=[]) [] Z M).sub ⟨M,M,M,M,M,aC⟩) ?_
     (try dsimp only);exact ⟨O,hrw,by rw [rD,ay hse,ay hse,ajg hc2,ajf,au (by assumption),fG],fun b o h=>Yr b o (sV b o h)⟩
    intro Iu a H
    try have p73:=dF Iu
    refine dY ?_;refine dB _ _ ?_;clear dB;refine kP H (SC (Rm M (Rd M (Ra M ?_))));clear H;intro a H;refine aD ?_;refine dQ ((j+1,v3,m4,Lo,PU)) (by exact H.sub ⟨M,M,M,M,aC⟩) ?_
    (try dsimp only);exact ⟨O,hrw,by rw [ajj hj2,aji,au (by simp_all),fG,rD,au (by simp_all),fG];exact zw,N9⟩
   intro h63 a H
   try have p63:=dF h63
   refine kH H (bH h63 M (bH h63 M (bH h63 M (Pf h63 M (Kz dN (Cf M M ?_))))));clear H dN;intro a H;refine dY ?_;refine dB _ _ ?_;clear dB;refine kP H (SC (Rm M (Rd M (Ra M ?_))));clear H;intro a H;refine aD ?_;refine dQ ((j+1,v3,m4,Lo,g4)) (by exact H.sub ⟨M,M,M,M,aC⟩) ?_
   (try dsimp only);exact ⟨O,hrw,by rw [show c=l[k].rows[j].cells.length by omega,uV] at rD;rw [ajj hj2,aji,<- iL,<- zw];exact rD,sV⟩
  intro h48 a H
  try have p48:=dF h48
  obtain rfl:j=l[k].rows.length:=by omega
  rw [uV] at zw;refine dY ?_;refine K7 _ _ ?_;clear K7;refine kP H (SC (Rm M (Rd M (Ra M ?_))));clear H;intro a H;refine aD ?_;refine dQ ((k+1,v3,m3,Lo,g3)) (by exact H.sub ⟨M,M,M,aC⟩) ?_
  (try dsimp only);exact ⟨O,hrw,by rw [ajh hk2,hke,ay hsh,<- hm,zw,hm2,iL],rC⟩
 intro h11 a H
 try have rJ:=dF h11
 refine dY ?_;refine K3 _ _ ?_;clear K3;refine kP H (SR fun _ gK=>Rm M (aj gK M ?_));clear H gK;intro a H;refine eP ?_
 obtain rfl:k=l.length:=by omega
 rw [uV] at hm;subst hm;obtain ⟨G',yu,hrep,H⟩:=H.qh (Li:=[]) hrw (rows:=(iH l).map fun k=>[li k]) (by simp) (CX _ _);refine lv H results42 M ?_;exact H.rt hrep
theorem ajb:∀ n,n<=1073741825->UF n
 | 0,_=>fun _ _ _ _ _ _ hz=>absurd hz (Nat.not_lt_zero _)
 | n+1,hn=>ayC (ajb n O) O
end Go.Proofs.YtdiflmikikiedaaGreat
