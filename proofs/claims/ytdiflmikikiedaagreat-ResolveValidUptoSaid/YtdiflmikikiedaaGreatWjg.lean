/-
  What the claim stands on, part 7: Va24 Brd Brs Bri Brt.
-/
import Derived.Test.YtdiflmikikiedaaGreatWjf
import Derived.ProofKit
import Derived.Deep.Slices
import Derived.Laws.StructEq
namespace Go.Proofs.YtdiflmikikiedaaGreat
set_option linter.all false
open Go.Proofs.Tryz
open Go.RowKit
theorem aAE:Ty prog 79 4 96 [.slice none 0 0,.slice none 0 0,.slice none 0 0,.slice none 0 0] true:=⟨by kernel_rfl,by kernel_rfl⟩
theorem aqm:aQ 35:=aR func35 rfl
theorem aeT:aQ 37:=aR func37 rfl
theorem aeV:aQ 39:=aR func39 rfl
structure LU (G:GH) (A R B S:List Int) (va vr vb vs:ah):Prop where
 ha:au G (.sl 1 (A.map fun k=>[li k])) va
 hr:au G (.sl 1 (R.map fun k=>[li k])) vr
 hb:au G (.sl 1 (B.map fun k=>[li k])) vb
 hs:au G (.sl 1 (S.map fun k=>[li k])) vs
 la:A.length<=4294967296
 lr:R.length<=4294967296
 lb:B.length<=4294967296
 ls:S.length<=4294967296
theorem LU.mono {G G':GH} {A R B S:List Int} {va vr vb vs:ah} (hm:∀ b o,G b=some o->G' b=some o) (h:LU G A R B S va vr vb vs):LU G' A R B S va vr vb vs:=⟨h.ha.mono hm,h.hr.mono hm,h.hb.mono hm,h.hs.mono hm,h.la,h.lr,h.lb,h.ls⟩
mutual
theorem avs:∀ x:ak,(pX x).length<=1+bV x.dat
 | .mk k c i tx h f r=>by
  have hf:=NJ f;have hr:=ahB r;have e:=wY (.mk k c i tx h f r)
  simp only [ak.text,ak.head,ak.flow,ak.rows] at e
  have h1:(if k=6∨k=7 then [i] else []).length<=1:=by split <;> simp
  have h2:(if k=6 then eH f else if k=7 then kJ r else []).length<=bO f+gJ r:=by
   split
   ·omega
   split
   ·omega
   simp
  rw [Im,iw];omega
theorem avt:∀ x:aS,(rZ x).length<=1+bV x.dat
 | .mk h cs=>by
  have hc:=ahA cs;have e:=Ai (.mk h cs)
  simp only [aS.head,aS.cells] at e
  rw [rZ];omega
theorem avr:∀ x:aV,(tq x).length<=1+bV x.dat
 | .mk i h f=>by
  have hf:=NJ f;have e:=Ah (.mk i h f)
  simp only [aV.head,aV.flow] at e
  rw [tq,kS];omega
theorem NJ:∀ l:List ak,(eH l).length<=bO l
 | []=>by simp [eH]
 | x :: l=>by
  have h1:=avs x;have h2:=NJ l;rw [eH,iw,show bO (x :: l)=1+bV x.dat+bO l by simp [bO,dU]];omega
theorem ahB:∀ l:List aS,(kJ l).length<=gJ l
 | []=>by simp [kJ]
 | x :: l=>by
  have h1:=avt x;have h2:=ahB l;rw [kJ,iw,show gJ (x :: l)=1+bV x.dat+gJ l by simp [gJ,dU]];omega
theorem ahA:∀ l:List aV,(lV l).length<=iA l
 | []=>by simp [lV]
 | x :: l=>by
  have h1:=avr x;have h2:=ahA l;rw [lV,iw,show iA (x :: l)=1+bV x.dat+iA l by simp [iA,dU]];omega
end
theorem Y8 {l:List Int} {x:Int}:x∈oZ l↔x∈l:=by rw [oZ,List.mem_mergeSort]
theorem Y7 (l:List Int):(oZ l).length=l.length:=by rw [oZ,List.length_mergeSort]
theorem ajJ {l:List Int} (h:l.Nodup):(oZ l).Pairwise (· < ·):=by
 have h1:(oZ l).Nodup:=(List.mergeSort_perm l leI).nodup_iff.2 h;exact (ajI l).imp₂ (fun a b h1 h2=>by omega) h1
theorem getD_at {l:List Int} {k:Nat} (h:k < l.length):l.getD k 0=l[k]:=by rw [List.getD_eq_getElem?_getD,dV h,Option.getD_some]
theorem ahC {O W:List Int} (hO:O.Pairwise (· < ·)) (hs:∀ x∈W,x∈O) {i k:Nat} (hi:i < W.length) (hl:∀ j,j < k->O.getD j 0 < W.getD i 0) (hk:k < O.length->¬ O.getD k 0 < W.getD i 0):k < O.length∧O.getD k 0=W.getD i 0:=by
 obtain ⟨j,hj,e⟩:=List.getElem_of_mem (hs _ (jB hi));rw [<- getD_at hi,<- getD_at hj] at e
 have h1:¬ j < k:=fun h=>by have:=hl j h;omega
 have h2:k < O.length:=by omega
 have h3:=hk h2;refine ⟨h2,?_⟩
 rcases Nat.lt_or_ge k j with h|h
 ·have:=List.pairwise_iff_getElem.1 hO k j h2 hj h;rw [<- getD_at h2,<- getD_at hj] at this
  omega
 have:j=k:=by omega
 rw [<- this];exact e
theorem abg {p:Prop} (h:p:=by
 exact fin H iJ (iK (qN (by omega)))):p:=h
theorem alE {p:Prop} (h:p:=by
 exact Dx HT Hb hG hv (QJ aK) H rfl):p:=h
theorem acN {p:Prop} (h:p:=by
 refine Fz H (wg H rfl rfl rfl) rfl rfl rfl rfl ?_;clear H;intro a H;exact abg):p:=h
theorem Pp {p:Prop} (h:p:=by
 clear H;intro a H;refine aD ⟨rfl,?_⟩;exact alE):p:=h
theorem abo {p:Prop} (h:p:=by
 refine dY 0 108 2 110 rfl rfl fun _ a w G1 hG HT H fin=>?_;refine kH H (Rc rfl ?_);clear H;intro a H;exact abg):p:=h
theorem EH {p:Prop} (h:p:=by
 refine gZ 4 112 rfl rfl fun _ a w G1 hG HT H fin=>?_;refine FE H (wg H rfl rfl rfl) rfl rfl ?_;exact jk):p:=h
theorem abJ {p:Prop} (h:p:=by
 refine vZ 9 117 10 118 4 112 rfl rfl fun _ a w G1 hG HT H fin=>?_;refine vX iG aC i H (wg H rfl rfl rfl) rfl rfl rfl (by omega) rfl ?_;exact jk):p:=h
theorem abK {p:Prop} (h:p:=by
 refine vZ 5 113 6 114 4 112 rfl rfl fun _ a w G1 hG HT H fin=>?_;refine vX iG aC m H (wg H rfl rfl rfl) rfl rfl rfl (by omega) rfl ?_;exact jk):p:=h
theorem abL {p:Prop} (h:p:=by
 refine dY 11 119 4 112 rfl rfl fun _ a w G1 hG HT H fin=>?_;refine qE aC H (wg H rfl rfl rfl) rfl (H.hp.aH (aF hG hcw)) rfl ?_;exact jk):p:=h
theorem abM {p:Prop} (h:p:=by
 refine dY 7 115 4 112 rfl rfl fun _ a w G1 hG HT H fin=>?_;refine qE aC H (wg H rfl rfl rfl) rfl (H.hp.aH (aF hG hco)) rfl ?_;exact jk):p:=h
theorem abT {p:Prop} (h:p:=by
 refine bP jf (cs:=E.cells) H (wg H rfl rfl rfl) rfl rfl (fun j v hj=>H.hp.aH (aF hG (hge j v hj))) rfl ?_;exact jk):p:=h
theorem abZ {p:Prop} (h:p:=by
 refine vZ 8 116 12 120 4 112 rfl rfl fun _ a w G1 hG HT H fin=>?_;exact acN):p:=h
set_option maxHeartbeats 8000000 in
theorem aA0 (G:GH) (w0:World) (hG:Hold G w0) (D:jO) (d:gG) (hR:pz G D d) (hs:yw 134217728 d) (A1 R1 A2 R2:List Int) (v1 v2 v3 v4:ah) (hp:LU G A1 R1 A2 R2 v1 v2 v3 v4) :
  Calls prog 10 #[D.val,.agg #[v1,v2,v3,v4]] w0 (bK w0 G fun u G'=>u=.bool true):=by
 obtain ⟨a1,an,ac,rfl⟩:=hp.ha.form;obtain ⟨r1,rn,rc,rfl⟩:=hp.hr.form;obtain ⟨a2,bn,bc,rfl⟩:=hp.hb.form;obtain ⟨r2,sn,sc,rfl⟩:=hp.hs.form;have Ny:=hs.up (m:=536870912) (by decide);have hml:maxLen=9223372036854775807:=rfl;refine eN [(0,_),(1,_)] func10 rfl ntmps10 rfl rfl hG ?_;intro a H;refine cO (fun _ K1=>?_);refine dW (cs:=[_,_,_,_,_,_,_,_,_,_,_]) H wn rfl rfl rfl ?_;clear H;intro b2 a w hb2 H;refine dW (cs:=[_,_,_,_]) H wn rfl rfl rfl ?_;clear H;intro b3 a w hb3 H;refine kH H (aj K1 rfl (SQ fun _ K2=>SQ fun _ K3=>?_));clear H K1;intro a H;obtain ⟨Ga,hma,yR,H⟩:=H.fB;obtain ⟨Gb,hmb,hb2',H⟩:=H.fB;have hgd:=fun j v hj=>pR hb2' 0 D.cells rfl j v hj;have hgs:=fun j v hj=>aF hmb (pR yR 0 [.slice a1 an ac,.slice r1 rn rc,.slice a2 bn bc,.slice r2 sn sc] rfl j v hj);replace hR:=(hR.mono hma).mono hmb;replace hp:=(hp.mono hma).mono hmb;refine nH ?_;refine s_call Vp H wn rfl (XR _ _ H.ro) rfl ?_;clear H;rintro v17 BN a w rfl sV H;replace hR:=hR.mono sV;replace hp:=hp.mono sV;replace hgd:=fun j v hj=>aF sV (hgd j v hj);replace hgs:=fun j v hj=>aF sV (hgs j v hj);refine kH H (Rn rfl (Rm rfl (Sp 19 rfl ?_ ?_))) <;> clear H
 ·intro h19 a H
  try have tC:=dT h19
  refine kH H (aP h19 rfl (aP h19 rfl (Pt h19 rfl (Kn K3 (Ct rfl rfl (SR fun _ K4=>?_))))));clear H K3;intro a H;refine s_call Vp H wn rfl (XR _ _ H.ro) rfl ?_;clear H;rintro v25 FV a w rfl oU H;replace hR:=hR.mono oU;replace hp:=hp.mono oU;replace hgd:=fun j v hj=>aF oU (hgd j v hj);replace hgs:=fun j v hj=>aF oU (hgs j v hj);exact kH H (aj K4 rfl (LR results10 rfl fun H=>H.rt (by first|rfl|(simp_all;done))))
 intro h19 a H
 try have tC:=dF h19
 refine bP jf (cs:=D.cells) H (wg H rfl rfl h19) rfl rfl (fun j v hj=>H.hp.aH (hgd j v hj)) rfl ?_;clear H;intro a H;refine jD aAt [_,_] H (wg H rfl rfl h19) rfl rfl rfl rfl ?_;clear H;intro a H;refine s_call aoI H (wg H rfl rfl h19) rfl (aAf _ _ H.ro D d hR hs.z [] [] _ _ ⟨au.qV rfl (by decide),au.qV rfl (by decide),by decide,by decide⟩) rfl ?_;clear H;rintro v22 ZP a w ⟨b22,rfl,aBU⟩ QA H;replace hR:=hR.mono QA;replace hp:=hp.mono QA;replace hgd:=fun j v hj=>aF QA (hgd j v hj);replace hgs:=fun j v hj=>aF QA (hgs j v hj);refine kH H (YN h19 rfl (Pf h19 rfl (Kn K3 (Cd rfl ?_ ?_)))) <;> clear H K3
 ·intro fC a H
  try have mR:=dT fC
  refine cO (fun _ K5=>?_);refine s_call Vp H wn rfl (XR _ _ H.ro) rfl ?_;clear H;rintro v25 FV a w rfl oU H;replace hR:=hR.mono oU;replace hp:=hp.mono oU;replace hgd:=fun j v hj=>aF oU (hgd j v hj);replace hgs:=fun j v hj=>aF oU (hgs j v hj);exact kH H (aj K5 rfl (LR results10 rfl fun H=>H.rt (by first|rfl|(simp_all;done))))
 intro fC a H
 try have mR:=dF fC
 refine iB ?_;refine K2 _ _ ?_;clear K2;refine bD (fun _ K6=>?_)
 have hc:iL d=0:=by simp_all
 refine nH ?_;refine bP aAE (cs:=[.slice a1 an ac,.slice r1 rn rc,.slice a2 bn bc,.slice r2 sn sc]) H wn rfl rfl (fun j v hj=>H.hp.aH (hgs j v hj)) rfl ?_;clear H;intro a H;refine s_call aqm H wn rfl (anU _ _ H.ro A1 R1 A2 R2 _ _ _ _ _ _ _ _ _ _ _ _ hp.ha hp.hr hp.hb hp.hs hp.la hp.lr hp.lb hp.ls) rfl ?_;clear H;rintro v28 LC a w ⟨A,R,B,S,va,vr,vb,vs,rfl,q1,q2,q3,q4,o1,o2,o3,o4⟩ Na H;obtain ⟨xA,xn,xc,rfl⟩:=q1.form;obtain ⟨yA,yn,yc,rfl⟩:=q2.form;obtain ⟨zA,zn,zc,rfl⟩:=q3.form;obtain ⟨tA,tn,tc,rfl⟩:=q4.form;have hAl:=o1.len;have hRl:=o2.len;have e0:=anc o1 o2 fun x hx h=>o2.dis x h hx;replace hR:=hR.mono Na;replace hgd:=fun j v hj=>aF Na (hgd j v hj);refine kH H (Rm rfl ?_);clear H;intro a H;(iterate 2 refine mg H wn rfl rfl rfl ?_;clear H;intro a H);refine dO wW H wn rfl ?_;clear H;intro b5 a w hb5 H;refine dO wW H wn rfl ?_;clear H;intro b6 a w hb6 H;refine bC wW 1 (vs:=[_,_]) H wn rfl ?_;clear H;intro w H;refine bC wW 0 (vs:=[_,_]) H wn rfl ?_;clear H;intro w H;refine aD ?_;refine K6 _ _ ?_;clear K6;refine bD (fun _ K7=>?_);obtain ⟨G1,hm1,Qq,H⟩:=H.fB;obtain ⟨G2,hm2,zQ,H⟩:=H.fB;have hmm:∀ b o,LC b=some o->G2 b=some o:=fun b o h=>hm2 b o (hm1 b o h);have hg5:=fun j v hj=>pR zQ 0 [.slice xA xn xc,.slice yA yn yc] rfl j v hj;replace hR:=hR.mono hmm;replace q1:=q1.mono hmm;replace q2:=q2.mono hmm;replace hgd:=fun j v hj=>aF hmm (hgd j v hj);refine nH ?_;refine bP jf (cs:=D.cells) H wn rfl rfl (fun j v hj=>H.hp.aH (hgd j v hj)) rfl ?_;clear H;intro a H;refine bP wW (cs:=[.slice xA xn xc,.slice yA yn yc]) H wn rfl rfl (fun j v hj=>H.hp.aH (hg5 j v hj)) rfl ?_;clear H;intro a H;refine s_call apM H wn rfl (aym _ _ H.ro D d hR Ny hc A R _ _ q1 q2 (by omega) (by omega)) rfl ?_;clear H;rintro v34 LG a w ⟨E,rfl,hE⟩ zT H
 unfold RS at hE
 rw [aG e0] at hE;rw [e0] at H;replace hR:=hR.mono zT;replace q1:=q1.mono zT;replace q2:=q2.mono zT;replace hgd:=fun j v hj=>aF zT (hgd j v hj);replace hg5:=fun j v hj=>aF zT (hg5 j v hj);refine kH H (Rm rfl ?_);clear H;intro a H;(iterate 2 refine mg H wn rfl rfl rfl ?_;clear H;intro a H);refine dO jf H wn rfl ?_;clear H;intro b7 a w AZ H;refine bC jf 0 (vs:=[_,_,_,_,_,_,_,_,_,_,_]) H wn rfl ?_;clear H;intro w H;refine kH H (aX K7 rfl (SQ fun _ K8=>SQ fun _ K9=>?_));clear H K7;intro a H;obtain ⟨G3,vP,WO,H⟩:=H.fB;have hge:=fun j v hj=>pR WO 0 E.cells rfl j v hj;replace hR:=hR.mono vP;replace hE:=hE.mono vP;replace q1:=q1.mono vP;replace q2:=q2.mono vP;replace hgd:=fun j v hj=>aF vP (hgd j v hj);replace hg5:=fun j v hj=>aF vP (hg5 j v hj);have s1:=awx (ajf (acc:=lsB A) (rej:=lsB R) Ny (by decide) (by decide));have k1:=aik (R7 (acc:=lsB A) (rej:=lsB R) hc);obtain ⟨r,hr⟩:∃ r,r=nD (kL (lsB A) (lsB R) d):=⟨_,rfl⟩
 obtain ⟨atO,hun,QO⟩:(∀ x∈eH r.flow,x∈eH d.flow)∧qX (lY r.flow)<=qX (lY d.flow)∧∀ q∈lM r,q∉A∧q∉R:=by
  obtain ⟨-,-,g4,-,-⟩:=(zJ _).1 hc;obtain ⟨a1,a2,a3⟩:=NU (acc:=lsB A) (rej:=lsB R) _ true false 0 d.flow g4;have e1:=ahv a1
  have hf:r.flow=ku (dS (lsB A) (lsB R) d.flow):=by rw [hr];rfl
  refine ⟨fun x hx=>?_,?_,fun q hq=>?_⟩
  ·rw [hf,e1.1] at hx;exact a2.subset hx
  ·rw [hf,SI (Yj a1),SI g4,e1.2];omega
  rw [hr,aAU] at hq;obtain ⟨x,hx,rfl⟩:=List.mem_map.1 (akn hc hq);have:=(List.mem_filter.1 hx).2;rw [X6 o1.inc,X6 o2.inc] at this
  simpa using this
 rw [<- hr] at hE s1 k1;have aCf:=s1.fl;have hzr:=s1.z.fl;have hzd:=Ny.z.fl;have Qx:=Ny.fl;have Yl:=aiA k1;have Yk:=aiA hc
 have atM:∀ q∈eH r.flow,-9223372036854775808<=q∧q < 9223372036854775808:=fun q hq=>by have:=Yl.pos q hq;omega
 have atN:∀ q∈eH d.flow,-9223372036854775808<=q∧q < 9223372036854775808:=fun q hq=>by have:=Yk.pos q hq;omega
 have aCi:=NJ r.flow;have aCj:=NJ d.flow
 have hu1:∀ q∈lM r,-9223372036854775808<=q∧q < 9223372036854775808:=fun q hq=>by have:=akp k1 hq;omega
 have hu2:=ako k1;have hu3:=s1.z.rn;have hse:∀ x∈oZ (eH r.flow),x∈oZ (eH d.flow):=fun x hx=>Y8.2 (atO x (Y8.1 hx));have hlt1:=ajJ Yl.nd;have hlt2:=ajJ Yk.nd;obtain ⟨O,hO⟩:∃ O,O=oZ (eH d.flow):=⟨_,rfl⟩;obtain ⟨W,hW⟩:∃ W,W=oZ (eH r.flow):=⟨_,rfl⟩;obtain ⟨U,hU⟩:∃ U,U=oZ (lM r):=⟨_,rfl⟩
 have hOl:O.length<=4294967296:=by rw [hO,Y7];omega
 have hWl:W.length<=4294967296:=by rw [hW,Y7];omega
 have hUl:U.length<=4294967296:=by rw [hU,Y7];omega
 have hUn:∀ q∈U,q∉A++R:=fun q hq h=>by
  rw [hU,Y8] at hq;obtain ⟨n1,n2⟩:=QO q hq;exact (jA.1 h).elim n1 n2
 rw [<- hO,<- hW] at hse;rw [<- hO] at hlt2;rw [<- hW] at hlt1;refine dI hmx [[],[0],[0,1],[0,1,2],ra 0 4,ra 0 5,ra 0 6,ra 0 7,ra 0 8,ra 0 9,ra 0 8,ra 0 11,ra 0 12,ra 0 13] [] (by kernel_rfl) [_,_,_,.agg E.cells.toArray,vi 0,.bool false,_,_,.agg E.cells.toArray,vi (qX (lY r.flow)),.agg D.cells.toArray,vi (qX (lY d.flow)),.bool false,_] H (ay (Z0 rfl (Rm rfl)) (Z1 0 37 rfl (Rc rfl)) (Z1 1 38 rfl (Rm rfl)) ?_ (ay ?_ ?_ (Z2 2 39 5 42 rfl (Pf rfl rfl)) (Z1 6 43 rfl (Rm rfl)) (ay ?_ ?_ ?_ ?_ (bF ?_ (bF (Z2 7 44 12 49 rfl (Pf rfl rfl)) cK))))) ?_
 ·refine gZ 2 39 rfl rfl fun _ a w G1 hG HT H fin=>?_;exact abT
 ·refine dY 3 40 2 39 rfl rfl fun _ a w G1 hG HT H fin=>?_;refine s_call aeK H (wg H rfl rfl rfl) rfl (adz _ _ H.ro E _ (hE.mono hG) s1.z) rfl ?_;clear H;rintro v41 FY a w rfl asj H;rw [k1] at H;exact fin H asj (rfl)
 ·refine dY 4 41 2 39 rfl rfl fun _ a w G1 hG HT H fin=>?_;refine Fz H (wg H rfl rfl rfl) rfl rfl rfl rfl ?_;exact jk
 ·refine gZ 7 44 rfl rfl fun _ a w G1 hG HT H fin=>?_;exact abT
 ·refine dY 8 45 7 44 rfl rfl fun _ a w G1 hG HT H fin=>?_;refine s_call aeT H (wg H rfl rfl rfl) rfl (akg _ _ H.ro E r.flow (hE.mono hG).fl (by omega) (akd _ s1.z.fl)) rfl ?_;clear H;rintro v46 Tt a w rfl aso H;exact fin H aso (rfl)
 ·refine gZ 7 44 rfl rfl fun _ a w G1 hG HT H fin=>?_;refine bP jf (cs:=D.cells) H (wg H rfl rfl rfl) rfl rfl (fun j v hj=>H.hp.aH (aF hG (hgd j v hj))) rfl ?_;exact jk
 ·refine dY 10 47 7 44 rfl rfl fun _ a w G1 hG HT H fin=>?_;refine s_call aeT H (wg H rfl rfl rfl) rfl (akg _ _ H.ro D d.flow (hR.mono hG).fl (by omega) (akd _ Ny.z.fl)) rfl ?_;clear H;rintro v48 G48 a w rfl asr H;exact fin H asr (rfl)
 ·refine vZ 9 46 11 48 7 44 rfl rfl fun _ a w G1 hG HT H fin=>?_;exact acN
 clear H;intro a w G lF H hv;have H:=H.aM (hv 13 50 rfl rfl) rfl;clear hv;refine aD ⟨rfl,?_⟩;refine K9 _ _ ?_;clear K9;refine pO H rfl rfl ?_;refine iB ?_;refine K8 _ _ ?_;clear K8;refine bD (fun _ aW=>?_);replace hR:=hR.mono lF;replace hE:=hE.mono lF;replace q1:=q1.mono lF;replace q2:=q2.mono lF;replace hgd:=fun j v hj=>aF lF (hgd j v hj);replace hge:=fun j v hj=>aF lF (hge j v hj);replace hg5:=fun j v hj=>aF lF (hg5 j v hj);refine nH ?_;refine bP jf (cs:=E.cells) H wn rfl rfl (fun j v hj=>H.hp.aH (hge j v hj)) rfl ?_;clear H;intro a H;refine s_call aeU H wn rfl (aek _ _ H.ro E r hE (by omega) hu1 (by omega)) rfl ?_;clear H;rintro v52 Tw a w KD D6 H;rw [<- hU] at KD;replace hR:=hR.mono D6;replace hE:=hE.mono D6;replace q1:=q1.mono D6;replace q2:=q2.mono D6;replace hgd:=fun j v hj=>aF D6 (hgd j v hj);replace hge:=fun j v hj=>aF D6 (hge j v hj);replace hg5:=fun j v hj=>aF D6 (hg5 j v hj);obtain ⟨FQ,n52,GQ,rfl⟩:=KD.form
 obtain rfl:n52=U.length:=by simpa using KD.len
 obtain rfl:xn=A.length:=by simpa using q1.len
 obtain rfl:yn=R.length:=by simpa using q2.len
 refine kH H (aX aW rfl (SQ fun _ bM=>?_));clear H aW;intro a H
 have QJ:Jd (fun (aK:Nat->ah × OL) (bT:Nat) (v:ah) (G:GH)=>match bT with|0=>v=(aK 0).1∧cu 3 1 v 0 [] (aK 0).2|1=>v=(aJ b5 (0+0))|2=>v=.slice xA A.length xc|3=>v=(aK 3).1∧∃ xs,cu 3 1 v A.length xs (aK 3).2∧bZ G 1 (A.map fun q=>[li q]) xs|4=>v=(aJ b5 (0+1))|5=>v=.slice yA R.length yc|6=>v=(aK 6).1∧∃ xs,cu 3 1 v (A++R).length xs (aK 6).2∧bZ G 1 ((A++R).map fun q=>[li q]) xs|_=>True):=by intro aK bT v G G' hm h;(iterate 8 (rcases bT with _|bT;(first|exact h|exact let ⟨h1,xs,h2,h3⟩:=h;⟨h1,xs,h2,h3.mono hm⟩)));exact trivial
 refine adk [0,3,6] [(0,3),(3,6)] (hmx) [[],[],[1],[0,1,2],[],[4],ra 0 6,ra 0 7] [7] (by kernel_rfl) (by kernel_rfl) (by decide) (by kernel_rfl) (by decide) (fun (aK:Nat->ah × OL) (bT:Nat) (v:ah) (G:GH)=>match bT with|0=>v=(aK 0).1∧cu 3 1 v 0 [] (aK 0).2|1=>v=(aJ b5 (0+0))|2=>v=.slice xA A.length xc|3=>v=(aK 3).1∧∃ xs,cu 3 1 v A.length xs (aK 3).2∧bZ G 1 (A.map fun q=>[li q]) xs|4=>v=(aJ b5 (0+1))|5=>v=.slice yA R.length yc|6=>v=(aK 6).1∧∃ xs,cu 3 1 v (A++R).length xs (aK 6).2∧bZ G 1 ((A++R).map fun q=>[li q]) xs|_=>True) (fun m hm x y i v G hi hc h=>by
  have hm:m=0∨m=3∨m=6:=by simpa using hm
  rcases hm with rfl|rfl|rfl
  ·exact JB
  ·exact JB
  ·exact JB
  ) H ?_ ?_ ?_
 ·clear H;refine ay ?_ ?_ ?_ ?_ (ay ?_ ?_ ?_ ?_ cK)
  ·exact xG
  ·intro aK dM bH a w G1 fF _ _ aO hc hG HT hv;have H:=HT;clear aO;have Hb:=H.full;have H:=Hb;clear hc;refine kH H (Rf Co rfl ?_);exact Pp
  ·intro aK dM bH a w G1 fF _ _ aO hc hG HT hv;have H:=HT;clear aO;have H:=H.aM (hv 1 54 (hc 1 (by decide)) rfl) rfl;have Hb:=H.full;have H:=Hb;clear hc;refine kH H (Rg oq rfl (aF hG (hg5 0 _ rfl)) ?_);exact Pp
  ·exact xG
  ·intro aK dM bH a w G1 fF _ _ aO hc hG HT hv;have H:=HT;clear aO;have Hb:=H.full;have H:=Hb;clear hc;refine kH H (Rf EN rfl ?_);exact Pp
  ·intro aK dM bH a w G1 fF _ _ aO hc hG HT hv;have H:=HT;clear aO;have H:=H.aM (hv 4 57 (hc 4 (by decide)) rfl) rfl;have Hb:=H.full;have H:=Hb;clear hc;refine kH H (Rg oq rfl (aF hG (hg5 1 _ rfl)) ?_);exact Pp
  ·exact xG
  exact GL
 ·clear H;refine ay ?_ ?_ ?_ ?_ (ay ?_ ?_ ?_ ?_ cK)
  ·intro _ aK dM bH a w G1 fF _ hc hG HT hv;have H:=HT;have H:=H.cast (show CQ [(0,3),(3,6)] aK 0++dM=dM from rfl);have Hb:=H.full;have H:=Hb;clear hc;refine Aa iG aC H wn rfl ?_;clear H;intro Js a w aB1 H;refine aD ⟨rfl,(.slice (some ⟨Js,0,none⟩) 0 0,[(Js,.cells #[] 3 (0,0))]),?_⟩;exact xK (by kernel_rfl) (QJ (mJ aK 0 (.slice (some ⟨Js,0,none⟩) 0 0,[(Js,.cells #[] 3 (0,0))]))) rfl HT Hb hG (fun j e h1 h2 h3=>(let ⟨v,q1,_,q2⟩:=hv (.slice (some ⟨Js,0,none⟩) 0 0,[(Js,.cells #[] 3 (0,0))]) j e h1 h2 h3;⟨v,q1,q2⟩)) (fun _ _ h=>h) (⟨rfl,cu.empty⟩) H
  ·intro hB;exact gL
  ·intro hB;exact gL
  ·intro _ aK dM bH a w G1 fF _ hc hG HT hv;have H:=HT;have H:=H.cast (show CQ [(0,3),(3,6)] aK 3++dM=(aK 0).2++dM from rfl);obtain ⟨u53,ND,yV,-⟩:=hv (.bool false,[]) 0 53 (by decide) (hc 0 (by decide)) rfl;(try dsimp only at yV);obtain ⟨DK,auE⟩:=yV;have H:=H.iI ND;obtain ⟨u55,ava,auq,-⟩:=hv (.bool false,[]) 2 55 (by decide) (hc 2 (by decide)) rfl;obtain rfl:u55=.slice xA A.length xc:=auq;have H:=H.iI ava;have Hb:=H.full;have H:=Hb;clear hc;refine NZ iG aC rfl rfl (Li:=dM) (Lo:=(aK 0).2) (H.perm pK) wn rfl rfl auE (q1.mono hG) (by omega) (by omega) rfl ?_;clear H;intro v56 TF n56 a w QM WU H;have asw:=fun (b:Nat) (o:Obj) (h:G1 b=some o)=>h;rw [gI,jR] at QM;have H:=H.perm pK;refine aD ⟨rfl,(v56,TF),?_⟩;exact xK (by kernel_rfl) (QJ (mJ aK 3 (v56,TF))) rfl HT Hb hG (fun j e h1 h2 h3=>(let ⟨v,q1,_,q2⟩:=hv (v56,TF) j e h1 h2 h3;⟨v,q1,q2⟩)) asw (⟨rfl,_,QM,WU⟩) H
  ·intro hB;exact gL
  ·intro hB;exact gL
  ·intro _ aK dM bH a w G1 fF _ hc hG HT hv;have H:=HT;have H:=H.cast (show CQ [(0,3),(3,6)] aK 6++dM=(aK 3).2++dM from rfl);obtain ⟨u56,avb,agY,-⟩:=hv (.bool false,[]) 3 56 (by decide) (hc 3 (by decide)) rfl;(try dsimp only at agY);obtain ⟨Qk,aC1,QM,WU⟩:=agY;have H:=H.iI avb;obtain ⟨u58,avc,aur,-⟩:=hv (.bool false,[]) 5 58 (by decide) (hc 5 (by decide)) rfl;obtain rfl:u58=.slice yA R.length yc:=aur;have H:=H.iI avc;have Hb:=H.full;have H:=Hb;clear hc;refine NZ iG aC rfl rfl (Li:=dM) (Lo:=(aK 3).2) (H.perm pK) wn rfl rfl QM (q2.mono hG) (by omega) (by omega) rfl ?_;clear H;intro v59 OM n59 a w Nv WV H;have asx:=fun (b:Nat) (o:Obj) (h:G1 b=some o)=>h;have H:=H.perm pK;refine aD ⟨rfl,(v59,OM),?_⟩;exact xK (by kernel_rfl) (QJ (mJ aK 6 (v59,OM))) rfl HT Hb hG (fun j e h1 h2 h3=>(let ⟨v,q1,_,q2⟩:=hv (v59,OM) j e h1 h2 h3;⟨v,q1,q2⟩)) asx (⟨rfl,_,by rw [iw];exact Nv,by rw [kF];exact WU.append WV⟩) H
  intro hB;exact gL
 clear H;intro aK a w G rW H hv;rw [show iM [0,3,6] (live [(0,3),(3,6)] fun _=>true) aK=(aK 6).2 from by first|(simp [iM,live];done)|(simp [iM,live];rfl)] at H
 try simp only [iM,List.flatMap_cons,List.flatMap_nil,cond_true,ig,iZ] at H
 obtain ⟨u59,avd,agZ⟩:=hv 6 59 (by decide) rfl;(try dsimp only at agZ);obtain ⟨iQ,aC2,Nv,WV⟩:=agZ;have H:=H.iI avd;clear hv;obtain ⟨⟨v59,OM⟩,e59⟩:∃ y,y=aK 6:=⟨_,rfl⟩;rw [<- e59] at H iQ Nv;dsimp only at H iQ Nv;subst iQ;refine kH H (Ra rfl ?_);clear H;intro a H;refine aD ⟨rfl,?_⟩;refine bM _ _ ?_;clear bM;refine bD (fun _ bU=>?_);refine bD (fun _ bY=>?_);obtain ⟨G4,Bb,QV,H⟩:=H.qp (Li:=[]) Nv (rows:=(A++R).map fun q=>[li q]) (by simp) WV;obtain ⟨C,hC⟩:∃ C,C=A++R:=⟨_,rfl⟩
 have hCl:C.length<=80:=by rw [hC,iw];omega
 rw [<- hC] at QV hUn;obtain ⟨A59,n59,c59,rfl⟩:=QV.form
 obtain rfl:n59=C.length:=by simpa using QV.len
 have Nj:=fun b o h=>Bb b o (rW b o h);replace hR:=hR.mono Nj;replace hE:=hE.mono Nj;replace KD:=KD.mono Nj;replace hgd:=fun j v hj=>aF Nj (hgd j v hj);replace hge:=fun j v hj=>aF Nj (hge j v hj);refine kP H (SC (aX bY rfl (SB ?_)));clear H bY;intro a H;skip;refine eX (ι:=Nat × GH) (Tc:=[(2,_),(7,_),(9,_),(10,_)]) (Lc:=[]) (fun gh=>[(11,vi gh.1)]) (fun gh=>[]) (fun gh=>gh.2) (fun gh=>gh.1<=U.length∧(∀ b o,G4 b=some o->gh.2 b=some o)) (fun gh=>U.length - gh.1) ((0,G4)) (by exact H.sub ⟨rfl,rfl,rfl,rfl,rfl,aB⟩) ?_ ?_
 ·exact Ma
 clear H;rintro ⟨i,g⟩ a w hI H;dsimp only at hI H;obtain ⟨hi,hgm⟩:=hI;dsimp only [lca,bJ] at H;refine kP H (SQ fun _ cZ=>SR fun _ dQ=>Rm rfl (Rm rfl (Rl iG rfl (Rc rfl (Kz dQ (Cd rfl ?_ ?_)))))) <;> clear H dQ
 ·intro h63 a H
  try have p63:=dT h63
  have hi2:i < U.length:=by omega
  obtain ⟨bu,ou,rfl,M6⟩:=zV (f:=fun q=>q) KD hi2;replace M6:=aF hgm M6;refine kP H (Kc cZ (SQ fun _ dR=>SB (SR fun _ dK=>aj dK rfl (SB ?_))));clear H cZ dK;intro a H;skip;refine eX (ι:=Nat × GH) (Tc:=[(2,_),(7,_),(9,_),(10,_),(11,_)]) (Lc:=[]) (fun gh=>[(12,vi gh.1)]) (fun gh=>[]) (fun gh=>gh.2) (fun gh=>gh.1<=C.length∧(∀ b o,g b=some o->gh.2 b=some o)) (fun gh=>C.length - gh.1) ((0,g)) (by exact H.sub ⟨rfl,rfl,rfl,rfl,rfl,rfl,aB⟩) ?_ ?_
  ·exact Ma
  clear H;rintro ⟨k,g2⟩ a w hI H;dsimp only at hI H;obtain ⟨hk,iF⟩:=hI;dsimp only [lca,bJ] at H;refine kP H (SQ fun _ dX=>SR fun _ fM=>Rm rfl (Rm rfl (Rl iG rfl (Rc rfl (Kz fM (Cd rfl ?_ ?_)))))) <;> clear H fM
  ·intro sS a H
   try have p69:=dT sS
   have hk2:k < C.length:=by omega
   obtain ⟨bc,oc,rfl,hcc⟩:=zV (f:=fun q=>q) QV hk2;replace hcc:=aF iF (aF hgm hcc);replace M6:=aF iF M6;have hne:¬ U[i]=C[k]:=fun e=>hUn _ (jB hi2) (by rw [e];exact jB hk2);refine kP H (Kc dX (SQ fun _ eP=>SB (SQ fun _ gB=>?_)));clear H dX;intro a H;refine dI hmx [[],[],[0,1],[0,1,2],[],[],[4,5],[4,5,6],ra 0 8] [] (by kernel_rfl) [_,_,_,_,_,_,_,_,.bool false] H (ay (Z0 rfl (Rm rfl)) (Z0 rfl (Rm rfl)) (Z2 0 72 1 73 rfl (Ri iG aC rfl rfl)) (X1 2 74 rfl fun hG=>Rg aC rfl (aF hG (by rw [Nat.mul_one];exact M6))) (ay (Z0 rfl (Rm rfl)) (Z0 rfl (Rm rfl)) (Z2 4 76 5 77 rfl (Ri iG aC rfl rfl)) (X1 6 78 rfl fun hG=>Rg aC rfl (aF hG (by rw [Nat.mul_one];exact hcc))) (bF ?_ cK))) ?_
   ·refine dY 3 75 7 79 rfl rfl fun _ a w G1 hG HT H fin=>?_;refine kH H (Rc rfl ?_);clear H;intro a H;exact fin H iJ (iK (aT hne))
   clear H;intro a w G AV H hv;have H:=H.aM (hv 8 80 rfl rfl) rfl;clear hv;refine aD ⟨rfl,?_⟩;refine gB _ _ ?_;clear gB;refine pO H rfl rfl ?_;refine kP H (Kc eP (SC (Rm rfl (Rd rfl (Ra rfl ?_)))));clear H eP;intro a H;refine aD ?_;refine dG ((k+1,_)) (by exact H.sub ⟨rfl,rfl,rfl,rfl,rfl,rfl,aB⟩) ?_
   (try dsimp only);exact ⟨by omega,fun b o h=>AV b o (iF b o h)⟩
  intro sS a H
  try have p69:=dF sS
  have qQ:=fun b o h=>iF b o (hgm b o h);refine dP ?_;refine dR _ _ ?_;clear dR;refine kP H (SC (Rm rfl (Rd rfl (Ra rfl ?_))));clear H;intro a H;refine aD ?_;refine dG ((i+1,_)) (by exact H.sub ⟨rfl,rfl,rfl,rfl,rfl,aB⟩) ?_
  (try dsimp only);exact ⟨by omega,qQ⟩
 intro h63 a H
 try have p63:=dF h63
 refine dP ?_;refine bU _ _ ?_;clear bU;refine bD (fun _ iH=>?_);replace hR:=hR.mono hgm;replace hE:=hE.mono hgm;replace hgd:=fun j v hj=>aF hgm (hgd j v hj);replace hge:=fun j v hj=>aF hgm (hge j v hj)
 have Nr:BS (fun (bT:Nat) (v:ah) (G:GH)=>match bT with|0=>v=.agg D.cells.toArray|1=>au G (.sl 1 (O.map fun q=>[li q])) v|2=>v=.agg E.cells.toArray|3=>au G (.sl 1 (W.map fun q=>[li q])) v|_=>True):=by intro bT v G G' hm h;(iterate 6 (rcases bT with _|bT;(first|exact h|exact au.mono hm h)));exact trivial
 refine Au (hmx) [[],[0],[],[0,1,2],ra 0 4,ra 0 5] [4,5] (by kernel_rfl) (by kernel_rfl) _ Nr H ?_ ?_
 ·clear H;refine ay ?_ ?_ ?_ ?_ (bF (bR rfl) (bF (bR rfl) cK))
  ·refine fP [] rfl trivial (by kernel_rfl) Nr rfl rfl ?_;intro bH a w G1 hG HT H fin;refine bP jf (cs:=D.cells) H wn rfl rfl (fun j v hj=>H.hp.aH (aF hG (hgd j v hj))) rfl ?_;exact jk
  ·refine fP [(0,81,_)] rfl ⟨fun _ _ h=>h,aB⟩ (by kernel_rfl) Nr rfl rfl ?_;intro bH a w G1 hG HT H fin;refine s_call aeV H wn rfl (aej _ _ H.ro D d.flow (hR.mono hG).fl (by omega) Yk.nd atN (by omega)) rfl ?_;clear H;rintro v82 G82 a w ahr asE H;rw [<- hO] at ahr;exact fin H asE (ahr)
  ·refine fP [] rfl trivial (by kernel_rfl) Nr rfl rfl ?_;intro bH a w G1 hG HT H fin;refine bP jf (cs:=E.cells) H wn rfl rfl (fun j v hj=>H.hp.aH (aF hG (hge j v hj))) rfl ?_;exact jk
  refine fP [(2,83,_)] rfl ⟨fun _ _ h=>h,aB⟩ (by kernel_rfl) Nr rfl rfl ?_;intro bH a w G1 hG HT H fin;refine s_call aeV H wn rfl (aej _ _ H.ro E r.flow (hE.mono hG).fl (by omega) Yl.nd atM (by omega)) rfl ?_;clear H;rintro v84 G84 a w ahs asF H;rw [<- hW] at ahs;exact fin H asF (ahs)
 clear H;intro a w G afQ H hv;obtain ⟨u82,ave,Kq⟩:=hv 1 82 (by decide) rfl;(try dsimp only at Kq);obtain ⟨A82,n82,c82,rfl⟩:=Kq.form
 obtain rfl:n82=O.length:=by simpa using Kq.len
 have H:=H.iI ave;obtain ⟨u84,avf,Np⟩:=hv 3 84 (by decide) rfl;(try dsimp only at Np);obtain ⟨A84,n84,c84,rfl⟩:=Np.form
 obtain rfl:n84=W.length:=by simpa using Np.len
 have H:=H.iI avf;clear hv;refine kH H (Ra rfl (Ra rfl ?_));clear H;intro a H;refine aD ⟨rfl,?_⟩;refine iH _ _ ?_;clear iH;refine bD (fun _ jP=>?_);obtain ⟨GG,hGG⟩:∃ GG:GH,GG=G:=⟨_,rfl⟩;rw [<- hGG] at Kq Np;refine kP H (SC (aX jP rfl (SQ fun _ jH=>SR fun _ jr=>aj jr rfl (SB ?_))));clear H jP jr;intro a H;skip;refine eX (ι:=Nat × Nat × GH) (Tc:=[(13,_),(14,_)]) (Lc:=[]) (fun gh=>[(15,vi gh.1),(16,vi gh.2.1)]) (fun gh=>[]) (fun gh=>gh.2.2) (fun gh=>gh.2.1<=W.length∧gh.1<=O.length∧(gh.2.1 < W.length->∀ j,j < gh.1->O.getD j 0 < W.getD gh.2.1 0)∧(∀ b o,GG b=some o->gh.2.2 b=some o)) (fun gh=>W.length - gh.2.1) ((0,0,GG)) (by exact (by rw [hGG];exact H.sub ⟨rfl,rfl,rfl,rfl,aB⟩)) ?_ ?_
 ·exact ⟨kE _,kE _,fun _ j h=>absurd h (Nat.not_lt_zero _),fun _ _ h=>h⟩
 clear H;rintro ⟨k,i,g⟩ a w hI H;dsimp only at hI H;obtain ⟨hi,hk,hlow,hgm⟩:=hI;dsimp only [lca,bJ] at H;refine kP H (SQ fun _ kN=>SR fun _ kQ=>Rm rfl (Rm rfl (Rl iG rfl (Rc rfl (Kz kQ (Cd rfl ?_ ?_)))))) <;> clear H kQ
 ·intro Wu a H
  try have p88:=dT Wu
  have hi2:i < W.length:=by omega
  have hO0:0 < O.length:=List.length_pos_of_mem (hse _ (jB hi2));obtain ⟨bw,ow,rfl,hcw⟩:=zV (f:=fun q=>q) Np hi2;obtain ⟨bo,oo,e82,-⟩:=zV (f:=fun q=>q) Kq hO0
  have hco:∀ k,k < O.length->aH GG bo (oo+k*1)=some (vi (O.getD k 0)):=fun k hk=>by
   obtain ⟨b',o',e',h'⟩:=zV (f:=fun q=>q) Kq hk;rw [e82] at e';injection e' with e';injection e' with e1 e2;subst e1;subst e2;rw [getD_at hk,Nat.mul_one];exact h'
  subst e82
  replace hcw:aH g bw (ow+i*1)=some (vi (W.getD i 0)):=by rw [getD_at hi2,Nat.mul_one];exact aF hgm hcw
  replace hco:=fun k hk=>aF hgm (hco k hk);refine kP H (Kc kN (SQ fun _ jh=>SB (SQ fun _ mD=>SB ?_)));clear H kN;intro a H;skip;refine eX (ι:=Nat × GH) (Tc:=[(13,_),(14,_),(16,_)]) (Lc:=[]) (fun gh=>[(15,vi gh.1)]) (fun gh=>[]) (fun gh=>gh.2) (fun gh=>gh.1<=O.length∧(∀ j,j < gh.1->O.getD j 0 < W.getD i 0)∧(∀ b o,g b=some o->gh.2 b=some o)) (fun gh=>O.length - gh.1) ((k,g)) (by exact H.sub ⟨rfl,rfl,rfl,rfl,aB⟩) ?_ ?_
  ·exact ⟨hk,hlow hi2,fun _ _ h=>h⟩
  clear H;rintro ⟨m,g2⟩ a w hI H;dsimp only at hI H;obtain ⟨hm,hlo2,iF⟩:=hI;have hcw:=aF iF hcw;have hco:=fun k hk=>aF iF (hco k hk);dsimp only [lca,bJ] at H;refine bD (fun _ nE=>?_);refine bD (fun _ mE=>?_)
  by_cases c0:(m:Int) < (O.length:Int)
  ·skip;refine dI hmx [[],[],[1],[0,1,2],ra 0 4,ra 0 5,ra 0 5,ra 0 7,ra 0 8,ra 0 5,ra 0 5,[0,1,2,3,4,9,10],[0,1,2,3,4,9,10,11],ra 0 13,ra 0 14] [] (by kernel_rfl) [_,_,_,_,_,_,_,(aJ bo (oo+m*1)),_,_,_,(aJ bw (ow+i*1)),_,_,_] H (ay (Z0 rfl (Rm rfl)) (Z0 rfl (Rm rfl)) (Z1 1 92 rfl (Rl iG rfl)) (Z2 0 91 2 93 rfl (Rc rfl)) (ay (Z1 3 94 rfl (Rm rfl)) (Z1 4 95 rfl (YM (aI c0) rfl)) (Z1 4 95 rfl (YM (aI c0) rfl)) ?_ (ay (X2 7 98 4 95 rfl fun hG=>YR aC (aI c0) rfl (aF hG (hco m (by omega)))) (Z1 4 95 rfl (YM (aI c0) rfl)) (Z1 4 95 rfl (YM (aI c0) rfl)) ?_ (bF (X2 11 102 4 95 rfl fun hG=>YR aC (aI c0) rfl (aF hG hcw)) (bF (Z3 8 99 12 103 4 95 rfl (YC (aI c0) rfl)) (bF (Z2 4 95 13 104 rfl (Pt (aI c0) rfl)) cK)))))) ?_
   ·refine vZ 5 96 6 97 4 95 rfl rfl fun _ a w G1 hG HT H fin=>?_;refine vX iG aC m H (wg H rfl rfl (aI c0)) rfl rfl rfl (by omega) rfl ?_;exact jk
   ·refine vZ 9 100 10 101 4 95 rfl rfl fun _ a w G1 hG HT H fin=>?_;refine vX iG aC i H (wg H rfl rfl (aI c0)) rfl rfl rfl (by omega) rfl ?_;exact jk
   clear H;intro a w G zP H hv;have H:=H.aM (hv 14 105 rfl rfl) rfl;clear hv;refine aD ⟨rfl,?_⟩;refine mE _ _ ?_;clear mE;refine jS H rfl ?_ ?_
   ·intro qw
    try have Fx:=dT qw
    refine kP H (Kc nE (SB (SC (Rm rfl (Rd rfl (Ra rfl ?_))))));clear H nE;intro a H;refine aD ?_;refine dG ((m+1,_)) (by exact H.sub ⟨rfl,rfl,rfl,rfl,aB⟩) ?_
    (try dsimp only);refine ⟨by omega,fun j hj=>?_,fun b o h=>zP b o (iF b o h)⟩
    rcases Nat.lt_or_ge j m with h|h
    ·exact hlo2 j h
    rw [show j=m by omega];assumption
   intro qw
   try have Fx:=dF qw
   refine dP ?_;refine mD _ _ ?_;clear mD;refine bD (fun _ oC=>?_);obtain ⟨hm2,heq⟩:=ahC hlt2 hse hi2 hlo2 (fun h=>by first|assumption|omega);have hcw:=aF zP hcw;have hco:=aF zP (hco m hm2);refine dI hmx [[],[],[1],[0,1,2],ra 0 4,ra 0 5,ra 0 5,ra 0 7,ra 0 8,ra 0 5,ra 0 5,[0,1,2,3,4,9,10],[0,1,2,3,4,9,10,11],ra 0 13,ra 0 14] [] (by kernel_rfl) [_,_,_,.bool false,_,.slice (some ⟨bo,oo,none⟩) O.length c82,vi m,(aJ bo (oo+m*1)),vi (O.getD m 0),.slice (some ⟨bw,ow,none⟩) W.length c84,vi i,(aJ bw (ow+i*1)),vi (W.getD i 0),.bool false,_] H (ay (Z0 rfl (Rm rfl)) (Z0 rfl (Rm rfl)) (Z1 1 109 rfl (Rl iG rfl)) ?_ (ay (Z1 3 111 rfl (Rm rfl)) ?_ ?_ ?_ (ay ?_ ?_ ?_ ?_ (bF ?_ (bF ?_ (bF (Z2 4 112 13 121 rfl (Pf rfl rfl)) cK)))))) ?_
   ·exact abo
   ·exact EH
   ·exact EH
   ·exact abK
   ·exact abM
   ·exact EH
   ·exact EH
   ·exact abJ
   ·exact abL
   ·exact abZ
   clear H;intro a w G Wz H hv;have H:=H.aM (hv 14 122 rfl rfl) rfl;clear hv;refine aD ⟨rfl,?_⟩;refine oC _ _ ?_;clear oC;refine pO H rfl rfl ?_;refine kP H (Kc jh (SC (Rm rfl (Rd rfl (Ra rfl ?_)))));clear H jh;intro a H;refine aD ?_;refine dG ((m,i+1,_)) (by exact H.sub ⟨rfl,rfl,rfl,rfl,aB⟩) ?_
   (try dsimp only);refine ⟨by omega,by omega,fun h j hj=>?_,fun b o h=>Wz b o (zP b o (iF b o (hgm b o h)))⟩;have h1:=hlo2 j hj;have h2:=List.pairwise_iff_getElem.1 hlt1 i (i+1) hi2 h (by omega);rw [getD_at hi2] at h1;rw [getD_at h];omega
  skip;refine dI hmx [[],[],[1],[0,1,2],ra 0 4,ra 0 5,ra 0 5,ra 0 7,ra 0 8,ra 0 5,ra 0 5,[0,1,2,3,4,9,10],[0,1,2,3,4,9,10,11],ra 0 13,ra 0 14] [] (by kernel_rfl) [_,_,_,_,_,undef,undef,undef,undef,undef,undef,undef,undef,undef,_] H (ay (Z0 rfl (Rm rfl)) (Z0 rfl (Rm rfl)) (Z1 1 92 rfl (Rl iG rfl)) (Z2 0 91 2 93 rfl (Rc rfl)) (ay (Z1 3 94 rfl (Rm rfl)) (aU 4 (aT c0) rfl rfl) (aU 4 (aT c0) rfl rfl) (aU 4 (aT c0) rfl rfl) (ay (aU 4 (aT c0) rfl rfl) (aU 4 (aT c0) rfl rfl) (aU 4 (aT c0) rfl rfl) (aU 4 (aT c0) rfl rfl) (bF (aU 4 (aT c0) rfl rfl) (bF (aU 4 (aT c0) rfl rfl) (bF (Z2 4 95 13 104 rfl (Pf (aT c0) rfl)) cK)))))) ?_
  clear H;intro a w G zP H hv;have H:=H.aM (hv 14 105 rfl rfl) rfl;clear hv;refine aD ⟨rfl,?_⟩;refine mE _ _ ?_;clear mE;refine pO H rfl rfl ?_;refine dP ?_;refine mD _ _ ?_;clear mD;refine bD (fun _ nQ=>?_);obtain ⟨hm2,heq⟩:=ahC hlt2 hse hi2 hlo2 (fun h=>by first|assumption|omega);have hcw:=aF zP hcw;have hco:=aF zP (hco m hm2);refine dI hmx [[],[],[1],[0,1,2],ra 0 4,ra 0 5,ra 0 5,ra 0 7,ra 0 8,ra 0 5,ra 0 5,[0,1,2,3,4,9,10],[0,1,2,3,4,9,10,11],ra 0 13,ra 0 14] [] (by kernel_rfl) [_,_,_,.bool false,_,.slice (some ⟨bo,oo,none⟩) O.length c82,vi m,(aJ bo (oo+m*1)),vi (O.getD m 0),.slice (some ⟨bw,ow,none⟩) W.length c84,vi i,(aJ bw (ow+i*1)),vi (W.getD i 0),.bool false,_] H (ay (Z0 rfl (Rm rfl)) (Z0 rfl (Rm rfl)) (Z1 1 109 rfl (Rl iG rfl)) ?_ (ay (Z1 3 111 rfl (Rm rfl)) ?_ ?_ ?_ (ay ?_ ?_ ?_ ?_ (bF ?_ (bF ?_ (bF (Z2 4 112 13 121 rfl (Pf rfl rfl)) cK)))))) ?_
  ·exact abo
  ·exact EH
  ·exact EH
  ·exact abK
  ·exact abM
  ·exact EH
  ·exact EH
  ·exact abJ
  ·exact abL
  ·exact abZ
  clear H;intro a w G Wz H hv;have H:=H.aM (hv 14 122 rfl rfl) rfl;clear hv;refine aD ⟨rfl,?_⟩;refine nQ _ _ ?_;clear nQ;refine pO H rfl rfl ?_;refine kP H (Kc jh (SC (Rm rfl (Rd rfl (Ra rfl ?_)))));clear H jh;intro a H;refine aD ?_;refine dG ((m,i+1,_)) (by exact H.sub ⟨rfl,rfl,rfl,rfl,aB⟩) ?_
  (try dsimp only);refine ⟨by omega,by omega,fun h j hj=>?_,fun b o h=>Wz b o (zP b o (iF b o (hgm b o h)))⟩;have h1:=hlo2 j hj;have h2:=List.pairwise_iff_getElem.1 hlt1 i (i+1) hi2 h (by omega);rw [getD_at hi2] at h1;rw [getD_at h];omega
 intro Wu a H
 try have p88:=dF Wu
 refine dP ?_;refine jH _ _ ?_;clear jH;exact kP H (SR fun _ oO=>aj oO rfl (LR results10 rfl fun H=>H.rt (by first|rfl|(simp_all;done))))
section
open Go.ChangeShapes Go.RowKit Go.Deep
abbrev qP (W:World):GH:=fun k=>W.heap[k]?
theorem arN {W:World} {b o:Nat} {v:ah} (h:W.cell? ⟨b,o,none⟩=some v):aH (qP W) b o=some v:=by
 unfold World.cell? at h
 unfold aH qP
 split at h
 ·rename_i c e f hh
  simp only at hh
  rw [hh];simpa using h
 cases h
theorem ahR {α:Type} {p:Nat->α->Prop}:∀ n:Nat,(∀ i,i < n->∃ x,p i x)->∃ l:List α,l.length=n∧∀ i x,l[i]?=some x->p i x
 | 0,_=>⟨[],rfl,fun i x h=>by simp at h⟩
 | n+1,h=>by
  obtain ⟨l,hl,hp⟩:=ahR n (fun i hi=>h i (by omega));obtain ⟨x,hx⟩:=h n (by omega);refine ⟨l++[x],by simp [hl],fun i y hy=>?_⟩
  by_cases hi:i < l.length
  ·exact hp i y (by rwa [zB hi] at hy)
  rw [uJ (by omega)] at hy
  have hin:i - l.length=0:=by
   have:=(jQ.1 hy).1
   simp at this;omega
  rw [hin] at hy
  simp only [Cc,pE] at hy
  subst hy;rw [show i=n by omega];exact hx
theorem amk {H:Type} (d:DataW H):1<=Rows.uptoBulk d:=by
 cases d <;> (try simp only [Rows.uptoBulk]) <;> (try omega)
 rename_i x;cases x <;> simp only [Rows.uptoBulk] <;> omega
theorem adh {H ρ:Type} {dat:ρ->List Dat}:∀ (rs:List ρ) (D:Nat->DataW H),(∀ i r,rs[i]?=some r->bV (dat r)+1<=8*Rows.uptoBulk (D i))->dU (rs.map dat)<=8*Rows.uptoBulkAll ((List.range rs.length).map D)
 | [],D,_=>kE _
 | r :: rs,D,h=>by
  have h0:=h 0 r rfl;have hp:=amk (D 0);have ih:=adh rs (fun i=>D (i+1)) (fun i r hr=>h (i+1) r (by simpa using hr));rw [kS,List.range_succ_eq_map]
  simp only [eZ,List.map_map,dU,Rows.uptoBulkAll]
  have e:(List.map (D ∘ Nat.succ) (List.range rs.length))=(List.map (fun i=>D (i+1)) (List.range rs.length)):=rfl;rw [e];omega
theorem adg {H:Type} {D:Nat->DataW H}:∀ {n i:Nat},i < n->Rows.uptoBulk (D i)<=Rows.uptoBulkAll ((List.range n).map D)
 | 0,i,h=>absurd h (by omega)
 | n+1,i,h=>by
  have key:∀ (l m:List (DataW H)),Rows.uptoBulkAll (l++m)=Rows.uptoBulkAll l+Rows.uptoBulkAll m:=by
   intro l m
   induction l with
   | nil=>simp [Rows.uptoBulkAll]
   | cons x l ih=>simp only [oD,Rows.uptoBulkAll,ih];omega
  rw [List.range_succ,kF,key]
  by_cases hi:i < n
  ·have:=adg (D:=D) hi;omega
  have:i=n:=by omega
  subst this
  simp only [eZ,sM,Rows.uptoBulkAll];omega
section
variable {H:Type} {enc:TypeId × ah->H} {P:Program} {W:World} {base:Nat} {spare:Nat->Bool} {held:Bool}
theorem vW {ρ:Type} {dat:ρ->List Dat} {t e:TypeId} {sz:Nat} (hsz:0 < sz) {fuel:Nat} {cs:List ah} {x:DataW H × List MemPlace} (ht:P.underlying t=some (.slice e)) (hc:P.cellsOf e=sz) (h:DataW.trod enc P W base spare held fuel t cs=some x)
  (row:∀ n cs' D Pl,DataW.trod enc P W base spare held n e cs'=some (D,Pl)->Rows.uptoBulk D < Rows.uptoBulk x.1->∃ r:ρ,aY (qP W) (dat r) cs'∧bV (dat r)+1<=8*Rows.uptoBulk D) :
  ∃ (rs:List ρ) (v:ah),cs=[v]∧au (qP W) (.sl sz (rs.map dat)) v∧dU (rs.map dat)+8<=8*Rows.uptoBulk x.1:=by
 rcases open_slice ht h with ⟨rfl,rfl⟩|⟨a,len,cap,m,n,D,Pl,rfl,hb,hl,hm,hmm,rfl,hx⟩
 ·exact ⟨[],_,rfl,au.qV rfl (by decide),by simp [dU,Rows.uptoBulk]⟩
 obtain ⟨rs,hrl,hrs⟩:=ahR (p:=fun i (r:ρ)=>∃ cs',W.cells? base (a.add (i*sz)) sz=some cs'∧aY (qP W) (dat r) cs'∧bV (dat r)+1<=8*Rows.uptoBulk (D i)) len (fun i hi=>by
  have him:i < m:=by rw [hmm];split <;> omega
  obtain ⟨cs',h1,h2⟩:=hx i him;rw [hc] at h1;have hb1:=adg (D:=D) hi;obtain ⟨r,hr1,hr2⟩:=row n cs' (D i) (Pl i) h2 (by simp only [Rows.uptoBulk];omega)
  exact ⟨r,cs',h1,hr1,hr2⟩)
 refine ⟨rs,_,rfl,?_,?_⟩
 ·simp only [au,bQ]
  refine ⟨some a,cap,by rw [hrl],by omega,hm,fun hne=>?_⟩;obtain ⟨b,off,spot⟩:=a
  have hlen:0 < rs.length:=by cases rs with|nil=>simp at hne|cons _ _=>simp
  obtain ⟨cs0,h1,-,-⟩:=hrs 0 rs[0] (dV hlen);obtain ⟨-,hl0,hg0⟩:=World.cells?_some h1
  have hspot:spot=none:=by
   have h3:=hg0 0 hsz;rw [dV (by omega)] at h3
   simpa [Addr.add] using World.cell?_spot h3
  subst hspot;refine ⟨b,off,rfl,nS.mk fun k r hk=>?_⟩;rw [qL] at hk;obtain ⟨y,hy,rfl⟩:=pF.1 hk;obtain ⟨cs',h2,h3,-⟩:=hrs k y hy;obtain ⟨-,hl1,hg1⟩:=World.cells?_some h2;refine ⟨cs',hl1,fun j u hj=>arN ?_,h3⟩
  have hj2:j < sz:=by rw [<- hl1];exact (jQ.1 hj).1
  have:=hg1 j hj2;rw [add_add,Go.WideShapes.add_plain] at this;rw [show off+k*sz+j=off+(k*sz+j) by omega,this];exact hj
 have:=adh rs D (fun i r hr=>(hrs i r hr).choose_spec.2.2);rw [hrl] at this
 simp only [Rows.uptoBulk];omega
end
structure tN (P:Program) (t:TypeId) (sz:Nat) (fs:List (TypeId × Nat × Nat)):Prop where
 und:P.underlying t=some (.struct (P.fieldsOf t))
 cells:P.cellsOf t=sz
 MW:(P.fieldsOf t).toList.map (fun f=>(f.type,f.offset,P.cellsOf f.type))=fs
theorem uY {P:Program} {H:Type} {enc:TypeId × ah->H} {W:World} {base:Nat} {spare:Nat->Bool} {held:Bool} {t:TypeId} {sz fuel:Nat} {fs:List (TypeId × Nat × Nat)} {cs:List ah} {x:DataW H × List MemPlace} (hs:tN P t sz fs) (h:DataW.trod enc P W base spare held fuel t cs=some x) :
  ∃ (xs:List (DataW H × List MemPlace)) (n:Nat),x.1=.agg (xs.map (·.1))∧cs.length=sz∧xs.length=fs.length∧∀ (i:Nat) (ti:TypeId) (off k:Nat),fs[i]?=some (ti,off,k)->DataW.trod enc P W base spare held n ti ((cs.drop off).take k)=xs[i]?:=by
 obtain ⟨xs,n,-,rfl,hl,hxl,hf⟩:=DataW.trod_struct hs.und h;refine ⟨xs,n,rfl,by rw [hl,hs.cells],by rw [hxl,<- hs.MW];simp,fun i ti off k hi=>?_⟩;rw [<- hs.MW,qL] at hi;obtain ⟨f,hf1,hf2⟩:=pF.1 hi
 simp only [iO] at hf2
 obtain ⟨rfl,rfl,rfl⟩:=hf2;exact hf i f (by simpa using hf1)
section
variable {H:Type} {enc:TypeId × ah->H} {W:World} {base:Nat} {spare:Nat->Bool} {held:Bool}
theorem azV:tN prog 187 2 [(3,0,1),(3,1,1)]:=⟨by kernel_rfl,by kernel_rfl,by kernel_rfl⟩
theorem aiU {n:Nat} {cs:List ah} {D:DataW H} {Pl:List MemPlace} (h:DataW.trod enc prog W base spare held n 187 cs=some (D,Pl)):∃ r:aL,aY (qP W) r.dat cs∧bV r.dat+1<=8*Rows.uptoBulk D:=by
 obtain ⟨xs,m,hx,hl,hxl,hf⟩:=uY azV h
 match cs,hl,xs,hxl with
 | [c0,c1],_,[y0,y1],_ =>
  have h0:=hf 0 _ _ _ rfl;have h1:=hf 1 _ _ _ rfl;obtain ⟨k0,e0,d0,-⟩:=DataW.trod_int underlying3 h0;obtain ⟨k1,e1,d1,-⟩:=DataW.trod_int underlying3 h1
  simp at e0 e1
  subst e0 e1
  simp only at hx
  refine ⟨⟨k0,k1⟩,?_,?_⟩
  ·simp [aY,aL.dat,au,Value.oneCell']
  rw [hx];simp [d0,d1,aL.dat,bV,mV,Rows.uptoBulk,Rows.uptoBulkAll]
theorem azO:tN prog 159 2 [(3,0,1),(3,1,1)]:=⟨by kernel_rfl,by kernel_rfl,by kernel_rfl⟩
theorem axR {n:Nat} {cs:List ah} {D:DataW H} {Pl:List MemPlace} (h:DataW.trod enc prog W base spare held n 159 cs=some (D,Pl)):∃ r:gF,aY (qP W) r.dat cs∧bV r.dat+1<=8*Rows.uptoBulk D:=by
 obtain ⟨xs,m,hx,hl,hxl,hf⟩:=uY azO h
 match cs,hl,xs,hxl with
 | [c0,c1],_,[y0,y1],_ =>
  have h0:=hf 0 _ _ _ rfl;have h1:=hf 1 _ _ _ rfl;obtain ⟨k0,e0,d0,-⟩:=DataW.trod_int underlying3 h0;obtain ⟨k1,e1,d1,-⟩:=DataW.trod_int underlying3 h1
  simp at e0 e1
  subst e0 e1
  simp only at hx
  refine ⟨⟨k0,k1⟩,?_,?_⟩
  ·simp [aY,gF.dat,au,Value.oneCell']
  rw [hx];simp [d0,d1,gF.dat,bV,mV,Rows.uptoBulk,Rows.uptoBulkAll]
theorem azR:tN prog 161 4 [(3,0,1),(3,1,1),(3,2,1),(4,3,1)]:=⟨by kernel_rfl,by kernel_rfl,by kernel_rfl⟩
theorem axU {n:Nat} {cs:List ah} {D:DataW H} {Pl:List MemPlace} (h:DataW.trod enc prog W base spare held n 161 cs=some (D,Pl)):∃ r:bS,aY (qP W) r.dat cs∧bV r.dat+1<=8*Rows.uptoBulk D:=by
 obtain ⟨xs,m,hx,hl,hxl,hf⟩:=uY azR h
 match cs,hl,xs,hxl with
 | [c0,c1,c2,c3],_,[y0,y1,y2,y3],_ =>
  have h0:=hf 0 _ _ _ rfl;have h1:=hf 1 _ _ _ rfl;have h2:=hf 2 _ _ _ rfl;have h3:=hf 3 _ _ _ rfl;obtain ⟨k0,e0,d0,-⟩:=DataW.trod_int underlying3 h0;obtain ⟨k1,e1,d1,-⟩:=DataW.trod_int underlying3 h1;obtain ⟨k2,e2,d2,-⟩:=DataW.trod_int underlying3 h2;obtain ⟨k3,e3,d3⟩:=DataW.trod_bool underlying4 h3
  simp at e0 e1 e2 e3
  subst e0 e1 e2 e3
  simp only at hx
  refine ⟨⟨k0,k1,k2,k3⟩,?_,?_⟩
  ·simp [aY,bS.dat,au,Value.oneCell']
  rw [hx];simp [d0,d1,d2,d3,bS.dat,bV,mV,Rows.uptoBulk,Rows.uptoBulkAll]
theorem azU:tN prog 27 4 [(3,0,1),(3,1,1),(24,2,1),(25,3,1)]:=⟨by kernel_rfl,by kernel_rfl,by kernel_rfl⟩
theorem azP:tN prog 29 5 [(23,0,1),(27,1,4)]:=⟨by kernel_rfl,by kernel_rfl,by kernel_rfl⟩
theorem adt:prog.cellsOf 187=2:=by kernel_rfl
theorem amF:prog.cellsOf 159=2:=by kernel_rfl
theorem amH:prog.cellsOf 161=4:=by kernel_rfl
theorem RP {n:Nat} {cs:List ah} {x:DataW H × List MemPlace} (h:DataW.trod enc prog W base spare held n 29 cs=some x):∃ (r:dJ) (p d l:ah),cs=[p,vi r.marks.ins,vi r.marks.move,d,l]∧jy (qP W) r p d l∧mK r+15<=8*Rows.uptoBulk x.1:=by
 obtain ⟨xs,m,hx,hl,hxl,hf⟩:=uY azP h
 match cs,hl,xs,hxl with
 | [c0,c1,c2,c3,c4],_,[y0,y1],_ =>
  have h0:=hf 0 _ _ _ rfl;have h1:=hf 1 _ _ _ rfl;obtain ⟨ps,pv,e0,rp,sp⟩:=vW (dat:=aL.dat) (sz:=2) (by omega) underlying23 adt h0 (fun n cs' D Pl hh _=>aiU hh);obtain ⟨zs,m2,hz,hzl,hzx,NH⟩:=uY azU h1
  match zs,hzx with
  | [z0,z1,z2,z3],_ =>
   have g0:=NH 0 _ _ _ rfl;have g1:=NH 1 _ _ _ rfl;have g2:=NH 2 _ _ _ rfl;have g3:=NH 3 _ _ _ rfl;obtain ⟨k0,e1,d0,-⟩:=DataW.trod_int underlying3 g0;obtain ⟨k1,e2,d1,-⟩:=DataW.trod_int underlying3 g1;obtain ⟨ds,dv,e3,rd,sd⟩:=vW (dat:=gF.dat) (sz:=2) (by omega) underlying24 amF g2 (fun n cs' D Pl hh _=>axR hh);obtain ⟨ls,lv,e4,rl,sl⟩:=vW (dat:=bS.dat) (sz:=4) (by omega) underlying25 amH g3 (fun n cs' D Pl hh _=>axU hh)
   simp at e0 e1 e2 e3 e4
   subst e0 e1 e2 e3 e4;refine ⟨⟨ps,⟨k0,k1,ds,ls⟩⟩,_,_,_,rfl,⟨rp,rd,rl⟩,?_⟩;have hzh:=FM ⟨ps,⟨k0,k1,ds,ls⟩⟩
   simp only at hzh
   rw [hx]
   simp only [eZ,sM,Rows.uptoBulk,Rows.uptoBulkAll,hz,d0,d1]
   omega
theorem azQ:tN prog 68 11 [(3,0,1),(3,1,1),(3,2,1),(9,3,1),(29,4,5),(22,9,1),(66,10,1)]:=⟨by kernel_rfl,by kernel_rfl,by kernel_rfl⟩
theorem azW:tN prog 74 6 [(29,0,5),(72,5,1)]:=⟨by kernel_rfl,by kernel_rfl,by kernel_rfl⟩
theorem azM:tN prog 76 7 [(3,0,1),(29,1,5),(22,6,1)]:=⟨by kernel_rfl,by kernel_rfl,by kernel_rfl⟩
theorem U7:prog.cellsOf 68=11:=by kernel_rfl
theorem amK:prog.cellsOf 74=6:=by kernel_rfl
theorem amD:prog.cellsOf 76=7:=by kernel_rfl
theorem U0 {p:Prop} (h:p:=by
 simp only [eZ,sM,Rows.uptoBulk,Rows.uptoBulkAll]):p:=h
theorem aiT:∀ (N:Nat) (n:Nat) (cs:List ah) (D:DataW H) (Pl:List MemPlace),DataW.trod enc prog W base spare held n 68 cs=some (D,Pl)->Rows.uptoBulk D < N->∃ r:ak,aY (qP W) r.dat cs∧bV r.dat+1<=8*Rows.uptoBulk D
 | 0,_,_,_,_,_,hN=>absurd hN (by omega)
 | N+1,n,cs,D,Pl,h,hN=>by
  have ih:=aiT N;obtain ⟨xs,m,hx,hl,hxl,hf⟩:=uY azQ h
  match cs,hl,xs,hxl with
  | [c0,c1,c2,c3,c4,c5,c6,c7,c8,c9,c10],_,[y0,y1,y2,y3,y4,y5,y6],_ =>
   have h0:=hf 0 _ _ _ rfl;have h1:=hf 1 _ _ _ rfl;have h2:=hf 2 _ _ _ rfl;have h3:=hf 3 _ _ _ rfl;have h4:=hf 4 _ _ _ rfl;have h5:=hf 5 _ _ _ rfl;have h6:=hf 6 _ _ _ rfl
   simp only at hx
   have hD:Rows.uptoBulk D=Rows.uptoBulk y0.1+(Rows.uptoBulk y1.1+(Rows.uptoBulk y2.1+(Rows.uptoBulk y3.1+(Rows.uptoBulk y4.1+(Rows.uptoBulk y5.1+(Rows.uptoBulk y6.1+0))))))+1:=by
    rw [hx];exact U0
   obtain ⟨k0,e0,d0,-⟩:=DataW.trod_int underlying3 h0;obtain ⟨k1,e1,d1,-⟩:=DataW.trod_int underlying3 h1;obtain ⟨k2,e2,d2,-⟩:=DataW.trod_int underlying3 h2;obtain ⟨s,e3,d3,-⟩:=DataW.trod_string underlying9 h3;obtain ⟨hd,p,d,l,e4,rh,sh⟩:=RP h4;obtain ⟨fl,fv,e5,rf,sf⟩:=vW (dat:=ak.dat) (sz:=11) (by omega) underlying22 U7 h5 (fun n cs' D' dN hh hlt=>ih n cs' D' dN hh (by omega))
   obtain ⟨rs,rv,e6,rr,sr⟩:=vW (dat:=aS.dat) (sz:=6) (by omega) underlying66 amK h6 (fun n cs' D' dN hh hlt=>by
    obtain ⟨xs,m,hx,hl,hxl,hf⟩:=uY azW hh
    match cs',hl,xs,hxl with
    | [a0,a1,a2,a3,a4,a5],_,[w0,w1],_ =>
     have g0:=hf 0 _ _ _ rfl;have g1:=hf 1 _ _ _ rfl
     simp only at hx
     have hD':Rows.uptoBulk D'=Rows.uptoBulk w0.1+(Rows.uptoBulk w1.1+0)+1:=by
      rw [hx];exact U0
     obtain ⟨hd2,p2,d2',l2,q0,rh2,sh2⟩:=RP g0
     obtain ⟨cl,cv,q1,rc,sc⟩:=vW (dat:=aV.dat) (sz:=7) (by omega) underlying72 amD g1 (fun n cs'' D'' aBI hh2 hlt2=>by
      obtain ⟨xs,m,hx2,hl2,avj,hf2⟩:=uY azM hh2
      match cs'',hl2,xs,avj with
      | [b0,b1,b2,b3,b4,b5,b6],_,[v0,v1,v2],_ =>
       have u0:=hf2 0 _ _ _ rfl;have u1:=hf2 1 _ _ _ rfl;have u2:=hf2 2 _ _ _ rfl
       simp only at hx2
       have aBP:Rows.uptoBulk D''=Rows.uptoBulk v0.1+(Rows.uptoBulk v1.1+(Rows.uptoBulk v2.1+0))+1:=by
        rw [hx2];exact U0
       obtain ⟨j0,t0,z0,-⟩:=DataW.trod_int underlying3 u0;obtain ⟨hd3,p3,d3',l3,t1,rh3,sh3⟩:=RP u1;obtain ⟨VU,fv3,t2,rf3,sf3⟩:=vW (dat:=ak.dat) (sz:=11) (by omega) underlying22 U7 u2 (fun n cs3 D3 Pl3 hh3 hlt3=>ih n cs3 D3 Pl3 hh3 (by omega))
       simp at t0 t1 t2
       obtain ⟨rfl,rfl,rfl,rfl,rfl⟩:=t1;subst t0 t2;have hz:=Ah (aV.mk j0 hd3 VU)
       simp only [aV.head,aV.flow] at hz
       have bz:Rows.uptoBulk v0.1=1:=by rw [z0];rfl
       exact ⟨aV.mk j0 hd3 VU,aY.Rj (x:=aV.mk j0 hd3 VU) rh3 rf3,by simp only [bO] at hz;omega⟩)
     simp at q0 q1
     obtain ⟨rfl,rfl,rfl,rfl,rfl⟩:=q0;subst q1;have hz:=Ai (aS.mk hd2 cl)
     simp only [aS.head,aS.cells] at hz
     exact ⟨aS.mk hd2 cl,aY.Rp (x:=aS.mk hd2 cl) rh2 rc,by simp only [iA] at hz;omega⟩)
   simp at e0 e1 e2 e3 e4 e5 e6
   obtain ⟨rfl,rfl,rfl,rfl,rfl⟩:=e4;subst e0 e1 e2 e3 e5 e6;have hz:=wY (ak.mk k0 k1 k2 s hd fl rs)
   simp only [ak.text,ak.head,ak.flow,ak.rows] at hz
   have b0:Rows.uptoBulk y0.1=1:=by rw [d0];rfl
   have b1:Rows.uptoBulk y1.1=1:=by rw [d1];rfl
   have b2:Rows.uptoBulk y2.1=1:=by rw [d2];rfl
   have b3:Rows.uptoBulk y3.1=s.size+1:=by rw [d3];show s.data.toList.length+1=s.data.size+1;rw [vC]
   exact ⟨ak.mk k0 k1 k2 s hd fl rs,aY.mkItem (x:=ak.mk k0 k1 k2 s hd fl rs) rh rf rr,by simp only [bO,gJ] at hz;omega⟩
theorem axT {n:Nat} {cs:List ah} {x:DataW H × List MemPlace} (h:DataW.trod enc prog W base spare held n 22 cs=some x):∃ (l:List ak) (v:ah),cs=[v]∧au (qP W) (.sl 11 (l.map ak.dat)) v∧bO l+8<=8*Rows.uptoBulk x.1 :=
 vW (dat:=ak.dat) (sz:=11) (by omega) underlying22 U7 h (fun n cs' D' dN hh _=>aiT _ n cs' D' dN hh (Nat.lt_succ_self _))
end
end
section
open Go.ChangeShapes Go.RowKit Go.Deep
theorem En {ρ:Type} {dat:ρ->List Dat}:∀ {l:List ρ} {x:ρ},x∈l->bV (dat x)+1<=dU (l.map dat)
 | y :: l,x,h=>by
  rw [eZ,dU]
  rcases fV.1 h with rfl|h
  ·omega
  have:=En (dat:=dat) h;omega
section
variable {H:Type} {enc:TypeId × ah->H} {W:World} {base:Nat} {spare:Nat->Bool} {held:Bool}
theorem azZ:tN prog 192 6 [(3,0,1),(3,1,1),(9,2,1),(3,3,1),(3,4,1),(23,5,1)]:=⟨by kernel_rfl,by kernel_rfl,by kernel_rfl⟩
theorem amM:prog.cellsOf 192=6:=by kernel_rfl
theorem ayb {n:Nat} {cs:List ah} {D:DataW H} {Pl:List MemPlace} (h:DataW.trod enc prog W base spare held n 192 cs=some (D,Pl)):∃ r:bX,aY (qP W) r.dat cs∧bV r.dat+1<=8*Rows.uptoBulk D:=by
 obtain ⟨xs,m,hx,hl,hxl,hf⟩:=uY azZ h
 match cs,hl,xs,hxl with
 | [c0,c1,c2,c3,c4,c5],_,[y0,y1,y2,y3,y4,y5],_ =>
  have h0:=hf 0 _ _ _ rfl;have h1:=hf 1 _ _ _ rfl;have h2:=hf 2 _ _ _ rfl;have h3:=hf 3 _ _ _ rfl;have h4:=hf 4 _ _ _ rfl;have h5:=hf 5 _ _ _ rfl
  simp only at hx
  have hD:Rows.uptoBulk D=Rows.uptoBulk y0.1+(Rows.uptoBulk y1.1+(Rows.uptoBulk y2.1+(Rows.uptoBulk y3.1+(Rows.uptoBulk y4.1+(Rows.uptoBulk y5.1+0)))))+1:=by rw [hx];simp only [eZ,sM,Rows.uptoBulk,Rows.uptoBulkAll]
  obtain ⟨k0,e0,d0,-⟩:=DataW.trod_int underlying3 h0;obtain ⟨k1,e1,d1,-⟩:=DataW.trod_int underlying3 h1;obtain ⟨k2,e2,d2,-⟩:=DataW.trod_string underlying9 h2;obtain ⟨k3,e3,d3,-⟩:=DataW.trod_int underlying3 h3;obtain ⟨k4,e4,d4,-⟩:=DataW.trod_int underlying3 h4;obtain ⟨k5,q5,e5,r5,d5⟩:=vW (dat:=aL.dat) (sz:=2) (by omega) underlying23 adt h5 (fun n cs' D Pl hh _=>aiU hh)
  simp at e0 e1 e2 e3 e4 e5
  subst e0 e1 e2 e3 e4 e5
  have b0:Rows.uptoBulk y0.1=1:=by rw [d0];rfl
  have b1:Rows.uptoBulk y1.1=1:=by rw [d1];rfl
  have b2:Rows.uptoBulk y2.1=k2.size+1:=by rw [d2];show k2.data.toList.length+1=k2.data.size+1;rw [vC]
  have b3:Rows.uptoBulk y3.1=1:=by rw [d3];rfl
  have b4:Rows.uptoBulk y4.1=1:=by rw [d4];rfl
  refine ⟨⟨k0,k1,k2,k3,k4,k5⟩,?_,?_⟩
  ·exact ⟨_,_,rfl,(by simp [au,Value.oneCell']),⟨_,_,rfl,(by simp [au,Value.oneCell']),⟨_,_,rfl,(by simp [au,Value.oneCell']),⟨_,_,rfl,(by simp [au,Value.oneCell']),⟨_,_,rfl,(by simp [au,Value.oneCell']),⟨_,_,rfl,r5,rfl⟩⟩⟩⟩⟩⟩
  simp only [bX.dat,bV,mV];omega
theorem azT:tN prog 96 4 [(3,0,1),(3,1,1),(9,2,1),(3,3,1)]:=⟨by kernel_rfl,by kernel_rfl,by kernel_rfl⟩
theorem amJ:prog.cellsOf 96=4:=by kernel_rfl
theorem axV {n:Nat} {cs:List ah} {D:DataW H} {Pl:List MemPlace} (h:DataW.trod enc prog W base spare held n 96 cs=some (D,Pl)):∃ r:ql,aY (qP W) r.dat cs∧bV r.dat+1<=8*Rows.uptoBulk D:=by
 obtain ⟨xs,m,hx,hl,hxl,hf⟩:=uY azT h
 match cs,hl,xs,hxl with
 | [c0,c1,c2,c3],_,[y0,y1,y2,y3],_ =>
  have h0:=hf 0 _ _ _ rfl;have h1:=hf 1 _ _ _ rfl;have h2:=hf 2 _ _ _ rfl;have h3:=hf 3 _ _ _ rfl
  simp only at hx
  have hD:Rows.uptoBulk D=Rows.uptoBulk y0.1+(Rows.uptoBulk y1.1+(Rows.uptoBulk y2.1+(Rows.uptoBulk y3.1+0)))+1:=by rw [hx];simp only [eZ,sM,Rows.uptoBulk,Rows.uptoBulkAll]
  obtain ⟨k0,e0,d0,-⟩:=DataW.trod_int underlying3 h0;obtain ⟨k1,e1,d1,-⟩:=DataW.trod_int underlying3 h1;obtain ⟨k2,e2,d2,-⟩:=DataW.trod_string underlying9 h2;obtain ⟨k3,e3,d3,-⟩:=DataW.trod_int underlying3 h3
  simp at e0 e1 e2 e3
  subst e0 e1 e2 e3
  have b0:Rows.uptoBulk y0.1=1:=by rw [d0];rfl
  have b1:Rows.uptoBulk y1.1=1:=by rw [d1];rfl
  have b2:Rows.uptoBulk y2.1=k2.size+1:=by rw [d2];show k2.data.toList.length+1=k2.data.size+1;rw [vC]
  have b3:Rows.uptoBulk y3.1=1:=by rw [d3];rfl
  refine ⟨⟨k0,k1,k2,k3⟩,?_,?_⟩
  ·exact ⟨_,_,rfl,(by simp [au,Value.oneCell']),⟨_,_,rfl,(by simp [au,Value.oneCell']),⟨_,_,rfl,(by simp [au,Value.oneCell']),⟨_,_,rfl,(by simp [au,Value.oneCell']),rfl⟩⟩⟩⟩
  simp only [ql.dat,bV,mV];omega
theorem azS:tN prog 93 2 [(3,0,1),(91,1,1)]:=⟨by kernel_rfl,by kernel_rfl,by kernel_rfl⟩
theorem amI:prog.cellsOf 93=2:=by kernel_rfl
theorem axW {n:Nat} {cs:List ah} {D:DataW H} {Pl:List MemPlace} (h:DataW.trod enc prog W base spare held n 93 cs=some (D,Pl)):∃ r:fO,aY (qP W) r.dat cs∧bV r.dat+1<=8*Rows.uptoBulk D:=by
 obtain ⟨xs,m,hx,hl,hxl,hf⟩:=uY azS h
 match cs,hl,xs,hxl with
 | [c0,c1],_,[y0,y1],_ =>
  have h0:=hf 0 _ _ _ rfl;have h1:=hf 1 _ _ _ rfl
  simp only at hx
  have hD:Rows.uptoBulk D=Rows.uptoBulk y0.1+(Rows.uptoBulk y1.1+0)+1:=by rw [hx];simp only [eZ,sM,Rows.uptoBulk,Rows.uptoBulkAll]
  obtain ⟨k0,e0,d0,-⟩:=DataW.trod_int underlying3 h0;obtain ⟨k1,q1,e1,r1,d1⟩:=vW (dat:=ql.dat) (sz:=4) (by omega) underlying91 amJ h1 (fun n cs' D Pl hh _=>axV hh)
  simp at e0 e1
  subst e0 e1
  have b0:Rows.uptoBulk y0.1=1:=by rw [d0];rfl
  refine ⟨⟨k0,k1⟩,?_,?_⟩
  ·exact ⟨_,_,rfl,(by simp [au,Value.oneCell']),⟨_,_,rfl,r1,rfl⟩⟩
  simp only [fO.dat,bV,mV];omega
theorem azN:tN prog 107 6 [(3,0,1),(3,1,1),(9,2,1),(3,3,1),(9,4,1),(4,5,1)]:=⟨by kernel_rfl,by kernel_rfl,by kernel_rfl⟩
theorem amE:prog.cellsOf 107=6:=by kernel_rfl
theorem axQ {n:Nat} {cs:List ah} {D:DataW H} {Pl:List MemPlace} (h:DataW.trod enc prog W base spare held n 107 cs=some (D,Pl)):∃ r:jo,aY (qP W) r.dat cs∧bV r.dat+1<=8*Rows.uptoBulk D:=by
 obtain ⟨xs,m,hx,hl,hxl,hf⟩:=uY azN h
 match cs,hl,xs,hxl with
 | [c0,c1,c2,c3,c4,c5],_,[y0,y1,y2,y3,y4,y5],_ =>
  have h0:=hf 0 _ _ _ rfl;have h1:=hf 1 _ _ _ rfl;have h2:=hf 2 _ _ _ rfl;have h3:=hf 3 _ _ _ rfl;have h4:=hf 4 _ _ _ rfl;have h5:=hf 5 _ _ _ rfl
  simp only at hx
  have hD:Rows.uptoBulk D=Rows.uptoBulk y0.1+(Rows.uptoBulk y1.1+(Rows.uptoBulk y2.1+(Rows.uptoBulk y3.1+(Rows.uptoBulk y4.1+(Rows.uptoBulk y5.1+0)))))+1:=by rw [hx];simp only [eZ,sM,Rows.uptoBulk,Rows.uptoBulkAll]
  obtain ⟨k0,e0,d0,-⟩:=DataW.trod_int underlying3 h0;obtain ⟨k1,e1,d1,-⟩:=DataW.trod_int underlying3 h1;obtain ⟨k2,e2,d2,-⟩:=DataW.trod_string underlying9 h2;obtain ⟨k3,e3,d3,-⟩:=DataW.trod_int underlying3 h3;obtain ⟨k4,e4,d4,-⟩:=DataW.trod_string underlying9 h4;obtain ⟨k5,e5,d5⟩:=DataW.trod_bool underlying4 h5
  simp at e0 e1 e2 e3 e4 e5
  subst e0 e1 e2 e3 e4 e5
  have b0:Rows.uptoBulk y0.1=1:=by rw [d0];rfl
  have b1:Rows.uptoBulk y1.1=1:=by rw [d1];rfl
  have b2:Rows.uptoBulk y2.1=k2.size+1:=by rw [d2];show k2.data.toList.length+1=k2.data.size+1;rw [vC]
  have b3:Rows.uptoBulk y3.1=1:=by rw [d3];rfl
  have b4:Rows.uptoBulk y4.1=k4.size+1:=by rw [d4];show k4.data.toList.length+1=k4.data.size+1;rw [vC]
  have b5:Rows.uptoBulk y5.1=1:=by rw [d5];rfl
  refine ⟨⟨k0,k1,k2,k3,k4,k5⟩,?_,?_⟩
  ·exact ⟨_,_,rfl,(by simp [au,Value.oneCell']),⟨_,_,rfl,(by simp [au,Value.oneCell']),⟨_,_,rfl,(by simp [au,Value.oneCell']),⟨_,_,rfl,(by simp [au,Value.oneCell']),⟨_,_,rfl,(by simp [au,Value.oneCell']),⟨_,_,rfl,(by simp [au,Value.oneCell']),rfl⟩⟩⟩⟩⟩⟩
  simp only [jo.dat,bV,mV];omega
theorem aAa:tN prog 110 2 [(9,0,1),(9,1,1)]:=⟨by kernel_rfl,by kernel_rfl,by kernel_rfl⟩
theorem amO:prog.cellsOf 110=2:=by kernel_rfl
theorem ayc {n:Nat} {cs:List ah} {D:DataW H} {Pl:List MemPlace} (h:DataW.trod enc prog W base spare held n 110 cs=some (D,Pl)):∃ r:mZ,aY (qP W) r.dat cs∧bV r.dat+1<=8*Rows.uptoBulk D:=by
 obtain ⟨xs,m,hx,hl,hxl,hf⟩:=uY aAa h
 match cs,hl,xs,hxl with
 | [c0,c1],_,[y0,y1],_ =>
  have h0:=hf 0 _ _ _ rfl;have h1:=hf 1 _ _ _ rfl
  simp only at hx
  have hD:Rows.uptoBulk D=Rows.uptoBulk y0.1+(Rows.uptoBulk y1.1+0)+1:=by rw [hx];simp only [eZ,sM,Rows.uptoBulk,Rows.uptoBulkAll]
  obtain ⟨k0,e0,d0,-⟩:=DataW.trod_string underlying9 h0;obtain ⟨k1,e1,d1,-⟩:=DataW.trod_string underlying9 h1
  simp at e0 e1
  subst e0 e1
  have b0:Rows.uptoBulk y0.1=k0.size+1:=by rw [d0];show k0.data.toList.length+1=k0.data.size+1;rw [vC]
  have b1:Rows.uptoBulk y1.1=k1.size+1:=by rw [d1];show k1.data.toList.length+1=k1.data.size+1;rw [vC]
  refine ⟨⟨k0,k1⟩,?_,?_⟩
  ·exact ⟨_,_,rfl,(by simp [au,Value.oneCell']),⟨_,_,rfl,(by simp [au,Value.oneCell']),rfl⟩⟩
  simp only [mZ.dat,bV,mV];omega
theorem azX:tN prog 102 3 [(3,0,1),(9,1,1),(3,2,1)]:=⟨by kernel_rfl,by kernel_rfl,by kernel_rfl⟩
theorem amL:prog.cellsOf 102=3:=by kernel_rfl
theorem axY {n:Nat} {cs:List ah} {D:DataW H} {Pl:List MemPlace} (h:DataW.trod enc prog W base spare held n 102 cs=some (D,Pl)):∃ r:bW,aY (qP W) r.dat cs∧bV r.dat+1<=8*Rows.uptoBulk D:=by
 obtain ⟨xs,m,hx,hl,hxl,hf⟩:=uY azX h
 match cs,hl,xs,hxl with
 | [c0,c1,c2],_,[y0,y1,y2],_ =>
  have h0:=hf 0 _ _ _ rfl;have h1:=hf 1 _ _ _ rfl;have h2:=hf 2 _ _ _ rfl
  simp only at hx
  have hD:Rows.uptoBulk D=Rows.uptoBulk y0.1+(Rows.uptoBulk y1.1+(Rows.uptoBulk y2.1+0))+1:=by rw [hx];simp only [eZ,sM,Rows.uptoBulk,Rows.uptoBulkAll]
  obtain ⟨k0,e0,d0,-⟩:=DataW.trod_int underlying3 h0;obtain ⟨k1,e1,d1,-⟩:=DataW.trod_string underlying9 h1;obtain ⟨k2,e2,d2,-⟩:=DataW.trod_int underlying3 h2
  simp at e0 e1 e2
  subst e0 e1 e2
  have b0:Rows.uptoBulk y0.1=1:=by rw [d0];rfl
  have b1:Rows.uptoBulk y1.1=k1.size+1:=by rw [d1];show k1.data.toList.length+1=k1.data.size+1;rw [vC]
  have b2:Rows.uptoBulk y2.1=1:=by rw [d2];rfl
  refine ⟨⟨k0,k1,k2⟩,?_,?_⟩
  ·exact ⟨_,_,rfl,(by simp [au,Value.oneCell']),⟨_,_,rfl,(by simp [au,Value.oneCell']),⟨_,_,rfl,(by simp [au,Value.oneCell']),rfl⟩⟩⟩
  simp only [bW.dat,bV,mV];omega
theorem azY:tN prog 36 4 [(31,0,1),(32,1,1),(33,2,1),(34,3,1)]:=⟨by kernel_rfl,by kernel_rfl,by kernel_rfl⟩
structure TQ (s:BZ) (n:Nat):Prop where
 st:dU (s.styles.map bX.dat)<=n
 li:dU (s.lists.map fO.dat)<=n
 cm:dU (s.comments.map jo.dat)<=n
 va:dU (s.vars.map mZ.dat)<=n
theorem TQ.zn {s:BZ} {n:Nat} (h:TQ s n) (hn:n<=4294967296):TR s∧s.styles.length<=4294967296:=by
 obtain ⟨h1,h2,h3,h4⟩:=h;have l1:=pq (s.styles.map bX.dat);have l2:=pq (s.lists.map fO.dat);have l3:=pq (s.comments.map jo.dat);have l4:=pq (s.vars.map mZ.dat);rw [bQ] at l1 l2 l3 l4;refine ⟨⟨fun x hx=>?_,by omega,fun x hx y hy=>?_,by omega,fun x hx=>?_,by omega,fun x hx=>?_,fun x hx=>?_,fun x hx=>?_⟩,by omega⟩
 ·have:=En (dat:=bX.dat) hx
  simp only [bX.dat,bV,mV] at this;omega
 ·have:=En (dat:=fO.dat) hx
  simp only [fO.dat,bV,mV] at this
  have h5:=En (dat:=ql.dat) hy
  simp only [ql.dat,bV,mV] at h5;omega
 ·have:=En (dat:=jo.dat) hx
  simp only [jo.dat,bV,mV] at this;omega
 ·have:=En (dat:=mZ.dat) hx
  simp only [mZ.dat,bV,mV] at this;omega
 ·have:=En (dat:=bX.dat) hx;have h5:=pq (x.props.map aL.dat);rw [bQ] at h5
  simp only [bX.dat,bV,mV] at this;omega
 have:=En (dat:=fO.dat) hx;have h5:=pq (x.levels.map ql.dat);rw [bQ] at h5
 simp only [fO.dat,bV,mV] at this;omega
theorem aya {n:Nat} {cs:List ah} {x:DataW H × List MemPlace} (h:DataW.trod enc prog W base spare held n 36 cs=some x):∃ (s:BZ) (a b c d:ah),cs=[a,b,c,d]∧Ap (qP W) s a b c d∧TQ s (8*Rows.uptoBulk x.1):=by
 obtain ⟨xs,m,hx,hl,hxl,hf⟩:=uY azY h
 match cs,hl,xs,hxl with
 | [c0,c1,c2,c3],_,[y0,y1,y2,y3],_ =>
  have h0:=hf 0 _ _ _ rfl;have h1:=hf 1 _ _ _ rfl;have h2:=hf 2 _ _ _ rfl;have h3:=hf 3 _ _ _ rfl;obtain ⟨k0,q0,e0,r0,d0⟩:=vW (dat:=bX.dat) (sz:=6) (by omega) underlying31 amM h0 (fun n cs' D Pl hh _=>ayb hh);obtain ⟨k1,q1,e1,r1,d1⟩:=vW (dat:=fO.dat) (sz:=2) (by omega) underlying32 amI h1 (fun n cs' D Pl hh _=>axW hh);obtain ⟨k2,q2,e2,r2,d2⟩:=vW (dat:=jo.dat) (sz:=6) (by omega) underlying33 amE h2 (fun n cs' D Pl hh _=>axQ hh);obtain ⟨k3,q3,e3,r3,d3⟩:=vW (dat:=mZ.dat) (sz:=2) (by omega) underlying34 amO h3 (fun n cs' D Pl hh _=>ayc hh)
  simp at e0 e1 e2 e3
  subst e0 e1 e2 e3
  have hD:Rows.uptoBulk x.1=Rows.uptoBulk y0.1+(Rows.uptoBulk y1.1+(Rows.uptoBulk y2.1+(Rows.uptoBulk y3.1+0)))+1:=by rw [hx];simp only [eZ,sM,Rows.uptoBulk,Rows.uptoBulkAll]
  exact ⟨⟨k0,k1,k2,k3⟩,_,_,_,_,rfl,⟨r0,r1,r2,r3⟩,⟨by show dU (k0.map _)<=_;omega,by show dU (k1.map _)<=_;omega,by show dU (k2.map _)<=_;omega,by show dU (k3.map _)<=_;omega⟩⟩
theorem ajx:tN prog 38 11 [(22,0,1),(29,1,5),(30,6,1),(36,7,4)]:=⟨by kernel_rfl,by kernel_rfl,by kernel_rfl⟩
theorem El {G:GH} {sz:Nat} {rs:List (List Dat)} {v:ah} (h:au G (.sl sz rs) v):∃ x,v=cB x:=by
 obtain ⟨a,n,c,rfl⟩:=h.form;exact ⟨(a,n,c),rfl⟩
theorem axS {n:Nat} {cs:List ah} {x:DataW H × List MemPlace} (h:DataW.trod enc prog W base spare held n 38 cs=some x) (hb:Rows.uptoBulk x.1<=1048576):∃ (D:jO) (d:gG),cs=D.cells∧pz (qP W) D d∧Al d∧bO d.flow<=8388608∧mK d.fin<=8388608:=by
 obtain ⟨xs,m,hx,hl,hxl,hf⟩:=uY ajx h
 match cs,hl,xs,hxl with
 | [c0,c1,c2,c3,c4,c5,c6,c7,c8,c9,c10],_,[y0,y1,y2,y3],_ =>
  have h0:=hf 0 _ _ _ rfl;have h1:=hf 1 _ _ _ rfl;have h2:=hf 2 _ _ _ rfl;have h3:=hf 3 _ _ _ rfl;obtain ⟨l,q0,e0,r0,d0⟩:=axT h0;obtain ⟨hd,p,dd,ll,e1,r1,d1⟩:=RP h1;obtain ⟨rv,q2,e2,r2,d2⟩:=vW (dat:=bW.dat) (sz:=3) (by omega) underlying30 amL h2 (fun n cs' D Pl hh _=>axY hh);obtain ⟨s,a,b,c,d,e3,r3,d3⟩:=aya h3
  simp at e0 e1 e2 e3
  obtain ⟨rfl,rfl,rfl,rfl,rfl⟩:=e1;obtain ⟨rfl,rfl,rfl,rfl⟩:=e3;subst e0 e2
  have hD:Rows.uptoBulk x.1=Rows.uptoBulk y0.1+(Rows.uptoBulk y1.1+(Rows.uptoBulk y2.1+(Rows.uptoBulk y3.1+0)))+1:=by rw [hx];simp only [eZ,sM,Rows.uptoBulk,Rows.uptoBulkAll]
  obtain ⟨x0,rfl⟩:=El r0;obtain ⟨x1,rfl⟩:=El r1.props;obtain ⟨x2,rfl⟩:=El r1.bE;obtain ⟨x3,rfl⟩:=El r1.layers;obtain ⟨x4,rfl⟩:=El r2;obtain ⟨x5,rfl⟩:=El r3.st;obtain ⟨x6,rfl⟩:=El r3.li;obtain ⟨x7,rfl⟩:=El r3.cm;obtain ⟨x8,rfl⟩:=El r3.va;obtain ⟨hz1,hz2⟩:=d3.zn (by omega);have l2:=pq (rv.map bW.dat);rw [bQ] at l2;refine ⟨⟨x0,x1,x2,x3,x4,x5,x6,x7,x8,hd.marks.ins,hd.marks.move⟩,⟨l,hd,rv,s⟩,rfl,⟨r0,r1,rfl,rfl,r2,r3⟩,⟨by show bO l<=_;omega,by show mK hd<=_;omega,by show rv.length<=_;omega,fun x hx=>?_,hz2,hz1⟩,by show bO l<=_;omega,by show mK hd<=_;omega⟩;have:=En (dat:=bW.dat) hx
  simp only [bW.dat,bV,mV] at this
  omega
end
end
section
open Go.ChangeShapes Go.RowKit Go.Deep
section
variable {H:Type} {enc:TypeId × ah->H} {W:World} {base:Nat} {spare:Nat->Bool} {held:Bool}
theorem amG:prog.cellsOf 3=1:=by kernel_rfl
theorem RQ {n:Nat} {cs:List ah} {x:DataW H × List MemPlace} (h:DataW.trod enc prog W base spare held n 41 cs=some x) :
  ∃ (l:List Int) (v:ah),cs=[v]∧au (qP W) (.sl 1 (l.map fun k=>[li k])) v∧dU (l.map fun k=>[li k])+8<=8*Rows.uptoBulk x.1 :=
 vW (dat:=fun k:Int=>[li k]) (sz:=1) (by omega) underlying41 amG h (fun n cs' D Pl hh _=>by
  obtain ⟨k,e,d,-⟩:=DataW.trod_int underlying3 hh
  have b:Rows.uptoBulk (D,Pl).1=1:=by rw [d];rfl
  dsimp only at b
  exact ⟨k,by rw [e];exact ⟨_,_,rfl,(by simp [au,Value.oneCell']),rfl⟩,by rw [b];simp [bV,mV]⟩)
end
end
section
open Go.ChangeShapes Go.RowKit Go.Deep
section
variable {H:Type} {enc:TypeId × ah->H} {W:World} {base:Nat} {spare:Nat->Bool} {held:Bool}
theorem ajy:tN prog 79 4 [(41,0,1),(41,1,1),(41,2,1),(41,3,1)]:=⟨by kernel_rfl,by kernel_rfl,by kernel_rfl⟩
theorem axZ {n:Nat} {cs:List ah} {x:DataW H × List MemPlace} (h:DataW.trod enc prog W base spare held n 79 cs=some x) (hb:Rows.uptoBulk x.1<=1048576):∃ (A R B S:List Int) (va vr vb vs:ah),cs=[va,vr,vb,vs]∧LU (qP W) A R B S va vr vb vs:=by
 obtain ⟨xs,m,hx,hl,hxl,hf⟩:=uY ajy h
 match cs,hl,xs,hxl with
 | [c0,c1,c2,c3],_,[y0,y1,y2,y3],_ =>
  have h0:=hf 0 _ _ _ rfl;have h1:=hf 1 _ _ _ rfl;have h2:=hf 2 _ _ _ rfl;have h3:=hf 3 _ _ _ rfl
  have hD:Rows.uptoBulk x.1=Rows.uptoBulk y0.1+(Rows.uptoBulk y1.1+(Rows.uptoBulk y2.1+(Rows.uptoBulk y3.1+0)))+1:=by rw [hx];simp only [eZ,sM,Rows.uptoBulk,Rows.uptoBulkAll]
  obtain ⟨A,va,e0,r0,d0⟩:=RQ h0;obtain ⟨R,vr,e1,r1,d1⟩:=RQ h1;obtain ⟨B,vb,e2,r2,d2⟩:=RQ h2;obtain ⟨S,vs,e3,r3,d3⟩:=RQ h3
  simp at e0 e1 e2 e3
  subst e0 e1 e2 e3;have l0:=pq (A.map fun k=>[li k]);have l1:=pq (R.map fun k=>[li k]);have l2:=pq (B.map fun k=>[li k]);have l3:=pq (S.map fun k=>[li k]);rw [bQ] at l0 l1 l2 l3;exact ⟨A,R,B,S,_,_,_,_,rfl,r0,r1,r2,r3,by omega,by omega,by omega,by omega⟩
end
end
end Go.Proofs.YtdiflmikikiedaaGreat
