/-
  What the claim stands on, part 6: Nml Nd13 Hg24 Ne13 Npre Rv24 Dx24 Cd24 Wh24 Dn Mw24 Kt Par Pas L14 L14b L14c It Div Nrm L14d L14e Sl Sm16 Kn24 Ls24 Eqi En Stq Dms Deq Rl24 Rk24 Vw24 Rj24 Cm24 Cn24.
-/
import Derived.Test.YtdiflmikikiedaaGreatWie
namespace Go.Proofs.YtdiflmikikiedaaGreat
set_option linter.all false
open Go.Proofs.Tryz
open Go.RowKit
theorem anl:aQ 59:=aR func59 rfl
theorem ano:aQ 63:=aR func63 rfl
theorem anm:aQ 61:=aR func61 rfl
theorem axB {G:GH} {b3:Nat} {us:List Int} {uv:ah} (hb:aI G b3 0=some uv) (hu:ak G (.sl 1 (us.map fun k=>[li k])) uv) (hl:us.length<=4294967296) (x:bV):uJ (.func (.func 61) #[] #[(aK b3 0)]) G x.dat (!nT us x.id):=by
 intro G1 w0 cs hm hG hr;obtain rfl:=NS hr;replace hb:=aF hm hb;replace hu:=hu.mono hm;obtain ⟨uA,uc,rfl,-,-,-⟩:=hu.slice;refine jv (caps:=[(aK b3 0)]) anm ?_;refine eN [(0,_),(1,_)] func61 rfl ntmps61 rfl rfl hG ?_;intro a H;refine dz (fun _ K1=>?_);refine eB (cs:=[_,_,_]) H wn rfl rfl rfl ?_;clear H;intro b2 a w hb2 H;refine kH H (aj K1 rfl (SR fun _ K2=>Rg yB rfl hb (bO Vj aG 0 rfl rfl ?_)));clear H K1;intro a H;refine s_call acv H wn rfl (aaN _ _ H.ro us x.id _ hu hl) rfl ?_;clear H;rintro v10 BD a w ⟨rfl,rfl⟩ DT H;refine kH H (Rm rfl ?_);clear H;intro a H;(iterate 2 refine mh H wn rfl rfl rfl ?_;clear H;intro a H);exact kH H (Ra rfl (aj K2 rfl (SR fun _ K3=>Rm rfl (Rn rfl (aj K3 rfl (LR results61 rfl fun H=>H.rt rfl))))))
def oP (d:gu):gu:=⟨kK d.flow,d.fin,d.revs,d.iq⟩
def nD (d:gu):gu:=⟨kK d.flow,d.fin,d.revs.filter fun r=>nT (zX (nN (oP d))) r.id,d.iq⟩
theorem auS (G:GH) (l:List bV):dK G 3 (l.map bV.dat) (pQ l):=by
 have h:∀ (B A:List bV),dK G 3 (A.map bV.dat) (pQ A)->dK G 3 ((A++B).map bV.dat) (pQ (A++B)):=by
  intro B
  induction B with
  | nil=>intro A h;rw [iF];exact h
  | cons x B ih =>
   intro A h;have h2:=h.snoc (NT G x) rfl;have h3:=ih (A++[x]) (by rw [Yq,lW];exact h2)
   simpa using h3
 exact h l [] dK.nil
set_option maxHeartbeats 2000000 in
set_option maxRecDepth 8000 in
theorem abL (G:GH) (w0:World) (hG:Hold G w0) (D:jh) (d:gu) (hR:kX G D d) (hz:Af d) (hne:wZ d.flow) (hz2:dx (kK d.flow)<=1073741824) (hw:∀ k∈nN (oP d),-9223372036854775808<=k∧k < 9223372036854775808) (hl:(nN (oP d)).length<=4294967296) :
  Calls prog 17 #[D.val] w0 (bE w0 G fun u G'=>∃ D':jh,u=D'.val∧kX G' D' (nD d)):=by
 obtain ⟨df,dp,dd,dy,dr,d1,d2,d3,d4,ins,mv⟩:=D;obtain ⟨zf,zh,zr,zt,zs,IZ⟩:=hz;refine eN [(0,_)] func17 rfl ntmps17 rfl rfl hG ?_;intro a H;refine dz (fun _ K1=>?_);refine eB (cs:=[_,_,_,_,_,_,_,_,_,_,_]) H wn rfl rfl rfl ?_;clear H;intro b1 a w hb1 H;refine dP gM H wn rfl ?_;clear H;intro b2 a w hb2 H;refine K1 _ _ ?_;clear K1;refine kP H (SR fun _ K2=>bO vO kV 1 rfl rfl ?_);clear H;intro a H;refine s_call Vb H wn rfl (atC _ _ H.ro d.flow _ hR.fl hne zf) rfl ?_;clear H;rintro v6 G6 a w hv6 H8 H;obtain ⟨fA,fn,fc,rfl⟩:=hv6.form;have AQ:kX G6 ⟨(fA,fn,fc),dp,dd,dy,dr,d1,d2,d3,d4,ins,mv⟩ (oP d):=⟨hv6,hR.hd.mono H8,hR.ins,hR.mv,hR.rv.mono H8,hR.st.mono H8⟩;refine kH H (Rf vO rfl ?_);clear H;intro a H;refine bK kV 1 (vs:=[_]) H wn rfl ?_;clear H;intro w H;refine K2 _ _ ?_;clear K2;refine dz (fun _ K3=>?_);refine aV gM (cs:=(⟨(fA,fn,fc),dp,dd,dy,dr,d1,d2,d3,d4,ins,mv⟩:jh).cells) H wn rfl rfl (H.hp.cB 1 rfl rfl) rfl ?_;clear H;intro a H;refine s_call amZ H wn rfl (akG _ _ H.ro _ _ AQ (by show dx (kK d.flow)<=_;omega) hw hl) rfl ?_;clear H;rintro v9 G9 a w QT yS H;obtain ⟨uA,un,uc,rfl⟩:=QT.form;refine dP yB H wn rfl ?_;clear H;intro b3 a w hb3 H;refine bK yB 0 (vs:=[_]) H wn rfl ?_;clear H;intro w H;refine K3 _ _ ?_;clear K3;refine bR (fun _ K4=>?_);obtain ⟨Gb,hmb,wQ,H⟩:=H.fO;have hq3:aI Gb b3 0=some (.slice uA un uc):=nu wQ 0 [.slice uA un uc] rfl 0 _ rfl;replace QT:=QT.mono hmb;replace AQ:=(AQ.mono yS).mono hmb;refine kP H (SC (bO Ck xu 1 rfl rfl ?_));clear H;intro a H;refine iE acu (Li:=[_,_]) (L:=[]) H wn rfl (abk _ _ (xZ H.ro) _ _ _ _ AQ.rv (by simpa [oP] using zr)) rfl ?_;clear H;rintro v12 BF L12 a w ⟨azG,Xa,aqd⟩ yQ H;obtain rfl:=auT aqd;rw [bQ] at Xa;obtain ⟨rA,rc,rfl,-,-⟩:=Xa.shape;refine qd H wn rfl rfl ?_;clear H;intro a H;refine iE anl (Li:=[_,_]) (L:=L12) H wn rfl (akE d.revs (fun r=>!nT (zX (nN (oP d))) r.id) (Hp.owns (Li:=[_,_]) H.hp) Xa (fun x _=>axB (aF yQ hq3) (QT.mono yQ) (by rw [zX,List.length_mergeSort];exact hl) x)) rfl ?_;clear H;rintro v14 Dc L14 a w Nk DV H
 simp only [Bool.not_not] at Nk
 obtain ⟨Gr,hmr,aez,H⟩:=St.qG (Li:=[_,_]) H Nk (rows:=(nD d).revs.map bV.dat) (by simp [nD]) (auS _ _);obtain ⟨rB,rn,rd,rfl⟩:=aez.form;replace AQ:=((AQ.mono yQ).mono DV).mono hmr;have hR2:kX Gr ⟨(fA,fn,fc),dp,dd,dy,(rB,rn,rd),d1,d2,d3,d4,ins,mv⟩ (nD d):=⟨AQ.fl,AQ.hd,AQ.ins,AQ.mv,aez,AQ.st⟩;refine kH H (Rf Ck rfl ?_);clear H;intro a H;refine bK xu 1 (vs:=[_]) H wn rfl ?_;clear H;intro w H;refine aB ?_;refine K4 _ _ ?_;clear K4;refine dz (fun _ K5=>?_);refine aV gM (cs:=(⟨(fA,fn,fc),dp,dd,dy,(rB,rn,rd),d1,d2,d3,d4,ins,mv⟩:jh).cells) H wn rfl rfl (H.hp.cB 1 rfl rfl) rfl ?_;clear H;intro a H;refine iE ano (Li:=[_,_]) (L:=[]) H wn rfl (akF _ _ (xZ H.ro) _ _ hR2 ⟨by show dx (kK d.flow)<=_;omega,zh,Nat.le_trans (List.length_filter_le _ _) zr,fun x hx=>zt x (List.mem_filter.1 hx).1,zs,IZ⟩) rfl ?_;clear H;rintro v17 zu Tx a w ⟨D',rfl,xf,Lf,xr,Lr,rfl,Ky,Wu,KA,Wv,aqH,aqI,aqT,hst'⟩ sw H;obtain ⟨Gs,hms,arl,H⟩:=St.qG (Li:=[_,_]++Lf) (by rw [ko];exact H) KA (rows:=(nD d).revs.map bV.dat) (by simp) Wv;obtain ⟨Gt,hmt,aqC,H⟩:=St.qG (Li:=[_,_]) H Ky (rows:=(nD d).flow.map au.dat) (by simp) (Wu.mono hms);refine bK gM 0 (vs:=[_,_,_,_,_,_,_,_,_,_,_]) H wn rfl ?_;clear H;intro w H;refine K5 _ _ ?_;clear K5;refine dw ?_;refine (leave1 H results17 (.cons (mI gM (cs:=[_,_,_,_,_,_,_,_,_,_,_]) H rfl rfl (H.hp.cB 0 rfl rfl)) .nil) ?_).1;exact H.rt ⟨D',rfl,aqC,(aqH.mono hms).mono hmt,aqI,aqT,arl.mono hmt,(hst'.mono hms).mono hmt⟩
theorem ER {l:List Int} (h:∀ x∈l,x=0):dS l=0:=by
 induction l with
 | nil=>rfl
 | cons x l ih=>rw [h x fE];simp only [dS,ne_eq,not_true_eq_false,if_false];exact ih fun y hy=>h y (gV _ hy)
theorem Jk {E:Nat->Int} {n:Nat} (h:∀ i,i < n->E i=0):iW E n=0:=ER fun x hx=>by
 obtain ⟨i,hi,rfl⟩:=List.mem_map.1 hx;exact h i (vG.1 hi)
def FY (kM:List Int) (h:dN):Prop:=∀ q∈refs h,q≠0->q∈kM
theorem MW {C C':bC} {e:Int} {h:dN} (h1:C'.st=C.st) (h2:C'.nH=C.nH) (h0:0∉C.kM) (hin:FY C'.kM h) (hE:iM C e h=0):iM C' e h=0:=by
 have z:=lD hE;have z1:=z (qW e h.props) (by simp);have z2:=z (ze C h.props) (by simp);have z3:=z (jW C h.marks) (by simp);have z4:=z (iW (uh C h.marks.bJ) h.marks.bJ.length) (by simp);have z5:=z (dG (decide (64 < (h.marks.layers.length:Int))) 9) (by simp);have z6:=z (iW (xW C e h.marks.layers) h.marks.layers.length) (by simp);have hr:∀ q∈refs h,q=0∨q∈C.kM:=Wx hE;refine ER fun x hx=>?_
 simp only [iy,List.not_mem_nil,or_false] at hx
 rcases hx with rfl|rfl|rfl|rfl|rfl|rfl
 ·exact z1
 ·rw [ze,h1,h2];exact z2
 ·unfold jW at z3 |-
  have hi:¬ (h.marks.ins≠0∧h.marks.ins∉C'.kM):=fun hn=>hn.2 (hin _ (by simp [refs]) hn.1)
  by_cases hq:h.marks.ins≠0∧h.marks.ins∉C.kM
  ·rw [aD hq] at z3;cases z3
  rw [av hq] at z3;rw [av hi];exact z3
 ·refine Jk fun k hk=>?_;have h5:=BU z4 k hk
  unfold uh at h5 |-
  rw [eD hk] at h5 |-;dsimp only [uQ] at h5 |-
  have hm:h.marks.bJ[k].rev∈refs h:=by simp only [refs,iy,jS,List.mem_map];exact .inr (.inl ⟨_,lC hk,rfl⟩)
  by_cases hq:h.marks.bJ[k].rev∉C.kM
  ·rw [aD hq] at h5;cases h5
  rw [av hq] at h5;rw [av (fun hn=>hn (hin _ hm fun e=>h0 (e ▸ oK.1 hq)))];exact h5
 ·exact z5
 refine Jk fun k hk=>?_;have h5:=BU z6 k hk
 unfold xW at h5 |-
 rw [eD hk] at h5 |-;dsimp only [wX] at h5 |-
 have hm:h.marks.layers[k].rev∈refs h:=by simp only [refs,iy,jS,List.mem_map];exact .inr (.inr ⟨_,lC hk,rfl⟩)
 by_cases hq:h.marks.layers[k].rev∉C.kM
 ·rw [aD hq] at h5;cases h5
 rw [av hq] at h5;rw [av (fun hn=>hn (hin _ hm fun e=>h0 (e ▸ oK.1 hq))),h1,h2];exact h5
mutual
theorem avA {C C':bC} (h1:C'.st=C.st) (h2:C'.nH=C.nH) (h0:0∉C.kM) (body note:Bool) (t:Int):∀ x:au,(∀ h∈AO x,FY C'.kM h)->lM C body note t x->lM C' body note t x
 | .mk k c i tx h f r,hh,hx=>by
  have hf:=NU h1 h2 h0 false true t f;have hr:=agJ h1 h2 h0 note (t+1) r;rw [AO] at hh;rw [lM] at hx |-;refine ⟨hx.1,hx.2.1,MW h1 h2 h0 (hh h fE) hx.2.2.1,fun e=>?_,fun e=>⟨(hx.2.2.2.2 e).1,?_⟩⟩
  ·subst e;exact hf (fun y hy=>hh y (gV _ (by simpa using hy))) (hx.2.2.2.1 rfl)
  subst e;exact hr (fun y hy=>hh y (gV _ (by simpa using hy))) (hx.2.2.2.2 rfl).2
theorem avB {C C':bC} (h1:C'.st=C.st) (h2:C'.nH=C.nH) (h0:0∉C.kM) (note:Bool) (t:Int):∀ x:aU,(∀ h∈EY x,FY C'.kM h)->oV C note t x->oV C' note t x
 | .mk h cs,hh,hx=>by
  have hc:=agI h1 h2 h0 note t cs;rw [EY] at hh;rw [oV] at hx |-;refine ⟨ER fun y hy=>?_,hc (fun y hy=>hh y (gV _ hy)) hx.2⟩;have z:=lD hx.1
  simp only [iy,List.not_mem_nil,or_false] at hy
  rcases hy with rfl|rfl|rfl
  ·exact MW h1 h2 h0 (hh h fE) (z _ fE)
  ·exact z _ (by simp)
  exact z _ (by simp)
theorem avz {C C':bC} (h1:C'.st=C.st) (h2:C'.nH=C.nH) (h0:0∉C.kM) (note:Bool) (t:Int):∀ x:aX,(∀ h∈EW x,FY C'.kM h)->oU C note t x->oU C' note t x
 | .mk i h f,hh,hx=>by
  have hf:=NU h1 h2 h0 false note t f;rw [EW] at hh;rw [oU] at hx |-;exact ⟨MW h1 h2 h0 (hh h fE) hx.1,hf (fun y hy=>hh y (gV _ hy)) hx.2⟩
theorem NU {C C':bC} (h1:C'.st=C.st) (h2:C'.nH=C.nH) (h0:0∉C.kM) (body note:Bool) (t:Int):∀ l:List au,(∀ h∈kC l,FY C'.kM h)->iN C body note t l->iN C' body note t l
 | [],_,_=>by rw [iN];trivial
 | x :: l,hh,h=>by
  rw [kC] at hh;rw [iN] at h |-;exact ⟨avA h1 h2 h0 body note t x (fun y hy=>hh y (List.mem_append_left _ hy)) h.1,NU h1 h2 h0 body note t l (fun y hy=>hh y (List.mem_append_right _ hy)) h.2⟩
theorem agJ {C C':bC} (h1:C'.st=C.st) (h2:C'.nH=C.nH) (h0:0∉C.kM) (note:Bool) (t:Int):∀ l:List aU,(∀ h∈pY l,FY C'.kM h)->jX C note t l->jX C' note t l
 | [],_,_=>by rw [jX];trivial
 | x :: l,hh,h=>by
  rw [pY] at hh;rw [jX] at h |-;exact ⟨avB h1 h2 h0 note t x (fun y hy=>hh y (List.mem_append_left _ hy)) h.1,agJ h1 h2 h0 note t l (fun y hy=>hh y (List.mem_append_right _ hy)) h.2⟩
theorem agI {C C':bC} (h1:C'.st=C.st) (h2:C'.nH=C.nH) (h0:0∉C.kM) (note:Bool) (t:Int):∀ l:List aX,(∀ h∈qH l,FY C'.kM h)->kL C note t l->kL C' note t l
 | [],_,_=>by rw [kL];trivial
 | x :: l,hh,h=>by
  rw [qH] at hh;rw [kL] at h |-;exact ⟨avz h1 h2 h0 note t x (fun y hy=>hh y (List.mem_append_left _ hy)) h.1,agI h1 h2 h0 note t l (fun y hy=>hh y (List.mem_append_right _ hy)) h.2⟩
end
theorem agc {α:Type} {l:List α} {R:α->α->Prop} (htr:∀ a b c,R a b->R b c->R a c) (h:∀ k (hk:k+1 < l.length),R l[k] l[k+1]):l.Pairwise R:=by
 rw [List.pairwise_iff_getElem];intro i j hi hj hij
 induction j with
 | zero=>omega
 | succ j ih =>
  by_cases e:i=j
  ·subst e;exact h i hj
  exact htr _ _ _ (ih (by omega) (by omega)) (h j hj)
def aac (C:bC) (e k v:Int):Prop:=wL e k=true∧uN k v=0∧yh C.st C.nH k v=0
def xD (C:bC) (e:Int) (l:List aL):Prop:=(∀ p∈l,aac C e p.key p.value)∧l.Pairwise fun x y=>x.key < y.key
def Ah (C:bC) (e k:Int) (s:Int × Bool):Prop:=wL e k=true∧(s.2=true->uN k s.1=0∧yh C.st C.nH k s.1=0)∧(s.2=false->s.1=0)
def F8 (C:bC) (e:Int) (y:bZ):Prop:=y.rev∈C.kM∧Ah C e y.key (y.before,y.had)
structure FX (C:bC) (e:Int) (h:dN):Prop where
 el:1<=e∧e<=10
 ps:xD C e h.props
 mrk:(h.marks.ins≠0->h.marks.ins∈C.kM)∧(0<=h.marks.move∧h.marks.move<=1073741824)∧(h.marks.move≠0->h.marks.ins≠0)∧h.marks.bJ.length<=16
 dl:(∀ x∈h.marks.bJ,x.rev∈C.kM∧0<=x.move∧x.move<=1073741824)∧h.marks.bJ.Pairwise fun x y=>x.rev < y.rev
 ln:h.marks.layers.length<=64
 ly:(∀ y∈h.marks.layers,F8 C e y)∧h.marks.layers.Pairwise fun x y=>x.key<=y.key
theorem Us (e:Int):∀ (l:List aL) (q:Option Int),zH e q l=0↔(∀ p∈l,wL e p.key=true∧uN p.key p.value=0)∧(l.Pairwise fun x y=>x.key < y.key)∧∀ j,q=some j->∀ p∈l,j < p.key
 | [],q=>by simp [zH]
 | p :: r,q=>by
  rw [zH];have ih:=Us e r (some p.key)
  constructor
  ·intro h
   split at h
   ·cases h
   rename_i h1
   split at h
   ·cases h
   rename_i h2
   split at h
   ·cases h
   rename_i h3
   split at h
   ·rename_i h4
    obtain ⟨a,b,c⟩:=ih.1 h
    have hq:∀ j,q=some j->j < p.key:=fun j e=>by
     subst e;rw [Fy,pF] at h3;have:j≠p.key:=fun e=>h2 (by rw [e])
     omega
    refine ⟨fun x hx=>?_,?_,fun j e x hx=>?_⟩
    ·rcases iy.1 hx with rfl|hx
     ·exact ⟨by simpa using h1,h4⟩
     exact a x hx
    ·exact qo.2 ⟨fun y hy=>c _ rfl y hy,b⟩
    rcases iy.1 hx with rfl|hx
    ·exact hq j e
    exact Int.lt_trans (hq j e) (c _ rfl x hx)
   rename_i h4;exact absurd h h4
  rintro ⟨a,b,c⟩;obtain ⟨b1,b2⟩:=qo.1 b;obtain ⟨a1,a2⟩:=a p fE;rw [av (by simp [a1]),av (fun e=>by have:=c _ e p fE;omega),av,aD a2]
  ·exact ih.2 ⟨fun x hx=>a x (gV _ hx),b2,fun j e x hx=>by cases e;exact b1 x hx⟩
  intro hl
  cases q with
  | none=>cases hl
  | some j =>
   rw [Fy,pF] at hl;have:=c j rfl p fE;omega
theorem Cu (C:bC) (e:Int) (h:dN):iM C e h=0↔FX C e h:=by
 constructor
 ·intro hE;have z:=lD hE;have z1:=z (qW e h.props) (by simp);have z2:=z (ze C h.props) (by simp);have z3:=z (jW C h.marks) (by simp);have z4:=z (iW (uh C h.marks.bJ) h.marks.bJ.length) (by simp);have z5:=z (dG (decide (64 < (h.marks.layers.length:Int))) 9) (by simp);have z6:=z (iW (xW C e h.marks.layers) h.marks.layers.length) (by simp)
  unfold qW at z1
  have hel:¬ (e < 1∨10 < e):=fun h=>by rw [aD h] at z1;cases z1
  rw [av hel,Us] at z1
  unfold jW at z3
  have hD:∀ k (hk:k < h.marks.bJ.length),uQ C k h.marks.bJ[k] ((h.marks.bJ[k - 1]?.map gJ.rev).getD 0)=0:=fun k hk=>by
   have h5:=BU z4 k hk
   unfold uh at h5
   rwa [eD hk] at h5
  have hL:∀ k (hk:k < h.marks.layers.length),wX C e k h.marks.layers[k] ((h.marks.layers[k - 1]?.map bZ.key).getD 0)=0:=fun k hk=>by
   have h5:=BU z6 k hk
   unfold xW at h5
   rwa [eD hk] at h5
  refine ⟨by omega,⟨fun p hp=>⟨(z1.1 p hp).1,(z1.1 p hp).2,?_⟩,z1.2.1⟩,?_,⟨fun x hx=>?_,agc (fun a b c=>Int.lt_trans) fun k hk=>?_⟩,?_,⟨fun y hy=>?_,agc (fun a b c=>Int.le_trans) fun k hk=>?_⟩⟩
  ·exact lD z2 _ (List.mem_map.2 ⟨p,hp,rfl⟩)
  ·split at z3
   ·cases z3
   rename_i a1
   split at z3
   ·cases z3
   rename_i a2
   split at z3
   ·cases z3
   rename_i a3
   exact ⟨fun h0=>Decidable.byContradiction fun hn=>a1 ⟨h0,hn⟩,by omega,by omega,by omega⟩
  ·obtain ⟨k,hk,rfl⟩:=List.getElem_of_mem hx;have h6:=hD k hk
   unfold uQ at h6
   split at h6
   ·cases h6
   rename_i a1
   split at h6
   ·cases h6
   split at h6
   ·cases h6
   rename_i a3
   exact ⟨oK.1 a1,by omega⟩
  ·have h6:=hD (k+1) hk;rw [Nat.add_sub_cancel,eD (by omega:k < h.marks.bJ.length)] at h6
   unfold uQ at h6
   split at h6
   ·cases h6
   split at h6
   ·cases h6
   rename_i a2
   simp only [wE,Option.getD_some] at a2
   omega
  ·unfold dG at z5
   split at z5
   ·cases z5
   rename_i a;simp only [pF] at a;omega
  ·obtain ⟨k,hk,rfl⟩:=List.getElem_of_mem hy;have h6:=hL k hk
   unfold wX at h6
   split at h6
   ·cases h6
   rename_i a1
   split at h6
   ·cases h6
   rename_i a2
   split at h6
   ·cases h6
   refine ⟨oK.1 a1,by simpa using a2,fun ht=>?_,fun hf=>?_⟩
   ·dsimp only at ht;rw [av (by rw [ht];decide)] at h6;exact ⟨lD h6 _ fE,lD h6 _ (by simp)⟩
   dsimp only at hf;rw [aD hf,tO (by decide)] at h6
   simpa using h6
  have h6:=hL (k+1) hk;rw [Nat.add_sub_cancel,eD (by omega:k < h.marks.layers.length)] at h6
  unfold wX at h6
  split at h6
  ·cases h6
  split at h6
  ·cases h6
  split at h6
  ·cases h6
  rename_i a2
  simp only [wE,Option.getD_some] at a2
  omega
 rintro ⟨hel,⟨hp,hps⟩,⟨m1,m2,m3,m4⟩,⟨d1,d2⟩,hln,⟨l1,l2⟩⟩;refine ER fun x hx=>?_
 simp only [iy,List.not_mem_nil,or_false] at hx
 rcases hx with rfl|rfl|rfl|rfl|rfl|rfl
 ·unfold qW
  rw [dL,Us];exact ⟨fun p h=>⟨(hp p h).1,(hp p h).2.1⟩,hps,fun j e=>by cases e⟩
 ·refine ER fun x hx=>?_;obtain ⟨p,h1,rfl⟩:=List.mem_map.1 hx;exact (hp p h1).2.2
 ·unfold jW
  rw [av fun h=>h.2 (m1 h.1),av fun h=>h.elim (fun h=>h m2) fun h=>m3 h.1 h.2,dL]
 ·refine Jk fun k hk=>?_
  unfold uh
  rw [eD hk];dsimp only [uQ];have:=d1 _ (lC hk);rw [av fun h=>h this.1,av,av fun h=>h this.2];rintro ⟨h0,h1⟩;rw [eD (by omega:k - 1 < h.marks.bJ.length)] at h1;have:=List.pairwise_iff_getElem.1 d2 (k - 1) k (by omega) hk (by omega)
  simp only [wE,Option.getD_some] at h1
  omega
 ·rw [tO (by decide),sQ];omega
 refine Jk fun k hk=>?_
 unfold xW
 rw [eD hk];dsimp only [wX];obtain ⟨a1,a2,a3,a4⟩:=l1 _ (lC hk);rw [av fun h=>h a1,av (by simp [a2]),av]
 ·split
  ·rename_i hf
   rw [tO (by decide)];have:=a4 hf
   simpa using this
  rename_i hf
  obtain ⟨b1,b2⟩:=a3 (by simpa using hf);exact Qh.2 ⟨b1,b2⟩
 rintro ⟨h0,h1⟩;rw [eD (by omega:k - 1 < h.marks.layers.length)] at h1;have:=List.pairwise_iff_getElem.1 l2 (k - 1) k (by omega) hk (by omega)
 simp only [wE,Option.getD_some] at h1
 omega
theorem J8 {l:List aL} {k:Int} (h:nT (l.map aL.key) k=true):∃ hi:gQ (l.map aL.key) k < l.length,l[gQ (l.map aL.key) k].key=k:=by
 have h1:=MS h;rw [bQ] at h1;have h2:=pI h;rw [tT,eD h1] at h2;exact ⟨h1,by simpa using h2⟩
theorem aoP {C:bC} {e:Int} {l:List aL} (hp:xD C e l) {k:Int} (hf:wL e k=true):Ah C e k (jE l k):=by
 unfold jE
 split
 ·rename_i h
  obtain ⟨h1,h2⟩:=J8 h;have:=(hp.1 _ (lC h1)).2;rw [h2] at this;rw [List.getD_eq_getElem?_getD,eD h1];exact ⟨hf,fun _=>this,fun h=>by cases h⟩
 exact ⟨hf,fun h=>(by cases h),fun _=>rfl⟩
theorem ahf {C:bC} {e k:Int} (hf:wL e k=true):Ah C e k (0,false):=⟨hf,fun h=>(by cases h),fun _=>rfl⟩
theorem aiQ {l:List aL} (hs:l.Pairwise fun x y=>x.key < y.key) (k:Int):(∀ p∈l.take (gQ (l.map aL.key) k),p.key < k)∧∀ p∈l.drop (gQ (l.map aL.key) k),k<=p.key:=by
 have hle:=EI (l.map aL.key) k;rw [bQ] at hle;have hp:(l.map aL.key).Pairwise (·<=·):=List.pairwise_map.2 (hs.imp fun h=>Int.le_of_lt h);obtain ⟨r1,r2⟩:=aaO hp k;refine ⟨fun p h=>?_,fun p h=>?_⟩
 ·obtain ⟨i,hi,rfl⟩:=List.getElem_of_mem h;rw [List.length_take] at hi;have:=r1 i (by rw [bQ];omega) (by omega);rw [List.getElem_map] at this;rw [List.getElem_take];exact this
 obtain ⟨i,hi,rfl⟩:=List.getElem_of_mem h;rw [List.length_drop] at hi;have h1:=r2 (by rw [bQ];omega);rw [List.getElem_map] at h1;rw [List.getElem_drop]
 by_cases e:i=0
 ·subst e;exact h1
 have:=List.pairwise_iff_getElem.1 hs (gQ (l.map aL.key) k) (gQ (l.map aL.key) k+i) (by omega) (by omega) (by omega)
 omega
theorem akn {C:bC} {e:Int} {l:List aL} (hp:xD C e l) (k:Int):xD C e (Aq l k):=by
 unfold Aq
 split
 ·have hs:(l.take (gQ (l.map aL.key) k)++l.drop (gQ (l.map aL.key) k+1)).Sublist l:=by
   conv=>rhs;rw [<- List.take_append_drop (gQ (l.map aL.key) k) l]
   exact List.Sublist.append (lX _) (by rw [<- List.drop_drop];exact List.drop_sublist _ _)
  exact ⟨fun p h=>hp.1 p (hs.subset h),hp.2.sublist hs⟩
 exact hp
theorem awq {C:bC} {e:Int} {l:List aL} (hp:xD C e l) {k v:Int} (hk:aac C e k v):xD C e (Bt l k v):=by
 obtain ⟨b1,b2⟩:=aiQ hp.2 k
 unfold Bt
 split
 ·rename_i h
  obtain ⟨h1,h2⟩:=J8 h;rw [List.getD_eq_getElem?_getD,eD h1,Option.getD_some,h2];refine ⟨fun p hpm=>?_,?_⟩
  ·rcases List.mem_or_eq_of_mem_set hpm with h|rfl
   ·exact hp.1 p h
   exact hk
  have e:(l.set (gQ (l.map aL.key) k) ⟨k,v⟩).map aL.key=l.map aL.key:=by
   rw [List.map_set];refine List.ext_getElem (by simp) fun i h3 h4=>?_;rw [List.getElem_set]
   split
   ·rename_i hi;subst hi;rw [List.getElem_map,h2]
   rfl
  have:=List.pairwise_map.2 hp.2;rw [<- e] at this;exact List.pairwise_map.1 this
 rename_i h
 have hne:∀ p∈l,p.key≠k:=fun p hpm he=>by
  rw [J7 (List.pairwise_map.2 (hp.2.imp fun h=>Int.le_of_lt h)),pF] at h;exact h (List.mem_map.2 ⟨p,hpm,he⟩)
 refine ⟨fun p hpm=>?_,?_⟩
 ·rcases jS.1 hpm with h|h
  ·exact hp.1 p (List.mem_of_mem_take h)
  rcases iy.1 h with rfl|h
  ·exact hk
  exact hp.1 p (List.mem_of_mem_drop h)
 rw [List.pairwise_append];refine ⟨hp.2.sublist (List.take_sublist _ _),qo.2 ⟨fun p h=>?_,hp.2.sublist (List.drop_sublist _ _)⟩,fun p h q hq=>?_⟩
 ·have h1:=b2 p h;have h2:=hne p (List.mem_of_mem_drop h)
  show k < p.key
  omega
 have h1:=b1 p h
 rcases iy.1 hq with rfl|hq
 ·exact h1
 have h2:=b2 q hq
 show p.key < q.key
 omega
theorem ahP {C:bC} {e:Int} {l:List aL} (hp:xD C e l) {k:Int} {s:Int × Bool} (hs:Ah C e k s):xD C e (vB l k s):=by
 unfold vB
 split
 ·rename_i h
  exact awq hp ⟨hs.1,hs.2.1 h⟩
 exact akn hp k
theorem Xz {C:bC} {e:Int} (rej:Int->Bool) {yu:List (Int × Bool)} {k:Int} (hf:wL e k=true) (hst:∀ s∈yu,Ah C e k s):∀ (l:List bZ) (j:Nat) (now:Int × Bool),(∀ y∈l,y.key=k∧y.rev∈C.kM)->Ah C e k now ->
  (∀ y∈(uy rej yu l j now).1,y.key=k∧F8 C e y∧∃ z∈l,z.rev=y.rev∧rej z.rev=false)∧Ah C e k (uy rej yu l j now).2
 | [],_,_,_,hn=>by rw [uy];exact ⟨fun y h=>(by cases h),hn⟩
 | y :: r,j,now,hl,hn=>by
  obtain ⟨h1,h2⟩:=hl y fE;have hl2:=fun z hz=>hl z (gV _ hz);rw [uy]
  split
  ·obtain ⟨a,b⟩:=Xz rej hf hst r (j+1) now hl2 hn;refine ⟨fun z hz=>?_,b⟩;obtain ⟨c1,c2,x,c3,c4⟩:=a z hz;exact ⟨c1,c2,x,gV _ c3,c4⟩
  rename_i hr
  have hg:Ah C e k (yu.getD (j+1) (0,false)):=by
   rw [List.getD_eq_getElem?_getD]
   cases hx:yu[j+1]? with
   | none=>exact ahf hf
   | some s=>exact hst s (lV hx)
  obtain ⟨a,b⟩:=Xz rej hf hst r (j+1) _ hl2 hg;refine ⟨fun z hz=>?_,b⟩
  rcases iy.1 hz with rfl|hz
  ·refine ⟨h1,⟨h2,?_⟩,y,fE,rfl,by simpa using hr⟩;dsimp only;rw [h1];exact hn
  obtain ⟨c1,c2,x,c3,c4⟩:=a z hz;exact ⟨c1,c2,x,gV _ c3,c4⟩
theorem Vw (acc:Int->Bool):∀ (l:List bZ) (k c:Nat),c<=k->c<=iZ acc l k c
 | [],k,c,_=>by rw [iZ];exact eP _
 | y :: r,k,c,h=>by
  rw [iZ]
  split
  ·have:=Vw acc r (k+1) (k+1) (eP _);omega
  exact Vw acc r (k+1) c (by omega)
theorem acZ (acc:Int->Bool):∀ (l:List bZ) (k c:Nat),c<=k->∀ y∈l.drop (iZ acc l k c - k),acc y.rev=false
 | [],_,_,_,y,h=>by rw [List.drop_nil] at h;cases h
 | x :: r,k,c,hc,y,h=>by
  rw [iZ] at h
  have hc2:(if acc x.rev=true then k+1 else c)<=k+1:=by split <;> omega
  have ih:=acZ acc r (k+1) (if acc x.rev=true then k+1 else c) hc2;have hge:=Vw acc r (k+1) (if acc x.rev=true then k+1 else c) hc2
  by_cases hk:iZ acc r (k+1) (if acc x.rev=true then k+1 else c)<=k
  ·rw [show iZ acc r (k+1) (if acc x.rev=true then k+1 else c) - k=0 by omega,wH] at h;rw [show iZ acc r (k+1) (if acc x.rev=true then k+1 else c) - (k+1)=0 by omega,wH] at ih
   rcases iy.1 h with rfl|h
   ·cases ha:acc y.rev
    ·rfl
    rw [aD ha] at hge hk;omega
   exact ih y h
  rw [show iZ acc r (k+1) (if acc x.rev=true then k+1 else c) - k=(iZ acc r (k+1) (if acc x.rev=true then k+1 else c) - (k+1))+1 by omega,xG] at h;exact ih y h
theorem adk {C:bC} {e:Int} (acc rej:Int->Bool) {props:List aL} (hp:xD C e props) {k:Int} {l:List bZ} (hne:l≠[]) (hl:∀ y∈l,y.key=k∧F8 C e y) :
  (∀ y∈(lY acc rej props k l).1,y.key=k∧F8 C e y∧∃ z∈l,z.rev=y.rev∧rej z.rev=false∧acc z.rev=false)∧Ah C e k (lY acc rej props k l).2:=by
 have hf:wL e k=true:=by
  obtain ⟨y,r,rfl⟩:=List.exists_cons_of_ne_nil hne;obtain ⟨h1,-,h2,-⟩:=hl y fE;rw [<- h1];exact h2
 have hst:∀ s∈qg props k l,Ah C e k s:=fun s hs=>by
  unfold qg at hs
  rcases jS.1 hs with hs|hs
  ·obtain ⟨y,hy,rfl⟩:=List.mem_map.1 hs;obtain ⟨h1,-,h2⟩:=hl y hy;rw [<- h1];exact h2
  rw [pU.1 hs];exact aoP hp hf
 unfold lY
 have hn:Ah C e k ((qg props k l).getD (iZ acc l 0 0) (0,false)):=by
  rw [List.getD_eq_getElem?_getD]
  cases hx:(qg props k l)[iZ acc l 0 0]? with
  | none=>exact ahf hf
  | some s=>exact hst s (lV hx)
 obtain ⟨a,b⟩:=Xz rej hf hst (l.drop (iZ acc l 0 0)) (iZ acc l 0 0) _ (fun y hy=>⟨(hl y (List.mem_of_mem_drop hy)).1,(hl y (List.mem_of_mem_drop hy)).2.1⟩) hn;refine ⟨fun y hy=>?_,b⟩;obtain ⟨c1,c2,x,c3,c4⟩:=a y hy;exact ⟨c1,c2,x,List.mem_of_mem_drop c3,c4.1,c4.2,acZ acc l 0 0 (eP _) x (by simpa using c3)⟩
theorem ML:∀ (f:Nat) (l:List bZ),∀ q∈rC f l,∀ y∈q.2,y.key=q.1
 | 0,_,q,hq=>by cases hq
 | f+1,[],q,hq=>by cases hq
 | f+1,y :: r,q,hq=>by
  rw [rC] at hq
  rcases iy.1 hq with rfl|hq
  ·intro z hz
   rcases iy.1 hz with rfl|hz
   ·rfl
   have:=List.all_takeWhile (l:=r) (p:=fun z=>decide (z.key=y.key));rw [lq] at this
   simpa using this z hz
  exact ML f _ q hq
theorem abA {C:bC} {e:Int} (acc rej:Int->Bool) {props:List aL} (hp:xD C e props):∀ (L:List (Int × List bZ)) (s:List aL × List bZ),xD C e s.1->(∀ q∈L,q.2≠[]∧∀ y∈q.2,y.key=q.1∧F8 C e y) ->
  xD C e (ug acc rej props L s).1∧∃ m,(ug acc rej props L s).2=s.2++m∧(m.map bZ.key).Sublist ((L.flatMap Prod.snd).map bZ.key)∧∀ y∈m,F8 C e y∧∃ z∈L.flatMap Prod.snd,z.rev=y.rev∧rej z.rev=false∧acc z.rev=false
 | [],s,h,_=>by rw [ug];exact ⟨h,[],by simp,lX _,fun y h=>by cases h⟩
 | (k,l) :: r,s,h,hL=>by
  obtain ⟨h1,h2⟩:=hL (k,l) fE;obtain ⟨a,b⟩:=adk acc rej hp h1 h2;have hln:=Vz acc rej props k l;rw [ug];obtain ⟨c,m,d1,d2,d3⟩:=abA acc rej hp r (vB s.1 k (lY acc rej props k l).2,s.2++(lY acc rej props k l).1) (ahP h b) fun q hq=>hL q (gV _ hq);refine ⟨c,(lY acc rej props k l).1++m,by rw [d1,ko],?_,fun y hy=>?_⟩
  ·rw [List.flatMap_cons,lW,lW];refine List.Sublist.append ?_ d2;have e1:(lY acc rej props k l).1.map bZ.key=List.replicate (lY acc rej props k l).1.length k:=List.eq_replicate_iff.2 ⟨by simp,fun x hx=>by obtain ⟨y,hy,rfl⟩:=List.mem_map.1 hx;exact (a y hy).1⟩;have e2:l.map bZ.key=List.replicate l.length k:=List.eq_replicate_iff.2 ⟨by simp,fun x hx=>by obtain ⟨y,hy,rfl⟩:=List.mem_map.1 hx;exact (h2 y hy).1⟩;rw [e1,e2];exact (List.replicate_sublist_replicate k).2 hln
  rw [List.flatMap_cons]
  rcases jS.1 hy with hy|hy
  ·obtain ⟨-,c2,x,c3,c4⟩:=a y hy;exact ⟨c2,x,jS.2 (.inl c3),c4⟩
  obtain ⟨c2,x,c3,c4⟩:=d3 y hy;exact ⟨c2,x,jS.2 (.inr c3),c4⟩
theorem JH {C:bC} {e:Int} (acc rej:Int->Bool) {h:dN} (hh:FX C e h):FX C e (iH acc rej h)∧∀ y∈(iH acc rej h).marks.layers,∃ z∈h.marks.layers,z.rev=y.rev∧rej z.rev=false∧acc z.rev=false:=by
 obtain ⟨hel,hps,⟨m1,m2,m3,m4⟩,⟨d1,d2⟩,hln,⟨l1,l2⟩⟩:=hh;obtain ⟨f1,f2⟩:=Hl h.marks.layers.length h.marks.layers (eP _);obtain ⟨a,m,b1,b2,b3⟩:=abA acc rej hps (rC h.marks.layers.length h.marks.layers) (h.props,[]) hps fun q hq=>⟨f2 q hq,fun y hy=>⟨ML _ _ q hq y hy,l1 y (by rw [<- f1];exact List.mem_flatMap.2 ⟨q,hq,hy⟩)⟩⟩;rw [f1] at b2 b3;rw [nQ] at b1;have hsub:=List.filter_sublist (p:=fun x:gJ=>!rej x.rev) (l:=h.marks.bJ);have hlen:=b2.length_le;rw [bQ,bQ] at hlen
 have hmk:(if jV acc h then 0 else h.marks.ins)=0∧(if jV acc h then 0 else h.marks.move)=0∨(if jV acc h then 0 else h.marks.ins)=h.marks.ins∧(if jV acc h then 0 else h.marks.move)=h.marks.move:=by
  by_cases hi:jV acc h
  ·exact .inl ⟨aD hi,aD hi⟩
  exact .inr ⟨av hi,av hi⟩
 refine ⟨⟨hel,a,?_,⟨fun x hx=>d1 x (hsub.subset hx),d2.sublist hsub⟩,?_,⟨fun y hy=>?_,?_⟩⟩,fun y hy=>?_⟩
 ·have hd:=hsub.length_le
  unfold iH
  dsimp only
  rcases hmk with ⟨e1,e2⟩|⟨e1,e2⟩
  ·rw [e1,e2];exact ⟨fun h=>absurd rfl h,by omega,fun h=>absurd rfl h,by omega⟩
  rw [e1,e2];exact ⟨m1,m2,m3,by omega⟩
 ·unfold iH;dsimp only;rw [b1];omega
 ·unfold iH at hy;dsimp only at hy;rw [b1] at hy;exact (b3 y hy).1
 ·unfold iH;dsimp only;rw [b1]
  exact List.pairwise_map.1 ((List.pairwise_map.2 l2).sublist b2)
 unfold iH at hy;dsimp only at hy;rw [b1] at hy;exact (b3 y hy).2
theorem PU {C:bC} {e:Int} (acc rej:Int->Bool) {h:dN} (hh:iM C e h=0):iM C e (iH acc rej h)=0:=(Cu C e _).2 (JH acc rej ((Cu C e h).1 hh)).1
def LH (l:List bV):Prop:=l.length<=256∧(∀ x∈l,xH x.author=true∧(0<=x.time∧x.time<=1099511627776)∧1<=x.id∧x.id<=1073741824)∧l.Pairwise fun x y=>x.id < y.id
theorem agH {l:List bV} (h:Dt l=0):LH l:=by
 have h1:=lD h _ (fE);have h2:=lD h _ (gV _ fE)
 have hl:l.length<=256:=by
  rw [tO (by decide),sQ] at h1;omega
 have hi:∀ i (hi:i < l.length),RQ l i l[i]=0:=fun i hi=>by
  have h3:=BU h2 i (by omega)
  unfold CJ at h3
  rwa [eD hi] at h3
 refine ⟨hl,fun x hx=>?_,?_⟩
 ·obtain ⟨i,hi',rfl⟩:=List.getElem_of_mem hx;have z:=lD (hi i hi');have z1:=Nw (z _ fE);rw [eD hi'] at z1;have z2:=z (dG (!xH l[i].author) 39) (by simp);have z3:=z (dG (!decide (0<=l[i].time∧l[i].time<=1099511627776)) 40) (by simp);rw [tO (by decide)] at z2 z3;exact ⟨by simpa using z2,by simpa using z3,z1.1,z1.2.1⟩
 have step:∀ i (hi':i+1 < l.length),l[i].id < l[i+1].id:=fun i hi'=>by
  have z1:=(Nw (lD (hi (i+1) hi') _ fE)).2.2 (by omega);rw [Nat.add_sub_cancel,eD hi',eD (show i < l.length by omega)] at z1;exact z1
 rw [List.pairwise_iff_getElem];intro i j hi' hj hij
 induction j with
 | zero=>omega
 | succ j ih =>
  by_cases e:i=j
  ·subst e;exact step i hj
  exact Int.lt_trans (ih (by omega) (by omega)) (step j hj)
theorem arX {id:Nat->Int} {i:Nat} (h1:1<=id i∧id i<=1073741824) (h2:0 < i->id (i - 1) < id i):wW id i=0:=by
 unfold wW
 rw [av (fun hn=>hn h1),av (fun hn=>by have:=h2 hn.1;omega),av (fun hn=>by have:=h2 hn.1;omega)]
theorem adi {l:List bV} (h:LH l):Dt l=0:=by
 obtain ⟨hl,hx,hp⟩:=h;refine Qh.2 ⟨(tO (by decide)).2 (nk (by omega)),Jk fun i hi=>?_⟩
 have hi':i < l.length:=by omega
 unfold CJ
 rw [eD hi'];have h1:=hx _ (lC hi');refine ER fun y hy=>?_
 simp only [iy,List.not_mem_nil,or_false] at hy
 rcases hy with rfl|rfl|rfl
 ·have e:∀ k (hk:k < l.length),(l[k]?.map bV.id).getD 0=l[k].id:=fun k hk=>by rw [eD hk];rfl
  exact arX (by rw [e i hi'];exact h1.2.2) (fun h0=>by
   rw [e i hi',e (i - 1) (by omega)]
   exact List.pairwise_iff_getElem.1 hp (i - 1) i (by omega) hi' (by omega))
 ·rw [tO (by decide),h1.1];rfl
 rw [tO (by decide),mM h1.2.1];rfl
theorem LH.sub {l m:List bV} (h:LH l) (hs:m.Sublist l):LH m:=⟨Nat.le_trans hs.length_le h.1,fun x hx=>h.2.1 x (hs.subset hx),h.2.2.sublist hs⟩
def uF (A:List qO):Int:=(A.map fun f=>Fw f.items).sum
theorem Y1 (a b:List qO):uF (a++b)=uF a+uF b:=by simp [uF]
theorem SA (x:qO) (b:List qO):uF (x :: b)=Fw x.items+uF b:=by simp [uF]
theorem axo (A:List qO):Oj A=uF A:=by
 have key:∀ (A:List qO) (n:Int),A.foldl (fun n f=>n+Fw f.items) n=n+uF A:=by
  intro A
  induction A with
  | nil=>intro n;simp [uF]
  | cons x A ih=>intro n;rw [List.foldl_cons,ih,SA];omega
 rw [Oj,key];omega
theorem XD {C:bC} {body note:Bool} {t:Int} {l:List au} (h:iN C body note t l):Fw l=IV l:=by
 unfold Fw
 rw [aD]
 unfold P5
 rw [lq];intro x hx;have h1:=(Hf ((Ry x).1 (Eb.1 h x hx)).1).1;refine mM ?_
 unfold Om Le;rw [aD h1];split <;> rfl
theorem axl (k c i:Int) (tx:ByteArray) (h:dN) (f:List au) (r:List aU):uI (.mk k c i tx h f r)=jL (.mk k c i tx h f r)+(if k=6 then jY f else if k=7 then pz r else 0):=by rw [uI];rfl
mutual
theorem axq (C:bC) (body note:Bool) (t:Int) (n2:Bool) (t2:Int):∀ x:au,lM C body note t x->(jL x:Nat)+uF (Ow n2 t2 x)=(uI x:Nat)
 | .mk k c i tx h f r,hx=>by
  have hf:=SE C false true t true t2 f;have hr:=ahx C note (t+1) n2 t2 r;rw [lM] at hx;rw [axl,Ow]
  by_cases h6:k=6
  ·subst h6;have ho:=hx.2.2.2.1 rfl;have:=hf ho;rw [aD rfl,aD rfl,SA];dsimp only;rw [XD ho];push_cast;omega
  by_cases h7:k=7
  ·subst h7;have:=hr (hx.2.2.2.2 rfl).2;rw [av h6,av h6,aD rfl,aD rfl];push_cast;omega
  rw [av h6,av h6,av h7,av h7];simp [uF]
theorem axr (C:bC) (note:Bool) (t:Int) (n2:Bool) (t2:Int):∀ x:aU,oV C note t x->uF (Ox n2 t2 x)=(uR x:Nat)
 | .mk h cs,hx=>by
  have hc:=ahv C note t n2 t2 cs;rw [oV] at hx;rw [uR,Ox];exact hc hx.2
theorem axp (C:bC) (note:Bool) (t:Int) (n2:Bool) (t2:Int):∀ x:aX,oU C note t x->uF (Ou n2 t2 x)=(uC x:Nat)
 | .mk i h f,hx=>by
  have hf:=SE C false note t n2 (t2+1) f;rw [oU] at hx;have:=hf hx.2;rw [uC,Ou,SA];dsimp only;rw [XD hx.2];omega
theorem SE (C:bC) (body note:Bool) (t:Int) (n2:Bool) (t2:Int):∀ l:List au,iN C body note t l->(IV l:Nat)+uF (C9 n2 t2 l)=(jY l:Nat)
 | [],_=>by simp [IV,C9,uF,jY]
 | x :: l,h=>by
  rw [iN] at h;have h1:=axq C body note t n2 t2 x h.1;have h2:=SE C body note t n2 t2 l h.2;rw [IV,C9,jY,Y1];push_cast;omega
theorem ahx (C:bC) (note:Bool) (t:Int) (n2:Bool) (t2:Int):∀ l:List aU,jX C note t l->uF (FQ n2 t2 l)=(pz l:Nat)
 | [],_=>by simp [FQ,uF,pz]
 | x :: l,h=>by
  rw [jX] at h;have h1:=axr C note t n2 t2 x h.1;have h2:=ahx C note t n2 t2 l h.2;rw [FQ,pz,Y1];push_cast;omega
theorem ahv (C:bC) (note:Bool) (t:Int) (n2:Bool) (t2:Int):∀ l:List aX,kL C note t l->uF (FP n2 t2 l)=(qh l:Nat)
 | [],_=>by simp [FP,uF,qh]
 | x :: l,h=>by
  rw [kL] at h;have h1:=axp C note t n2 t2 x h.1;have h2:=ahv C note t n2 t2 l h.2;rw [FP,qh,Y1];push_cast;omega
end
theorem ahw {C:bC} {body note:Bool} {t:Int} {l:List au} (h:iN C body note t l):Oj (JY l)=(jY l:Nat):=by
 have:=SE C body note t false 0 l h;rw [axo,JY,SA];dsimp only;rw [XD h];exact this
theorem Rj {d:gu} (h:iK d=0):iK (oP d)=0∧Oj (JY (kK d.flow))=Oj (JY d.flow):=by
 obtain ⟨h1,h2,h3,h4,h5⟩:=(zI d).1 h;obtain ⟨e1,e2⟩:=arV h3;exact ⟨(zI (oP d)).2 ⟨h1,h2,afM h3,by show kN [] [] (jA (kK d.flow));rw [e1];exact h4,by show jY (kK d.flow)<=_;rw [e2];exact h5⟩,by rw [ahw (afM h3),ahw h3,e2]⟩
theorem axc (l:List Int):(zX l).Pairwise (·<=·):=by
 have h:=List.pairwise_mergeSort (le:=leI) (fun a b c h1 h2=>by simp only [leI,pF] at *;omega) (fun a b=>by simp only [leI,Bool.or_eq_true,pF];omega) l
 exact h.imp fun h=>by simpa [leI] using h
theorem aeY (d:gu):(fun r:bV=>nT (zX (nN (oP d))) r.id)=fun r=>decide (r.id∈nN (oP d)):=by
 funext r
 rw [J7 (axc _)];exact decide_eq_decide.2 (by rw [zX,List.mem_mergeSort])
theorem XQ {d:gu} (h:iK d=0):iK (nD d)=0:=by
 obtain ⟨h1,h2,h3,h4,h5⟩:=(zI _).1 (Rj h).1;have hg:=agH h1.2
 have h0:(0:Int)∉(oP d).kG.kM:=by
  intro hm;obtain ⟨x,hx,e⟩:=List.mem_map.1 (show (0:Int)∈d.revs.map bV.id from hm);have:=(hg.2.1 x hx).2.2.1
  omega
 have hin:∀ q∈KN (oP d),q≠0->q∈(nD d).kG.kM:=by
  intro q hq hn
  have hu:q∈nN (oP d):=by
   unfold nN
   rw [List.mem_filter,pF,O7];exact ⟨.inr hq,hn⟩
  have hr:=(RO (Rj h).1 q hq).resolve_left hn;obtain ⟨x,hx,rfl⟩:=List.mem_map.1 hr
  show x.id∈(nD d).revs.map bV.id
  refine List.mem_map.2 ⟨x,?_,rfl⟩
  show x∈d.revs.filter _
  rw [aeY,List.mem_filter];exact ⟨hx,mM hu⟩
 refine (zI (nD d)).2 ⟨⟨h1.1,adi (hg.sub List.filter_sublist)⟩,⟨MW (C:=(oP d).kG) (C':=(nD d).kG) rfl rfl h0 (fun q hq hn=>hin q (by unfold KN;exact List.mem_append_right _ hq) hn) h2.1,h2.2⟩,NU (C:=(oP d).kG) (C':=(nD d).kG) rfl rfl h0 true false 0 _ (fun x hx q hq hn=>hin q (by unfold KN;exact List.mem_append_left _ (List.mem_flatMap.2 ⟨x,hx,hq⟩)) hn) h3,h4,h5⟩
mutual
theorem atr (C:bC) (body note:Bool) (t:Int):∀ x:au,lM C body note t x->KH x
 | .mk k c i tx h f r,hx=>by
  have hf:=Rt C false true t f;have hr:=afE C note (t+1) r;rw [lM] at hx;obtain ⟨-,-,aeA,adK⟩:=Hf hx.1;dsimp only [au.kind,au.rows,au.flow] at aeA adK;rw [KH];refine ⟨?_,?_⟩
  ·by_cases h6:k=6
   ·exact hf (hx.2.2.2.1 h6)
   rw [adK h6,wZ];trivial
  by_cases h7:k=7
  ·exact hr (hx.2.2.2.2 h7).2
  rw [aeA h7,Ea];trivial
theorem att (C:bC) (note:Bool) (t:Int):∀ x:aU,oV C note t x->FD x
 | .mk h cs,hx=>by
  have hc:=afD C note t cs;rw [oV] at hx;rw [FD];refine ⟨fun e=>?_,hc hx.2⟩;have z:=lD hx.1 (dG (decide ((cs.length:Int)=0)) 11) (by simp);rw [tO (by decide),e] at z
  simp at z
theorem atq (C:bC) (note:Bool) (t:Int):∀ x:aX,oU C note t x->FB x
 | .mk i h f,hx=>by
  have hf:=Rt C false note t f;rw [oU] at hx;rw [FB];exact hf hx.2
theorem Rt (C:bC) (body note:Bool) (t:Int):∀ l:List au,iN C body note t l->wZ l
 | [],_=>by rw [wZ];trivial
 | x :: l,h=>by
  rw [iN] at h;rw [wZ];exact ⟨atr C body note t x h.1,Rt C body note t l h.2⟩
theorem afE (C:bC) (note:Bool) (t:Int):∀ l:List aU,jX C note t l->Ea l
 | [],_=>by rw [Ea];trivial
 | x :: l,h=>by
  rw [jX] at h;rw [Ea];exact ⟨att C note t x h.1,afE C note t l h.2⟩
theorem afD (C:bC) (note:Bool) (t:Int):∀ l:List aX,kL C note t l->FC l
 | [],_=>by rw [FC];trivial
 | x :: l,h=>by
  rw [kL] at h;rw [FC];exact ⟨atq C note t x h.1,afD C note t l h.2⟩
end
theorem atf {d:gu} (hz:Af d):Af (nD d):=⟨Nat.le_trans (Zg _) hz.fl,hz.hd,Nat.le_trans (List.length_filter_le _ _) hz.rn,fun x hx=>hz.rt x (List.mem_filter.1 hx).1,hz.sn,hz.st⟩
theorem afs {d:gu} (hz:Af d) (h:iK d=0):wZ d.flow∧dx (kK d.flow)<=1073741824∧(∀ k∈nN (oP d),-9223372036854775808<=k∧k < 9223372036854775808)∧(nN (oP d)).length<=4294967296:=by
 have h0:=(Rj h).1;refine ⟨Rt _ _ _ _ _ ((zI d).1 h).2.2.1,Nat.le_trans (Zg _) hz.fl,fun q hq=>by have:=axE h0 hq;omega,?_⟩;exact Nat.le_trans (axD h0) hz.rn
section
theorem Vu {k c i:Int} {tx:ByteArray} {h h':dN} {f f':List au} {r r':List aU} (hx:lF (.mk k c i tx h f r)=0) (hf:k≠6->f'=f) (hr:k≠7->r'=r):lF (.mk k c i tx h' f' r')=0:=by
 have e:vT (.mk k c i tx h' f' r')=vT (.mk k c i tx h f r):=by
  rw [tY]
  simp only [vT,Bool.or_eq_true,ow,pF]
  have c1:xM (.mk k c i tx h' f' r')=xM (.mk k c i tx h f r):=rfl;have c2:xY (.mk k c i tx h' f' r')=xY (.mk k c i tx h f r):=rfl;have c3:Aa (.mk k c i tx h' f' r')=Aa (.mk k c i tx h f r):=rfl;rw [c1,c2,c3]
  show (((((_∧c≠0)∨(_∧i≠0))∨(_∧(!rY tx)=true))∨(k≠6∧0 < (f'.length:Int)))∨(k≠7∧0 < (r'.length:Int)))↔(((((_∧c≠0)∨(_∧i≠0))∨(_∧(!rY tx)=true))∨(k≠6∧0 < (f.length:Int)))∨(k≠7∧0 < (r.length:Int)))
  by_cases h6:k=6
  ·subst h6;rw [hr (by decide)];simp
  rw [hf h6]
  by_cases h7:k=7
  ·subst h7;simp
  rw [hr h7]
 have e2:codeOk (.mk k c i tx h' f' r')=codeOk (.mk k c i tx h f r):=rfl;have e3:zY (.mk k c i tx h' f' r')=zY (.mk k c i tx h f r):=rfl
 unfold lF at hx |-
 rw [e,e2,e3];exact hx
theorem KC (k c i:Int) (tx:ByteArray) (h:dN) (f:List au) (r:List aU):rH (.mk k c i tx h f r)=(if k=6∨k=7 then [i] else [])++(if k=6 then jA f else if k=7 then nV r else []):=by
 rw [rH]
 by_cases h6:k=6
 ·rw [aD h6,aD h6,av (show ¬ k=7 by omega),iF]
 rw [av h6,av h6,nQ]
theorem aeL:∀ a b:List aU,nV (a++b)=nV a++nV b
 | [],b=>by simp [nV]
 | x :: a,b=>by simp [nV,aeL a b]
theorem aeK:∀ a b:List aX,oO (a++b)=oO a++oO b
 | [],b=>by simp [oO]
 | x :: a,b=>by simp [oO,aeK a b]
theorem aht:∀ a b:List aU,pz (a++b)=pz a+pz b
 | [],b=>by simp [pz]
 | x :: a,b=>by simp [pz,aht a b];omega
theorem ahs:∀ a b:List aX,qh (a++b)=qh a+qh b
 | [],b=>by simp [qh]
 | x :: a,b=>by simp [qh,ahs a b];omega
theorem NP {C:bC} {h:dN} {n:Nat}:Ee C h n=0↔iM C 9 h=0∧n≠0∧n<=32:=by
 constructor
 ·intro h;have z:=lD h;have z2:=z (dG (decide ((n:Int)=0)) 11) (by simp);have z3:=z (dG (decide (32 < (n:Int))) 9) (by simp);rw [tO (by decide),sQ] at z2 z3;exact ⟨z _ fE,by omega,by omega⟩
 rintro ⟨h1,h2,h3⟩;refine ER fun x hx=>?_
 simp only [iy,List.not_mem_nil,or_false] at hx
 rcases hx with rfl|rfl|rfl
 ·exact h1
 ·rw [tO (by decide),sQ];omega
 rw [tO (by decide),sQ];omega
variable {acc rej:Int->Bool}
mutual
theorem auV (C:bC) (body note:Bool) (t:Int):∀ x:au,lM C body note t x->iN C body note t (mH acc rej x)∧(jA (mH acc rej x)).Sublist (rH x)∧jY (mH acc rej x)<=uI x
 | .mk k c i tx h f r,hx=>by
  have hf:=RS C false true t f;have hr:=agp C note (t+1) r;rw [lM] at hx;obtain ⟨h1,h2,h3,h4,h5⟩:=hx;have hd:=PU acc rej h3;have nil:iN C body note t []∧(jA []).Sublist (rH (.mk k c i tx h f r))∧jY []<=uI (.mk k c i tx h f r):=⟨by rw [iN];trivial,by rw [jA];exact List.nil_sublist _,by rw [jY];exact lu _⟩;have one:∀ y:au,lM C body note t y->(rH y).Sublist (rH (.mk k c i tx h f r))->uI y<=uI (.mk k c i tx h f r)->iN C body note t [y]∧(jA [y]).Sublist (rH (.mk k c i tx h f r))∧jY [y]<=uI (.mk k c i tx h f r):=fun y a b c=>⟨by rw [iN,iN];exact ⟨a,ay⟩,by rw [jA,jA,iF];exact b,by rw [jY,jY];exact c⟩;rw [mH]
  split
  ·exact nil
  split
  ·rename_i h6
   obtain ⟨a1,a2,a3⟩:=hf (h4 h6);refine one _ ?_ ?_ ?_
   ·rw [lM];exact ⟨Vu h1 (fun h=>absurd h6 h) fun _=>rfl,h2,hd,fun _=>a1,fun h=>absurd h (by omega)⟩
   ·rw [KC,KC];rw [aD h6,aD h6];exact (lX _).append a2
   rw [uI,uI,aD h6,aD h6];omega
  split
  ·rename_i h6 h7
   split
   ·exact nil
   rename_i hn
   obtain ⟨h5,h8⟩:=h5 h7;obtain ⟨a1,a2,a3⟩:=hr h8;have hl:=Yn (acc:=acc) (rej:=rej) r;refine one _ ?_ ?_ ?_
   ·rw [lM];exact ⟨Vu h1 (fun _=>rfl) fun h=>absurd h7 h,h2,hd,fun h=>absurd h h6,fun _=>⟨⟨hn,by omega⟩,a1⟩⟩
   ·rw [KC,KC];rw [av h6,av h6,aD h7,aD h7];exact (lX _).append a2
   rw [uI,uI,av h6,av h6,aD h7,aD h7];omega
  rename_i h6 h7
  refine one _ ?_ ?_ ?_
  ·rw [lM];exact ⟨Vu h1 (fun _=>rfl) fun _=>rfl,h2,hd,fun h=>absurd h h6,fun h=>absurd h h7⟩
  ·rw [KC,KC];exact lX _
  rw [uI,uI];exact eP _
theorem auW (C:bC) (note:Bool) (t:Int):∀ x:aU,oV C note t x->jX C note t (nY acc rej x)∧(nV (nY acc rej x)).Sublist (vX x)∧pz (nY acc rej x)<=uR x
 | .mk h cs,hx=>by
  have hc:=agn C note t cs;rw [oV] at hx;obtain ⟨h1,h2⟩:=hx;obtain ⟨a1,a2,a3⟩:=hc h2;have hl:=Yl (acc:=acc) (rej:=rej) cs;have nil:jX C note t []∧(nV []).Sublist (vX (.mk h cs))∧pz []<=uR (.mk h cs):=⟨by rw [jX];trivial,by rw [nV];exact List.nil_sublist _,by rw [pz];exact lu _⟩;rw [nY]
  split
  ·exact nil
  split
  ·exact nil
  rename_i hn
  rw [jX,jX,nV,nV,pz,pz,oV,vX,vX,uR,uR,iF];refine ⟨⟨⟨?_,a1⟩,ay⟩,a2,a3⟩;obtain ⟨z1,z2,z3⟩:=NP.1 h1;exact NP.2 ⟨PU acc rej z1,hn,by omega⟩
theorem auU (C:bC) (note:Bool) (t:Int):∀ x:aX,oU C note t x->kL C note t (oH acc rej x)∧(oO (oH acc rej x)).Sublist (wU x)∧qh (oH acc rej x)<=uC x
 | .mk i h f,hx=>by
  have hf:=RS C false note t f;rw [oU] at hx;obtain ⟨h1,h2⟩:=hx;obtain ⟨a1,a2,a3⟩:=hf h2;rw [oH]
  split
  ·exact ⟨by rw [kL];trivial,by rw [oO];exact List.nil_sublist _,by rw [qh];exact lu _⟩
  rw [kL,kL,oO,oO,qh,qh,oU,wU,wU,uC,uC,iF];exact ⟨⟨⟨PU acc rej h1,a1⟩,ay⟩,(lX [i]).append a2,a3⟩
theorem RS (C:bC) (body note:Bool) (t:Int):∀ l:List au,iN C body note t l->iN C body note t (dV acc rej l)∧(jA (dV acc rej l)).Sublist (jA l)∧jY (dV acc rej l)<=jY l
 | [],_=>by rw [dV];exact ⟨by rw [iN];trivial,lX _,eP _⟩
 | x :: l,h=>by
  rw [iN] at h;obtain ⟨a1,a2,a3⟩:=auV C body note t x h.1;obtain ⟨b1,b2,b3⟩:=RS C body note t l h.2;rw [dV,Nv,Oe,jA,jY];exact ⟨Eb.2 fun y hy=>(jS.1 hy).elim (Eb.1 a1 y) (Eb.1 b1 y),a2.append b2,by omega⟩
theorem agp (C:bC) (note:Bool) (t:Int):∀ l:List aU,jX C note t l->jX C note t (gH acc rej l)∧(nV (gH acc rej l)).Sublist (nV l)∧pz (gH acc rej l)<=pz l
 | [],_=>by rw [gH];exact ⟨by rw [jX];trivial,lX _,eP _⟩
 | x :: l,h=>by
  rw [jX] at h;obtain ⟨a1,a2,a3⟩:=auW C note t x h.1;obtain ⟨b1,b2,b3⟩:=agp C note t l h.2;rw [gH,aeL,aht,nV,pz];exact ⟨Rz.2 fun y hy=>(jS.1 hy).elim (Rz.1 a1 y) (Rz.1 b1 y),a2.append b2,by omega⟩
theorem agn (C:bC) (note:Bool) (t:Int):∀ l:List aX,kL C note t l->kL C note t (gB acc rej l)∧(oO (gB acc rej l)).Sublist (oO l)∧qh (gB acc rej l)<=qh l
 | [],_=>by rw [gB];exact ⟨by rw [kL];trivial,lX _,eP _⟩
 | x :: l,h=>by
  rw [kL] at h;obtain ⟨a1,a2,a3⟩:=auU C note t x h.1;obtain ⟨b1,b2,b3⟩:=agn C note t l h.2;rw [gB,aeK,ahs,oO,qh];exact ⟨Rx.2 fun y hy=>(jS.1 hy).elim (Rx.1 a1 y) (Rx.1 b1 y),a2.append b2,by omega⟩
end
def iY (acc rej:Int->Bool) (d:gu):gu:=⟨dV acc rej d.flow,eZ acc rej d.fin,d.revs,d.iq⟩
theorem NQ {d:gu} (h:iK d=0):iK (iY acc rej d)=0:=by
 rw [zI] at h |-;obtain ⟨h1,⟨h2,h3⟩,h4,h5,h6⟩:=h;obtain ⟨a1,a2,a3⟩:=RS (acc:=acc) (rej:=rej) _ true false 0 d.flow h4
 unfold uz at h3
 rw [sQ] at h3;have hd:d.fin.marks.bJ=[]:=List.eq_nil_of_length_eq_zero (by omega)
 have hg:¬ lG acc rej d.fin:=fun h=>h.elim (fun h=>h3 (.inl (.inl h.1))) fun ⟨x,hx,_⟩=>by rw [hd] at hx;cases hx
 have ha:eZ acc rej d.fin=iH acc rej d.fin:=av hg;refine ⟨h1,⟨?_,?_⟩,a1,h5.sub a2,by show jY (dV acc rej d.flow)<=_;omega⟩
 ·show iM d.kG 3 (eZ acc rej d.fin)=0
  rw [ha];exact PU acc rej h2
 show uz (eZ acc rej d.fin).marks=false
 rw [ha]
 unfold uz iH
 rw [sQ];dsimp only;rw [hd];rintro ((h|h)|h)
 ·split at h
  ·exact h rfl
  exact h3 (.inl (.inl h))
 ·split at h
  ·exact h rfl
  exact h3 (.inl (.inr h))
 simp at h
structure wz (n:Nat) (d:gu):Prop where
 z:Af d
 fl:dx d.flow<=n
 hd:mW d.fin<=n
theorem ND {n:Nat} {d:gu} (h:wz n d):wz n (nD d):=⟨atf h.z,Nat.le_trans (Zg _) h.fl,h.hd⟩
theorem NR {n:Nat} {d:gu} (h:wz n d) (hn:2*n<=1073741824) (hn0:16<=n):wz (2*n) (iY acc rej d):=by
 have h1:=R8 (acc:=acc) (rej:=rej) d.flow
 have h2:mW (eZ acc rej d.fin)<=2*n:=by
  unfold eZ
  split
  ·show mW Bz<=_
   simp [FR,Bz,fB];try omega
  have:=PX (acc:=acc) (rej:=rej) d.fin;have:=h.hd;omega
 have h3:=h.fl;refine ⟨⟨by show dx (dV acc rej d.flow)<=_;omega,Nat.le_trans h2 (by omega),h.z.rn,h.z.rt,h.z.sn,h.z.st⟩,by show dx (dV acc rej d.flow)<=_;omega,h2⟩
end
theorem Vh:aQ 96:=aR func96 rfl
theorem Qd:dX prog 43 0 0:=⟨by kernel_rfl⟩
theorem Vd:aQ 76:=aR func76 rfl
theorem Qe:dX prog 43 1 1:=⟨by kernel_rfl⟩
theorem anB:aQ 97:=aR func97 rfl
theorem anb:aQ 46:=aR func46 rfl
theorem anC:aQ 99:=aR func99 rfl
theorem anc:aQ 48:=aR func48 rfl
theorem ald:aQ 118:=aR func118 rfl
theorem sM.Rh {acc rej:Int->Bool} {h:dN} {G:GH} {p d l:ah} (hh:jq G (eZ acc rej h) p d l):sM acc rej h (.tuple #[.agg #[p,vi (eZ acc rej h).marks.ins,vi (eZ acc rej h).marks.move,d,l],.bool (!decide (lG acc rej h))]) G:=by
 unfold sM
 by_cases hg:lG acc rej h
 ·have e:eZ acc rej h=Bz:=aD hg;rw [aD hg,mM hg];rw [e] at hh |-;exact ⟨p,d,l,rfl,hh⟩
 have e:eZ acc rej h=iH acc rej h:=av hg;rw [av hg,nk hg];rw [e] at hh |-;exact ⟨p,d,l,rfl,hh⟩
theorem axL (G:GH):Dj (.func (.func 97) #[] #[]) G (fun _=>false) fun _=>true:=by
 intro G1 w0 hm hG r;refine jv (caps:=[]) anB ?_;refine eN [(0,_)] func97 rfl ntmps97 rfl rfl hG ?_;intro a H;refine kP H (SR fun _ K1=>Ra rfl (aj K1 rfl (SR fun _ K2=>Ra rfl (aj K2 rfl ?_))));clear H K1 K2;intro a H;refine dw ?_;refine (fJ H results97 (.cons (bB H rfl) (.cons (bB H rfl) .nil)) ?_).1;exact xK
theorem avs (G:GH):Di (.func (.func 46) #[] #[]) G (fun _=>false) fun _=>true:=by
 intro G1 w0 hm hG h p d l hh hz;refine jv (caps:=[]) anb ?_;obtain ⟨pA,pn,pc,rfl⟩:=hh.props.form;obtain ⟨dA,dn,dc,rfl⟩:=hh.bJ.form;obtain ⟨lA,ln,lc,rfl⟩:=hh.layers.form;refine eN [(0,_)] func46 rfl ntmps46 rfl rfl hG ?_;intro a H;refine dz (fun _ K1=>?_);refine eB (cs:=[_,_,_,_,_]) H wn rfl rfl rfl ?_;clear H;intro b1 a w hb1 H;refine dP dW H wn rfl ?_;clear H;intro b2 a w hb2 H;refine kH H (aj K1 rfl (SR fun _ K2=>?_));clear H K1;intro a H;refine aV dW (cs:=[_,_,_,_,_]) H wn rfl rfl (H.hp.cB 1 rfl rfl) rfl ?_;clear H;intro a H;refine s_call Vh H wn rfl (XM _ _ H.ro _ _ _ (axL _) rfl h _ _ _ hh hz) rfl ?_;clear H;rintro v5 G5 a w hd5 Fa H;obtain ⟨q1,q2,q3,q4,q5,q6,q7,q8,q9,rfl,uq⟩:=hd5.ans;(iterate 2 refine mh H wn rfl rfl rfl ?_;clear H;intro a H);refine bK dW 0 (vs:=[_,_,_,_,_]) H wn rfl ?_;clear H;intro w H;refine kH H (aj K2 rfl ?_);clear H K2;intro a H;refine dw ?_;refine (fJ H results46 (.cons (mI dW (cs:=[_,_,_,_,_]) H rfl rfl (H.hp.cB 0 rfl rfl)) (.cons (bB H rfl) .nil)) ?_).1;exact H.rt (sM.Rh uq)
theorem axK (G:GH):Dj (.func (.func 99) #[] #[]) G (fun _=>true) fun _=>false:=by
 intro G1 w0 hm hG r;refine jv (caps:=[]) anC ?_;refine eN [(0,_)] func99 rfl ntmps99 rfl rfl hG ?_;intro a H;refine kP H (SR fun _ K1=>Ra rfl (aj K1 rfl (SR fun _ K2=>Ra rfl (aj K2 rfl ?_))));clear H K1 K2;intro a H;refine dw ?_;refine (fJ H results99 (.cons (bB H rfl) (.cons (bB H rfl) .nil)) ?_).1;exact xK
theorem avr (G:GH):Di (.func (.func 48) #[] #[]) G (fun _=>true) fun _=>false:=by
 intro G1 w0 hm hG h p d l hh hz;refine jv (caps:=[]) anc ?_;obtain ⟨pA,pn,pc,rfl⟩:=hh.props.form;obtain ⟨dA,dn,dc,rfl⟩:=hh.bJ.form;obtain ⟨lA,ln,lc,rfl⟩:=hh.layers.form;refine eN [(0,_)] func48 rfl ntmps48 rfl rfl hG ?_;intro a H;refine dz (fun _ K1=>?_);refine eB (cs:=[_,_,_,_,_]) H wn rfl rfl rfl ?_;clear H;intro b1 a w hb1 H;refine dP dW H wn rfl ?_;clear H;intro b2 a w hb2 H;refine kH H (aj K1 rfl (SR fun _ K2=>?_));clear H K1;intro a H;refine aV dW (cs:=[_,_,_,_,_]) H wn rfl rfl (H.hp.cB 1 rfl rfl) rfl ?_;clear H;intro a H;refine s_call Vh H wn rfl (XM _ _ H.ro _ _ _ (axK _) rfl h _ _ _ hh hz) rfl ?_;clear H;rintro v5 G5 a w hd5 Fa H;obtain ⟨q1,q2,q3,q4,q5,q6,q7,q8,q9,rfl,uq⟩:=hd5.ans;(iterate 2 refine mh H wn rfl rfl rfl ?_;clear H;intro a H);refine bK dW 0 (vs:=[_,_,_,_,_]) H wn rfl ?_;clear H;intro w H;refine kH H (aj K2 rfl ?_);clear H K2;intro a H;refine dw ?_;refine (fJ H results48 (.cons (mI dW (cs:=[_,_,_,_,_]) H rfl rfl (H.hp.cB 0 rfl rfl)) (.cons (bB H rfl) .nil)) ?_).1;exact H.rt (sM.Rh uq)
abbrev lsB (l:List Int):Int->Bool:=fun k=>nT l k
theorem axJ {G:GH} {b:Nat} {A R:List Int} {va vr:ah} (ha:aI G b 0=some va) (hr:aI G b 1=some vr) (hva:ak G (.sl 1 (A.map fun k=>[li k])) va) (oF:ak G (.sl 1 (R.map fun k=>[li k])) vr) (hla:A.length<=4294967296) (hlr:R.length<=4294967296) :
  Dj (.func (.func 118) #[] #[(aK b 0)]) G (lsB A) (lsB R):=by
 intro G1 w0 hm hG r;refine jv (caps:=[(aK b 0)]) ald ?_;replace ha:=aF hm ha;replace hr:=aF hm hr;replace hva:=hva.mono hm;replace oF:=oF.mono hm;refine eN [(0,_),(1,_)] func118 rfl ntmps118 rfl rfl hG ?_;intro a H;refine kP H (SR fun _ K1=>Ra rfl (aj K1 rfl (SQ fun _ K2=>?_)));clear H K1;intro a H;refine dI hmx [[],[0],[],[0,1,2],[],[4],[],ra 0 7,ra 0 8,ra 0 9] [8,9] (by kernel_rfl) [_,_,_,.bool (lsB A r),_,_,_,.bool (lsB R r)] H (aC (Z0 rfl (Rf Qd rfl)) (X1 0 5 rfl fun hG=>Rg yB rfl (aF hG ha)) (Z0 rfl (Rm rfl)) ?_ (aC (Z0 rfl (Rf Qe rfl)) (X1 4 9 rfl fun hG=>Rg yB rfl (aF hG hr)) (Z0 rfl (Rm rfl)) ?_ (bP (bU rfl) (bP (bU rfl) dH)))) ?_
 ·refine dO 1 6 2 7 rfl rfl fun _ a w G1 hG HT H fin=>?_;refine s_call Vd H wn rfl (XO _ _ H.ro A r _ (hva.mono hG) hla) rfl ?_;clear H;rintro v8 G8 a w rfl qy H;exact fin H qy (rfl)
 ·refine dO 5 10 6 11 rfl rfl fun _ a w G1 hG HT H fin=>?_;refine s_call Vd H wn rfl (XO _ _ H.ro R r _ (oF.mono hG) hlr) rfl ?_;clear H;rintro v12 BF a w rfl oM H;exact fin H oM (rfl)
 clear H;intro a w G jy H hv;have H:=H.aN (hv 3 8 rfl rfl) rfl;have H:=H.aN (hv 7 12 rfl rfl) rfl;clear hv;refine kH H (Ra rfl (Ra rfl ?_));clear H;intro a H;refine aB ⟨rfl,?_⟩;refine K2 _ _ ?_;clear K2;refine dw ?_;refine (fJ H results118 (.cons (bB H rfl) (.cons (bB H rfl) .nil)) ?_).1;exact xK
theorem asU (G:GH) (w0:World) (hG:Hold G w0) (A R:List Int) (aA rA:Option Addr) (an ac rn rc:Nat) (hva:ak G (.sl 1 (A.map fun k=>[li k])) (.slice aA an ac)) (oF:ak G (.sl 1 (R.map fun k=>[li k])) (.slice rA rn rc)) (hla:A.length<=4294967296) (hlr:R.length<=4294967296) (h:dN) (p d l:ah) (hh:jq G h p d l) (hz:mW h<=1073741824) :
  Calls prog 65 #[sj h p d l,.agg #[.slice aA an ac,.slice rA rn rc]] w0 (bE w0 G (sM (lsB A) (lsB R) h)):=by
 obtain ⟨pA,pn,pc,rfl⟩:=hh.props.form;obtain ⟨dA,dn,dc,rfl⟩:=hh.bJ.form;obtain ⟨lA,ln,lc,rfl⟩:=hh.layers.form;refine eN [(0,_),(1,_)] func65 rfl ntmps65 rfl rfl hG ?_;intro a H;refine dz (fun _ K1=>?_);refine eB (cs:=[_,_,_,_,_]) H wn rfl rfl rfl ?_;clear H;intro b2 a w hb2 H;refine eB (cs:=[_,_]) H wn rfl rfl rfl ?_;clear H;intro b3 a w hb3 H;refine dP dW H wn rfl ?_;clear H;intro b4 a w hb4 H;refine kH H (aj K1 rfl (SQ fun _ K2=>?_));clear H K1;intro a H;have H:=H.fG (Pl:=[_,_,_]) (eH:=[_,_,_]) [1,0,2] (by decide) rfl;obtain ⟨Ga,hma,hb',H⟩:=H.fO;have hga:=fun j v hj=>nu hb' 0 [.slice aA an ac,.slice rA rn rc] rfl j v hj;refine pV ?_;refine aV dW (cs:=[_,_,_,_,_]) H wn rfl rfl (H.hp.cB 1 rfl rfl) rfl ?_;clear H;intro a H;refine qd H wn rfl rfl ?_;clear H;intro a H;refine s_call Vh H wn rfl (XM _ _ H.ro _ _ _ (axJ (hga 0 _ rfl) (hga 1 _ rfl) (hva.mono hma) (oF.mono hma) hla hlr) rfl h _ _ _ (hh.mono hma) hz) rfl ?_;clear H;rintro v8 G8 a w hd8 rF H;obtain ⟨q1,q2,q3,q4,q5,q6,q7,q8,q9,rfl,Ki⟩:=hd8.ans;(iterate 2 refine mh H wn rfl rfl rfl ?_;clear H;intro a H);refine bK dW 0 (vs:=[_,_,_,_,_]) H wn rfl ?_;clear H;intro w H;refine kH H (bG K2 rfl ?_);clear H K2;intro a H;refine dw ?_;refine (fJ H results65 (.cons (mI dW (cs:=[_,_,_,_,_]) H rfl rfl (H.hp.cB 0 rfl rfl)) (.cons (bB H rfl) .nil)) ?_).1;exact H.rt (sM.Rh Ki)
theorem alp:aQ 135:=aR func135 rfl
theorem Y4:prog.underlying 134=some (.slice 41):=by kernel_rfl
theorem anv:aQ 74:=aR func74 rfl
theorem anw:aQ 75:=aR func75 rfl
theorem asb (G:GH) (w0:World) (hG:Hold G w0) (l:List Int) (p:Int->Bool) (v fv:ah) (hv:ak G (.sl 1 (l.map fun k=>[li k])) v) (hf:Ae fv G p) (hl:l.length<=4294967296) :
  Calls prog 135 #[v,fv] w0 (bE w0 G fun u G'=>u=vi (oG (l.findIdx? p))):=by
 obtain ⟨A,c,rfl,hc1,hc2,-⟩:=hv.slice;rw [bQ] at *;refine eN [(0,_),(1,_)] func135 rfl ntmps135 rfl rfl hG ?_;intro a H;refine kP H (SR fun _ K1=>aj K1 rfl (SQ fun _ K2=>SR fun _ K3=>Rm rfl (Rl mV rfl (Rm rfl (Kz K3 (SB ?_))))));clear H K1 K3;intro a H;skip;refine fF (ι:=Nat × GH) (Tc:=[(0,_),(1,_),(7,_)]) (Lc:=[]) (fun gh=>[(8,vi gh.1)]) (fun gh=>[]) (fun gh=>gh.2) (fun gh=>gh.1<=l.length∧(l.take gh.1).findIdx? p=none∧(∀ b o,G b=some o->gh.2 b=some o)) (fun gh=>l.length - gh.1) ((0,G)) (by exact H.sub ⟨rfl,rfl,rfl,rfl,ay⟩) ?_ ?_
 ·exact rW
 clear H;rintro ⟨k,g⟩ a w hI H;dsimp only at hI H;obtain ⟨hk,hno,hgm⟩:=hI;dsimp only [lca,bM] at H;refine kP H (SR fun _ K4=>Rc rfl (Kz K4 (SQ fun _ K5=>Cd rfl ?_ ?_))) <;> clear H K4
 ·intro h9 a H
  try have p9:=dT h9
  have hk2:k < l.length:=by omega
  obtain ⟨b,o,rfl,hrow⟩:=Io (f:=fun q=>q) hv hk2
  replace hrow:aI g b (o+k*1)=some (vi l[k]):=by rw [Nat.mul_one];exact aF hgm hrow
  refine kP H (Kc K5 (SQ fun _ K6=>SB (SR fun _ K7=>Rm rfl (aj K7 rfl (SR fun _ K8=>Rm rfl (Rm rfl (Rm rfl (Ri mV aG rfl rfl (Rg aG rfl hrow ?_)))))))));clear H K5 K7;intro a H;refine jJ H wn rfl rfl (hf _ _ hgm H.ro l[k]) rfl ?_;clear H;rintro v16 ql a w rfl nA H;refine K8 _ _ ?_;clear K8;refine jr H rfl ?_ ?_
  ·intro h16
   try have p16:=dT h16
   refine kP H (SR fun _ K9=>Rm rfl (aj K9 rfl ?_));clear H K9;intro a H;refine lr H results135 rfl ?_
   exact xJ
  intro h16
  try have p16:=dF h16
  refine kP H (Kc K6 (SC (Rd rfl (Rm rfl ?_))));clear H K6;intro a H;refine aB ?_;refine dJ ((k+1,ql)) (by exact H.sub ⟨rfl,rfl,rfl,rfl,ay⟩) ?_
  (try dsimp only);exact ED
 intro h9 a H
 try have p9:=dF h9
 refine eu ?_;refine K2 _ _ ?_;clear K2;refine kP H (SR fun _ aS=>aj aS rfl ?_);clear H aS;intro a H;refine lr H results135 rfl ?_
 exact xJ
theorem akt (G:GH) (w0:World) (hG:Hold G w0) (l:List Int) (p:Int->Bool) (v fv:ah) (hv:ak G (.sl 1 (l.map fun k=>[li k])) v) (hf:Ae fv G p) (hl:l.length<=4294967296) :
  Calls prog 74 #[v,fv] w0 (bE w0 G fun u G'=>u=.bool (l.findIdx? p).isSome):=by
 refine eN [(0,_),(1,_)] func74 rfl ntmps74 rfl rfl hG ?_;intro a H;refine kP H (SR fun _ K1=>aj K1 rfl (SR fun _ K2=>Rm rfl (Rm rfl ?_)));clear H K1;intro a H;refine s_call alp H wn rfl (asb _ _ H.ro l p _ _ hv hf hl) rfl ?_;clear H;rintro v7 G7 a w rfl yR H;refine kH H (Rc rfl (aj K2 rfl ?_));clear H K2;intro a H;refine lr H results74 rfl ?_
 exact H.rt (by cases h:l.findIdx? p <;> simp [oG])
theorem ajm {G:GH} {b:Nat} {R:List Int} {vr:ah} (hr:aI G b 1=some vr) (oF:ak G (.sl 1 (R.map fun k=>[li k])) vr) (hlr:R.length<=4294967296) :
  Ae (.func (.func 75) #[] #[(aK b 0)]) G (lsB R):=by
 intro G1 w0 hm hG r;refine jv (caps:=[(aK b 0)]) anw ?_;replace hr:=aF hm hr;replace oF:=oF.mono hm;refine eN [(0,_),(1,_)] func75 rfl ntmps75 rfl rfl hG ?_;intro a H;refine kP H (SR fun _ K1=>aj K1 rfl (SR fun _ K2=>Rf Qe rfl (Rg yB rfl hr (Rm rfl ?_))));clear H K1;intro a H;refine s_call Vd H wn rfl (XO _ _ H.ro R r _ oF hlr) rfl ?_;clear H;rintro v7 G7 a w rfl yR H;exact kH H (aj K2 rfl (LR results75 rfl fun H=>H.rt rfl))
def qY (l:List Int) (i:Nat):Int:=match l[i]? with
 | some n=>if n < 1∨1073741824 < n then 22 else if 0 < i∧n=l.getD (i - 1) 0 then 7 else if 0 < i∧n < l.getD (i - 1) 0 then 6 else 0
 | none=>0
def Ap (A R:List Int):Int:=dS [iW (qY A) A.length,iW (qY R) R.length,dG (A.findIdx? (lsB R)).isSome 23]
theorem UJ {l:List Int} {k:Nat} (h:k < l.length):qY l k=if l[k] < 1∨1073741824 < l[k] then 22 else if 0 < k∧l[k]=l.getD (k - 1) 0 then 7 else if 0 < k∧l[k] < l.getD (k - 1) 0 then 6 else 0:=by
 unfold qY;rw [eD h]
theorem ajl {A R l:List Int} {o k:Nat} {e:Int} (hx:(o=0∧l=A)∨(o=1∧l=R)) (hA:0 < o->iW (qY A) A.length=0) (hk:k < l.length) (he:dS (((List.range l.length).map (qY l)).drop k)=iW (qY l) l.length) (h:qY l k=e) (hn:e≠0):vi e=vi (Ap A R):=by
 rw [Gg hk,aD (by rw [h];exact hn),h] at he
 rcases hx with ⟨-,rfl⟩|⟨rfl,rfl⟩
 ·unfold Ap;rw [<- he,dS,aD hn]
 unfold Ap;rw [hA (by decide),<- he,dS,av (by decide),dS,aD hn]
theorem ajk {l:List Int} {k:Nat} (hk:k < l.length) (he:dS (((List.range l.length).map (qY l)).drop k)=iW (qY l) l.length) (h:qY l k=0):dS (((List.range l.length).map (qY l)).drop (k+1))=iW (qY l) l.length:=by
 rw [<- he,Gg hk,av (by rw [h];decide)]
theorem aaX {l:List Int} {k:Nat} (hk:l.length<=k) (he:dS (((List.range l.length).map (qY l)).drop k)=iW (qY l) l.length):iW (qY l) l.length=0:=by
 rw [<- he,tX (by simpa using hk)];rfl
theorem GJ {p:Prop} (h:p:=by
 first
  | exact H.rt (ajl hx WR hk2 he (by rw [UJ hk2];(repeat' split) <;> first|rfl|(exfalso;simp_all;done)|(exfalso;simp_all;omega)) (by decide))
  | exact H.rt (by unfold Ap;rw [WR (by omega),hoR (by omega),dS,av (by decide),dS,av (by decide),jT];rfl)):p:=h
theorem Pw {p:Prop} (h:p:=by
 exact ⟨by omega,ajk hk2 he (by rw [UJ hk2];(repeat' split) <;> first|rfl|(exfalso;simp_all;done)|(exfalso;simp_all;omega))⟩):p:=h
set_option maxHeartbeats 2000000 in
theorem ajN (G:GH) (w0:World) (hG:Hold G w0) (A R:List Int) (va vr:ah) (hva:ak G (.sl 1 (A.map fun k=>[li k])) va) (oF:ak G (.sl 1 (R.map fun k=>[li k])) vr) (hla:A.length<=4294967296) (hlr:R.length<=4294967296) :
  Calls prog 23 #[.agg #[va,vr]] w0 (bE w0 G fun u G'=>u=vi (Ap A R)):=by
 obtain ⟨aA,ac,rfl,ha1,ha2,-⟩:=hva.slice;obtain ⟨rA,rc,rfl,hr1,hr2,-⟩:=oF.slice
 simp only [bQ] at *
 refine eN [(0,_)] func23 rfl ntmps23 rfl rfl hG ?_;intro a H;refine dz (fun _ K1=>?_);refine eB (cs:=[_,_]) H wn rfl rfl rfl ?_;clear H;intro b1 a w hb1 H;refine kH H (aj K1 rfl (SQ fun _ K2=>SQ fun _ K3=>?_));clear H K1;intro a H;obtain ⟨Ga,hma,hb',H⟩:=H.fO;have hga:=fun j v hj=>nu hb' 0 [.slice aA A.length ac,.slice rA R.length rc] rfl j v hj;replace hva:=hva.mono hma;replace oF:=oF.mono hma;refine kP H (SC (Rf Qd rfl (Rg yB rfl (aF (by first|assumption|exact fun _ _ h=>h) (hga 0 _ rfl)) ?_)));clear H;intro a H;refine kH H (Rf Qe rfl (Rg yB rfl (hga 1 _ rfl) ?_));clear H;intro a H;refine iV Y4 yB [_,_] [_,_] H wn rfl rfl rfl rfl rfl (by intro i q h;match i,h with|0,h=>exact h|1,h=>exact h|n+2,h=>simp at h) rfl rfl ?_;clear H;intro b11 a w J9 H;obtain ⟨Gb,hmb,Cn,H⟩:=H.fO;have hgb:=fun j v hj=>nu Cn 0 [.slice aA A.length ac,.slice rA R.length rc] rfl j v hj;replace hva:=hva.mono hmb;replace oF:=oF.mono hmb;refine kH H (Rl Y4 rfl (Rm rfl (Kn K3 (SB ?_))));clear H K3;intro a H;skip;refine fF (ι:=Nat) (Tc:=[(1,_),(11,_),(12,_)]) (Lc:=[]) (fun gh=>[(13,vi gh)]) (fun gh=>[]) (fun gh=>Gb) (fun gh=>gh<=2∧(0 < gh->iW (qY A) A.length=0)∧(1 < gh->iW (qY R) R.length=0)) (fun gh=>2 - gh) (0) (by exact H.sub ⟨rfl,rfl,rfl,rfl,ay⟩) ?_ ?_
 ·exact ⟨by omega,fun h=>absurd h (by decide),fun h=>absurd h (by decide)⟩
 clear H;intro o a w hI H;obtain ⟨ho,WR,hoR⟩:=hI;dsimp only [lca,bM] at H;refine kP H (SR fun _ K4=>Rc rfl (Kz K4 (SQ fun _ K5=>Cd rfl ?_ ?_))) <;> clear H K4
 ·intro dU a H
  try have kU:=dT dU
  have ho2:o < 2:=by omega
  obtain ⟨l,lA,lc,hx,hgl,hvl,hll,hl2⟩:∃ (l:List Int) (lA:Option Addr) (lc:Nat),((o=0∧l=A)∨(o=1∧l=R))∧aI Gb b11 (0+o*1)=some (.slice lA l.length lc)∧ak Gb (.sl 1 (l.map fun k=>[li k])) (.slice lA l.length lc)∧l.length<=lc∧l.length<=4294967296:=by
   match o,ho2 with
   | 0,_=>exact ⟨A,aA,ac,.inl ⟨rfl,rfl⟩,hgb 0 _ rfl,hva,by omega,hla⟩
   | 1,_=>exact ⟨R,rA,rc,.inr ⟨rfl,rfl⟩,hgb 1 _ rfl,oF,by omega,hlr⟩
  refine kP H (Kc K5 (SQ fun _ K6=>SB (SR fun _ K7=>Ri Y4 yB rfl rfl (Rg yB rfl hgl (aj K7 rfl (SR fun _ K8=>Rm rfl (Rl mV rfl (Rm rfl (Kz K8 (SB ?_))))))))));clear H K5 K7 K8;intro a H;skip;refine fF (ι:=Nat) (Tc:=[(1,_),(4,_),(11,_),(12,_),(13,_),(17,_),(18,_)]) (Lc:=[]) (fun gh=>[(19,vi gh)]) (fun gh=>[]) (fun gh=>Gb) (fun gh=>gh<=l.length∧dS (((List.range l.length).map (qY l)).drop gh)=iW (qY l) l.length) (fun gh=>l.length - gh) (0) (by exact H.sub ⟨rfl,rfl,rfl,rfl,rfl,rfl,rfl,rfl,ay⟩) ?_ ?_
  ·exact ⟨by omega,rfl⟩
  clear H;intro k a w hI H;obtain ⟨hk,he⟩:=hI;dsimp only [lca,bM] at H;refine kP H (SR fun _ K9=>Rc rfl (Kz K9 (SQ fun _ aS=>Cd rfl ?_ ?_))) <;> clear H K9
  ·intro h20 a H
   try have II:=dT h20
   have hk2:k < l.length:=by omega
   obtain ⟨bl,ol,rfl,hrow⟩:=Io (f:=fun q=>q) hvl hk2
   replace hrow:aI Gb bl (ol+k*1)=some (vi l[k]):=by rw [Nat.mul_one];exact hrow
   have oD:aI Gb bl (ol+(k - 1)*1)=some (vi (l.getD (k - 1) 0)):=by
    obtain ⟨b',o',e,hr'⟩:=Io (f:=fun q=>q) hvl (show k - 1 < l.length by omega)
    injection e with e
    injection e with e1 e2
    subst e1;subst e2;rw [Nat.mul_one,hr',List.getD_eq_getElem?_getD,eD];rfl
   refine kP H (Kc aS (SQ fun _ bH=>SB (SR fun _ bT=>Rm rfl (Ri mV aG rfl rfl (Rg aG rfl hrow (Ra rfl (aj bT rfl (SB (SR fun _ cK=>Rm rfl (Rc rfl (Rm rfl (Sp 27 rfl ?_ ?_)))))))))))) <;> clear H aS bT
   ·intro h27 a H
    try have p27:=dT h27
    refine kH H (aJ h27 rfl (Pt h27 rfl (aj cK rfl (Ct rfl rfl (SR fun _ dB=>aj dB rfl ?_)))));clear H cK dB;intro a H;refine lr H results23 rfl ?_
    exact GJ
   intro h27 a H
   try have p27:=dF h27
   refine kH H (YM h27 rfl (YC h27 rfl (Pf h27 rfl (aj cK rfl (Cd rfl ?_ ?_))))) <;> clear H cK
   ·intro bS a H
    try have jP:=dT bS
    refine kP H (SR fun _ eU=>aj eU rfl ?_);clear H eU;intro a H;refine lr H results23 rfl ?_
    exact GJ
   intro bS a H
   try have jP:=dF bS
   refine kP H (SR fun _ eX=>Rm rfl (Rc rfl (Rm rfl (Sp 34 rfl ?_ ?_)))) <;> clear H
   ·intro fu a H
    try have p34:=dT fu
    refine kH H (YM fu rfl (YM fu rfl (YM fu rfl ?_)));clear H;intro a H;refine nL _ H (wg H rfl rfl fu) rfl rfl rfl (by omega) (by omega) rfl ?_;clear H;intro a H;rw [show ((k:Int) - 1)=((k - 1:Nat):Int) by omega] at H;refine kH H (YI mV aG fu rfl rfl (YR aG fu rfl oD (YC fu rfl (Pt fu rfl (aj eX rfl (Cd rfl ?_ ?_)))))) <;> clear H eX
    ·intro h31 a H
     try have p31:=dT h31
     refine kP H (SR fun _ eG=>aj eG rfl ?_);clear H eG;intro a H;refine lr H results23 rfl ?_
     exact GJ
    intro h31 a H
    try have p31:=dF h31
    refine kP H (SR fun _ fC=>Rm rfl (Rc rfl (Rm rfl (Sp 46 rfl ?_ ?_)))) <;> clear H
    ·intro h46 a H
     try have p46:=dT h46
     refine kH H (YM h46 rfl (YM h46 rfl (YM h46 rfl ?_)));clear H;intro a H;refine nL _ H (wg H rfl rfl h46) rfl rfl rfl (by omega) (by omega) rfl ?_;clear H;intro a H;rw [show ((k:Int) - 1)=((k - 1:Nat):Int) by omega] at H;refine kH H (YI mV aG h46 rfl rfl (YR aG h46 rfl oD (YC h46 rfl (Pt h46 rfl (aj fC rfl (Cd rfl ?_ ?_)))))) <;> clear H fC
     ·intro h43 a H
      try have p43:=dT h43
      refine kP H (SR fun _ gX=>aj gX rfl ?_);clear H gX;intro a H;refine lr H results23 rfl ?_
      exact GJ
     intro h43 a H
     try have p43:=dF h43
     refine kP H (Kc bH (SC (Rd rfl (Rm rfl ?_))));clear H bH;intro a H;refine aB ?_;refine dJ (k+1) (by exact H.sub ⟨rfl,rfl,rfl,rfl,rfl,rfl,rfl,rfl,ay⟩) ?_
     exact Pw
    intro h46 a H
    try have p46:=dF h46
    refine kH H (aM h46 rfl (aJ h46 rfl (aJ h46 rfl (Pf h46 rfl (aj fC rfl (Cf rfl rfl (Kc bH (SC (Rd rfl (Rm rfl ?_))))))))));clear H fC bH;intro a H;refine aB ?_;refine dJ (k+1) (by exact H.sub ⟨rfl,rfl,rfl,rfl,rfl,rfl,rfl,rfl,ay⟩) ?_
    exact Pw
   intro fu a H
   try have p34:=dF fu
   refine kH H (aM fu rfl (aJ fu rfl (aJ fu rfl (Pf fu rfl (aj eX rfl (Cf rfl rfl (SR fun _ fM=>Rm rfl (Rc rfl (Rm rfl (Sp 46 rfl ?_ ?_)))))))))) <;> clear H eX
   ·intro h46 a H
    try have p46:=dT h46
    refine kH H (YM h46 rfl (YM h46 rfl (YM h46 rfl ?_)));clear H;intro a H;refine nL _ H (wg H rfl rfl h46) rfl rfl rfl (by omega) (by omega) rfl ?_;clear H;intro a H;rw [show ((k:Int) - 1)=((k - 1:Nat):Int) by omega] at H;refine kH H (YI mV aG h46 rfl rfl (YR aG h46 rfl oD (YC h46 rfl (Pt h46 rfl (aj fM rfl (Cd rfl ?_ ?_)))))) <;> clear H fM
    ·intro h43 a H
     try have p43:=dT h43
     refine kP H (SR fun _ iI=>aj iI rfl ?_);clear H iI;intro a H;refine lr H results23 rfl ?_
     exact GJ
    intro h43 a H
    try have p43:=dF h43
    refine kP H (Kc bH (SC (Rd rfl (Rm rfl ?_))));clear H bH;intro a H;refine aB ?_;refine dJ (k+1) (by exact H.sub ⟨rfl,rfl,rfl,rfl,rfl,rfl,rfl,rfl,ay⟩) ?_
    exact Pw
   intro h46 a H
   try have p46:=dF h46
   refine kH H (aM h46 rfl (aJ h46 rfl (aJ h46 rfl (Pf h46 rfl (aj fM rfl (Cf rfl rfl (Kc bH (SC (Rd rfl (Rm rfl ?_))))))))));clear H fM bH;intro a H;refine aB ?_;refine dJ (k+1) (by exact H.sub ⟨rfl,rfl,rfl,rfl,rfl,rfl,rfl,rfl,ay⟩) ?_
   exact Pw
  intro h20 a H
  try have II:=dF h20
  refine eu ?_;refine K6 _ _ ?_;clear K6;refine kP H (SC (Rd rfl (Rm rfl ?_)));clear H;intro a H;refine aB ?_;refine dJ (o+1) (by exact H.sub ⟨rfl,rfl,rfl,rfl,ay⟩) ?_
  exact ⟨by omega,fun _=>by rcases hx with ⟨rfl,rfl⟩|⟨rfl,rfl⟩;exact aaX (by omega) he;exact WR (by decide),fun _=>by rcases hx with ⟨rfl,rfl⟩|⟨rfl,rfl⟩;omega;exact aaX (by omega) he⟩
 intro dU a H
 try have kU:=dF dU
 refine eu ?_;refine K2 _ _ ?_;clear K2;refine kP H (SQ fun _ jH=>SR fun _ mK=>Rf Qd rfl (Rg yB rfl (aF (by first|assumption|exact fun _ _ h=>h) (hga 0 _ rfl)) ?_));clear H;intro a H;refine qd H wn rfl rfl ?_;clear H;intro a H;refine s_call anv H wn rfl (akt _ _ H.ro A _ _ _ hva (ajm (aF hmb (hga 1 _ rfl)) oF hlr) hla) rfl ?_;clear H;rintro v60 G60 a w rfl azb H;refine mK _ _ ?_;clear mK;refine jr H rfl ?_ ?_
 ·intro jT
  try have p60:=dT jT
  refine kP H (SR fun _ mD=>aj mD rfl ?_);clear H mD;intro a H;refine lr H results23 rfl ?_
  exact GJ
 intro jT
 try have p60:=dF jT
 refine kP H (Kc jH (SR fun _ kY=>aj kY rfl ?_));clear H jH kY;intro a H;refine lr H results23 rfl ?_
 exact GJ
theorem ace:aQ 17:=aR func17 rfl
theorem U9:aQ 47:=aR func47 rfl
theorem ahq:Ty prog 43 2 48 [.slice none 0 0,.slice none 0 0] true:=⟨by kernel_rfl,by kernel_rfl⟩
theorem anp:aQ 65:=aR func65 rfl
theorem amw:aQ 23:=aR func23 rfl
theorem Sn:qR prog 43 [(0,1),(1,1)] [.slice none 0 0,.slice none 0 0]:=⟨by kernel_rfl,by kernel_rfl⟩
theorem U5:aQ 22:=aR func22 rfl
theorem anu:aQ 73:=aR func73 rfl
theorem Ma {p:Prop} (h:p:=by
 exact H.rt ⟨E,rfl,hE⟩):p:=h
set_option maxHeartbeats 2000000 in
theorem Y8 {acc rej:Int->Bool} (G:GH) (w0:World) (hG:Hold G w0) (fv:ah) (hf:Di fv G acc rej) (D:jh) (d:gu) (hR:kX G D d) (hs:wz 536870912 d) (hc:iK d=0) :
  Calls prog 47 #[fv,D.val] w0 (bE w0 G fun u G'=>∃ D':jh,u=D'.val∧kX G' D' (nD (iY acc rej d))):=by
 obtain ⟨df,dp,dd,dy,dr,d1,d2,d3,d4,ins,mv⟩:=D;have hok:=NQ (acc:=acc) (rej:=rej) hc;have hfl:=hs.fl;have hhd:=hs.hd;have hz2:Af (iY acc rej d):=(NR hs (by decide) (by decide)).z;obtain ⟨p1,p2,p3,p4⟩:=afs hz2 hok;obtain ⟨hRf,hRh,hRi,hRm,hRr,hRs⟩:=hR;dsimp only at hRi hRm;subst hRi hRm;refine eN [(0,_),(1,_)] func47 rfl ntmps47 rfl rfl hG ?_;intro a H;refine dz (fun _ K1=>?_);refine eB (cs:=[_,_,_,_,_,_,_,_,_,_,_]) H wn rfl rfl rfl ?_;clear H;intro b3 a w hb3 H;refine dP gM H wn rfl ?_;clear H;intro b4 a w hb4 H;refine K1 _ _ ?_;clear K1;refine kP H (SR fun _ K2=>Rm rfl (bO vO kV 1 rfl rfl ?_));clear H;intro a H;refine s_call Vi H wn rfl (agw 536870913 (eP _) _ _ H.ro hf d.flow _ hRf (by omega)) rfl ?_;clear H;rintro v8 G8 a w hv8 rF H;obtain ⟨fA,fn,fc,rfl⟩:=hv8.form;refine kH H (Rf vO rfl ?_);clear H;intro a H;refine bK kV 1 (vs:=[_]) H wn rfl ?_;clear H;intro w H;refine K2 _ _ ?_;clear K2;refine kP H (SR fun _ K3=>Rm rfl (Rf Cj rfl ?_));clear H;intro a H;refine aV dW (cs:=[_,_,_,_,_]) H wn rfl rfl (H.hp.cB 1 rfl rfl) rfl ?_;clear H;intro a H;refine jJ H wn rfl rfl (hf _ _ rF H.ro d.fin _ _ _ (hRh.mono rF) (by omega)) rfl ?_;clear H;rintro v14 Dc a w aqn DV H;obtain ⟨q1,q2,q3,q4,q5,q6,q7,q8,q9,rfl,aqE⟩:=aqn.ans;refine kH H (Rm rfl ?_);clear H;intro a H;(iterate 2 refine mh H wn rfl rfl rfl ?_;clear H;intro a H);refine kH H (Rf Cj rfl ?_);clear H;intro a H;refine bK dW 1 (vs:=[_,_,_,_,_]) H wn rfl ?_;clear H;intro w H;refine K3 _ _ ?_;clear K3;refine dz (fun _ K4=>?_);refine aV gM (cs:=(⟨(fA,fn,fc),(q1,q2,q3),(q4,q5,q6),(q7,q8,q9),dr,d1,d2,d3,d4,(eZ acc rej d.fin).marks.ins,(eZ acc rej d.fin).marks.move⟩:jh).cells) H wn rfl rfl (H.hp.cB 1 rfl rfl) rfl ?_;clear H;intro a H;refine s_call ace H wn rfl (abL _ _ H.ro ⟨(fA,fn,fc),(q1,q2,q3),(q4,q5,q6),(q7,q8,q9),dr,d1,d2,d3,d4,(eZ acc rej d.fin).marks.ins,(eZ acc rej d.fin).marks.move⟩ (iY acc rej d) ⟨hv8.mono DV,aqE,rfl,rfl,hRr.mono (fun b o h=>DV b o (rF b o h)),hRs.mono fun b o h=>DV b o (rF b o h)⟩ hz2 p1 p2 p3 p4) rfl ?_;clear H;rintro v19 I8 a w ⟨E,rfl,hE⟩ tu H;refine bK gM 0 (vs:=[_,_,_,_,_,_,_,_,_,_,_]) H wn rfl ?_;clear H;intro w H;refine K4 _ _ ?_;clear K4;refine dw ?_;refine (leave1 H results47 (.cons (mI gM (cs:=[_,_,_,_,_,_,_,_,_,_,_]) H rfl rfl (H.hp.cB 0 rfl rfl)) .nil) ?_).1;exact Ma
theorem Yh (G:GH) (w0:World) (hG:Hold G w0) (D:jh) (d:gu) (hR:kX G D d) (hs:wz 536870912 d) (hc:iK d=0) :
  Calls prog 14 #[D.val] w0 (bE w0 G fun u G'=>∃ D':jh,u=D'.val∧kX G' D' (nD (iY (fun _=>false) (fun _=>true) d))):=by
 refine eN [(0,_)] func14 rfl ntmps14 rfl rfl hG ?_;intro a H;refine dz (fun _ K1=>?_);refine eB (cs:=[_,_,_,_,_,_,_,_,_,_,_]) H wn rfl rfl rfl ?_;clear H;intro b1 a w hb1 H;refine dP gM H wn rfl ?_;clear H;intro b2 a w hb2 H;refine K1 _ _ ?_;clear K1;refine dz (fun _ K2=>?_);refine aV gM (cs:=[_,_,_,_,_,_,_,_,_,_,_]) H wn rfl rfl (H.hp.cB 1 rfl rfl) rfl ?_;clear H;intro a H;refine s_call U9 H wn rfl (Y8 _ _ H.ro _ (avs _) D d hR hs hc) rfl ?_;clear H;rintro v4 G4 a w ⟨E,rfl,hE⟩ M4 H;refine bK gM 0 (vs:=[_,_,_,_,_,_,_,_,_,_,_]) H wn rfl ?_;clear H;intro w H;refine K2 _ _ ?_;clear K2;refine dw ?_;refine (leave1 H results14 (.cons (mI gM (cs:=[_,_,_,_,_,_,_,_,_,_,_]) H rfl rfl (H.hp.cB 0 rfl rfl)) .nil) ?_).1;exact Ma
theorem Yg (G:GH) (w0:World) (hG:Hold G w0) (D:jh) (d:gu) (hR:kX G D d) (hs:wz 536870912 d) (hc:iK d=0) :
  Calls prog 15 #[D.val] w0 (bE w0 G fun u G'=>∃ D':jh,u=D'.val∧kX G' D' (nD (iY (fun _=>true) (fun _=>false) d))):=by
 refine eN [(0,_)] func15 rfl ntmps15 rfl rfl hG ?_;intro a H;refine dz (fun _ K1=>?_);refine eB (cs:=[_,_,_,_,_,_,_,_,_,_,_]) H wn rfl rfl rfl ?_;clear H;intro b1 a w hb1 H;refine dP gM H wn rfl ?_;clear H;intro b2 a w hb2 H;refine K1 _ _ ?_;clear K1;refine dz (fun _ K2=>?_);refine aV gM (cs:=[_,_,_,_,_,_,_,_,_,_,_]) H wn rfl rfl (H.hp.cB 1 rfl rfl) rfl ?_;clear H;intro a H;refine s_call U9 H wn rfl (Y8 _ _ H.ro _ (avr _) D d hR hs hc) rfl ?_;clear H;rintro v4 G4 a w ⟨E,rfl,hE⟩ M4 H;refine bK gM 0 (vs:=[_,_,_,_,_,_,_,_,_,_,_]) H wn rfl ?_;clear H;intro w H;refine K2 _ _ ?_;clear K2;refine dw ?_;refine (leave1 H results15 (.cons (mI gM (cs:=[_,_,_,_,_,_,_,_,_,_,_]) H rfl rfl (H.hp.cB 0 rfl rfl)) .nil) ?_).1;exact Ma
theorem auC {G:GH} {b:Nat} {A R:List Int} {aA rA:Option Addr} {an ac rn rc:Nat} (hb:G b=some (.cells #[.slice aA an ac,.slice rA rn rc] 43 (0,0))) (hva:ak G (.sl 1 (A.map fun k=>[li k])) (.slice aA an ac)) (oF:ak G (.sl 1 (R.map fun k=>[li k])) (.slice rA rn rc)) (hla:A.length<=4294967296) (hlr:R.length<=4294967296) :
  Di (.func (.func 73) #[] #[(aK b 0)]) G (lsB A) (lsB R):=by
 intro G1 w0 hm hG h p d l hh hz;refine jv (caps:=[(aK b 0)]) anu ?_;have hga:=fun j v hj=>aF hm (nu hb 0 [.slice aA an ac,.slice rA rn rc] rfl j v hj);replace hva:=hva.mono hm;replace oF:=oF.mono hm;obtain ⟨pA,pn,pc,rfl⟩:=hh.props.form;obtain ⟨dA,dn,dc,rfl⟩:=hh.bJ.form;obtain ⟨lA,ln,lc,rfl⟩:=hh.layers.form;refine eN [(0,_),(1,_)] func73 rfl ntmps73 rfl rfl hG ?_;intro a H;refine dz (fun _ K1=>?_);refine eB (cs:=[_,_,_,_,_]) H wn rfl rfl rfl ?_;clear H;intro b2 a w hb2 H;refine dP dW H wn rfl ?_;clear H;intro b3 a w hb3 H;refine kH H (aj K1 rfl (SR fun _ K2=>?_));clear H K1;intro a H;refine aV dW (cs:=[_,_,_,_,_]) H wn rfl rfl (H.hp.cB 1 rfl rfl) rfl ?_;clear H;intro a H;refine aV ahq (cs:=[.slice aA an ac,.slice rA rn rc]) H wn rfl rfl (fun j v hj=>H.hp.aI (hga j v hj)) rfl ?_;clear H;intro a H;refine s_call anp H wn rfl (asU _ _ H.ro A R aA rA an ac rn rc hva oF hla hlr h _ _ _ hh hz) rfl ?_;clear H;rintro v7 G7 a w hd7 yR H;obtain ⟨q1,q2,q3,q4,q5,q6,q7,q8,q9,rfl,AZ⟩:=hd7.ans;(iterate 2 refine mh H wn rfl rfl rfl ?_;clear H;intro a H);refine bK dW 0 (vs:=[_,_,_,_,_]) H wn rfl ?_;clear H;intro w H;refine kH H (aj K2 rfl ?_);clear H K2;intro a H;refine dw ?_;refine (fJ H results73 (.cons (mI dW (cs:=[_,_,_,_,_]) H rfl rfl (H.hp.cB 0 rfl rfl)) (.cons (bB H rfl) .nil)) ?_).1;exact H.rt (sM.Rh AZ)
def ayd:gu:=⟨[],Bz,[],⟨[],[],[],[]⟩⟩
def FE (A R:List Int) (d:gu):gu:=if Ap A R=0 then nD (iY (lsB A) (lsB R) d) else ayd
theorem aaK {p:Prop} (h:p:=by
 first
  | exact H.rt ⟨E,by rw [show Ap A R=0 from by simp_all],by unfold FE;rw [aD (by simp_all)];exact hE⟩
  | exact H.rt ⟨⟨(none,0,0),(none,0,0),(none,0,0),(none,0,0),(none,0,0),(none,0,0),(none,0,0),(none,0,0),(none,0,0),0,0⟩,rfl,by unfold FE;rw [av (by simp_all)];exact ⟨ak.oQ rfl (by decide),aic _,rfl,rfl,ak.oQ rfl (by decide),ak.oQ rfl (by decide),ak.oQ rfl (by decide),ak.oQ rfl (by decide),ak.oQ rfl (by decide)⟩⟩):p:=h
theorem Yi (G:GH) (w0:World) (hG:Hold G w0) (D:jh) (d:gu) (hR:kX G D d) (hs:wz 536870912 d) (hc:iK d=0) (A R:List Int) (va vr:ah) (hva:ak G (.sl 1 (A.map fun k=>[li k])) va) (oF:ak G (.sl 1 (R.map fun k=>[li k])) vr) (hla:A.length<=4294967296) (hlr:R.length<=4294967296) :
  Calls prog 22 #[D.val,.agg #[va,vr]] w0 (bE w0 G fun u G'=>∃ D':jh,u=.tuple #[D'.val,vi (Ap A R)]∧kX G' D' (FE A R d)):=by
 obtain ⟨aA,an,ac,rfl⟩:=hva.form;obtain ⟨rA,rn,rc,rfl⟩:=oF.form;refine eN [(0,_),(1,_)] func22 rfl ntmps22 rfl rfl hG ?_;intro a H;refine dz (fun _ K1=>?_);refine eB (cs:=[_,_,_,_,_,_,_,_,_,_,_]) H wn rfl rfl rfl ?_;clear H;intro b2 a w hb2 H;refine eB (cs:=[_,_]) H wn rfl rfl rfl ?_;clear H;intro b3 a w hb3 H;refine dP gM H wn rfl ?_;clear H;intro b4 a w hb4 H;refine kH H (aj K1 rfl (SQ fun _ K2=>SQ fun _ K3=>?_));clear H K1;intro a H;have H:=H.fG (Pl:=[_,_,_]) (eH:=[_,_,_]) [1,0,2] (by decide) rfl;obtain ⟨Ga,hma,hb',H⟩:=H.fO;have hga:=fun j v hj=>nu hb' 0 [.slice aA an ac,.slice rA rn rc] rfl j v hj;replace hva:=hva.mono hma;replace oF:=oF.mono hma;replace hR:=hR.mono hma;refine pV ?_;refine aV ahq (cs:=[.slice aA an ac,.slice rA rn rc]) H wn rfl rfl (fun j v hj=>H.hp.aI (hga j v hj)) rfl ?_;clear H;intro a H;refine s_call amw H wn rfl (ajN _ _ H.ro A R _ _ hva oF hla hlr) rfl ?_;clear H;rintro v8 G8 a w rfl rF H;refine kH H (bG K3 rfl (SR fun _ K4=>Rm rfl (Rc rfl (Kz K4 (Cd rfl ?_ ?_))))) <;> clear H K3 K4
 ·intro h10 a H
  try have jd:=dT h10
  refine dz (fun _ K5=>?_);refine jF YH [_,_,_,_,_,_,_,_,_,_,_] H wn rfl rfl rfl rfl ?_;clear H;intro a H;refine kH H (Rm rfl ?_);clear H;intro a H;refine bK gM 0 (vs:=[_,_,_,_,_,_,_,_,_,_,_]) H wn rfl ?_;clear H;intro w H;refine kH H (aj K5 rfl ?_);clear H K5;intro a H;refine dw ?_;refine (fJ H results22 (.cons (mI gM (cs:=[_,_,_,_,_,_,_,_,_,_,_]) H rfl rfl (H.hp.cB 0 rfl rfl)) (.cons (bB H rfl) .nil)) ?_).1
  exact aaK
 intro h10 a H
 try have jd:=dF h10
 refine iG ?_;refine K2 _ _ ?_;clear K2;refine dz (fun _ K6=>?_);refine qd H wn rfl rfl ?_;clear H;intro a H;refine aV gM (cs:=[_,_,_,_,_,_,_,_,_,_,_]) H wn rfl rfl (H.hp.cB 1 rfl rfl) rfl ?_;clear H;intro a H;refine s_call U9 H wn rfl (Y8 _ _ H.ro _ (auC (rF _ _ hb') (hva.mono rF) (oF.mono rF) hla hlr) D d (hR.mono rF) hs hc) rfl ?_;clear H;rintro v15 Df a w ⟨E,rfl,hE⟩ A9 H;refine bK gM 0 (vs:=[_,_,_,_,_,_,_,_,_,_,_]) H wn rfl ?_;clear H;intro w H;refine kH H (aj K6 rfl ?_);clear H K6;intro a H;refine dw ?_;refine (fJ H results22 (.cons (mI gM (cs:=[_,_,_,_,_,_,_,_,_,_,_]) H rfl rfl (H.hp.cB 0 rfl rfl)) (.cons (bB H rfl) .nil)) ?_).1
 exact aaK
theorem aiD (G:GH) (w0:World) (hG:Hold G w0) (D:jh) (d:gu) (hR:kX G D d) (hs:wz 536870912 d) (hc:iK d=0) (A:List Int) (va:ah) (hva:ak G (.sl 1 (A.map fun k=>[li k])) va) (hla:A.length<=4294967296) :
  Calls prog 24 #[D.val,va] w0 (bE w0 G fun u G'=>∃ D':jh,u=.tuple #[D'.val,vi (Ap A [])]∧kX G' D' (FE A [] d)):=by
 obtain ⟨aA,an,ac,rfl⟩:=hva.form;refine eN [(0,_),(1,_)] func24 rfl ntmps24 rfl rfl hG ?_;intro a H;refine dz (fun _ K1=>?_);refine eB (cs:=[_,_,_,_,_,_,_,_,_,_,_]) H wn rfl rfl rfl ?_;clear H;intro b2 a w hb2 H;refine dP gM H wn rfl ?_;clear H;intro b4 a w hb4 H;refine kH H (aj K1 rfl (SR fun _ K2=>?_));clear H K1;intro a H;refine aV gM (cs:=[_,_,_,_,_,_,_,_,_,_,_]) H wn rfl rfl (H.hp.cB 1 rfl rfl) rfl ?_;clear H;intro a H;refine kH H (Rm rfl ?_);clear H;intro a H;refine jF Sn [_,_] H wn rfl rfl rfl rfl ?_;clear H;intro a H;refine s_call U5 H wn rfl (Yi _ _ H.ro D d hR hs hc A [] _ _ hva (ak.oQ rfl (by decide)) hla (by decide)) rfl ?_;clear H;rintro v9 G9 a w ⟨E,rfl,hE⟩ yS H;(iterate 2 refine mh H wn rfl rfl rfl ?_;clear H;intro a H);refine bK gM 0 (vs:=[_,_,_,_,_,_,_,_,_,_,_]) H wn rfl ?_;clear H;intro w H;refine kH H (aj K2 rfl ?_);clear H K2;intro a H;refine dw ?_;refine (fJ H results24 (.cons (mI gM (cs:=[_,_,_,_,_,_,_,_,_,_,_]) H rfl rfl (H.hp.cB 0 rfl rfl)) (.cons (bB H rfl) .nil)) ?_).1;exact Ma
theorem auN (G:GH) (w0:World) (hG:Hold G w0) (D:jh) (d:gu) (hR:kX G D d) (hs:wz 536870912 d) (hc:iK d=0) (A:List Int) (va:ah) (hva:ak G (.sl 1 (A.map fun k=>[li k])) va) (hla:A.length<=4294967296) :
  Calls prog 25 #[D.val,va] w0 (bE w0 G fun u G'=>∃ D':jh,u=.tuple #[D'.val,vi (Ap [] A)]∧kX G' D' (FE [] A d)):=by
 obtain ⟨aA,an,ac,rfl⟩:=hva.form;refine eN [(0,_),(1,_)] func25 rfl ntmps25 rfl rfl hG ?_;intro a H;refine dz (fun _ K1=>?_);refine eB (cs:=[_,_,_,_,_,_,_,_,_,_,_]) H wn rfl rfl rfl ?_;clear H;intro b2 a w hb2 H;refine dP gM H wn rfl ?_;clear H;intro b4 a w hb4 H;refine kH H (aj K1 rfl (SR fun _ K2=>?_));clear H K1;intro a H;refine aV gM (cs:=[_,_,_,_,_,_,_,_,_,_,_]) H wn rfl rfl (H.hp.cB 1 rfl rfl) rfl ?_;clear H;intro a H;refine kH H (Rm rfl ?_);clear H;intro a H;refine jF Sn [_,_] H wn rfl rfl rfl rfl ?_;clear H;intro a H;refine s_call U5 H wn rfl (Yi _ _ H.ro D d hR hs hc [] A _ _ (ak.oQ rfl (by decide)) hva (by decide) hla) rfl ?_;clear H;rintro v9 G9 a w ⟨E,rfl,hE⟩ yS H;(iterate 2 refine mh H wn rfl rfl rfl ?_;clear H;intro a H);refine bK gM 0 (vs:=[_,_,_,_,_,_,_,_,_,_,_]) H wn rfl ?_;clear H;intro w H;refine kH H (aj K2 rfl ?_);clear H K2;intro a H;refine dw ?_;refine (fJ H results25 (.cons (mI gM (cs:=[_,_,_,_,_,_,_,_,_,_,_]) H rfl rfl (H.hp.cB 0 rfl rfl)) (.cons (bB H rfl) .nil)) ?_).1;exact Ma
section
section
variable {N:Nat} {D:List Deferred} {w0:World} {F:Nat->Prop} {G0 G G1 G2:GH} {L L1 L2:OL} {T Xs:List (Nat × ah)}
variable {r:Option Nat} {P:Program} {Q:Exit->Act->World->Prop} {l:List Oper} {a a':Act} {w w':World}
end
end
section
theorem sM.mono {acc rej:Int->Bool} {h:dN} {u:ah} {G G':GH} (hm:∀ b o,G b=some o->G' b=some o) (hd:sM acc rej h u G):sM acc rej h u G':=by
 unfold sM at hd |-
 split
 ·rename_i hg
  rw [aD hg] at hd;obtain ⟨p,d,l,e,hh⟩:=hd;exact ⟨p,d,l,e,hh.mono hm⟩
 rename_i hg
 rw [av hg] at hd;obtain ⟨p,d,l,e,hh⟩:=hd;exact ⟨p,d,l,e,hh.mono hm⟩
structure OJ (G:GH) (A R:List Int) (va vr:ah):Prop where
 ha:ak G (.sl 1 (A.map fun k=>[li k])) va
 hr:ak G (.sl 1 (R.map fun k=>[li k])) vr
 la:A.length<=4294967296
 lr:R.length<=4294967296
theorem OJ.mono {G G':GH} {A R:List Int} {va vr:ah} (hm:∀ b o,G b=some o->G' b=some o) (h:OJ G A R va vr):OJ G' A R va vr:=⟨h.ha.mono hm,h.hr.mono hm,h.la,h.lr⟩
variable {A R:List Int} {aA rA:Option Addr} {an ac rn rc:Nat}
end

theorem Now.up {α:Type} {xs:List AP} {P:α->AP} {J:Nat->GH->OL->Prop} {je j:Nat} {A:List α} {g g':GH} {L:OL} (h:Now xs P J je j A g L) (zM:FZ J) (hm:∀ b o,g b=some o->g' b=some o):Now xs P J je j A g' L:=⟨zM _ _ _ _ hm h.now,h.rem,h.len⟩



def aeS (k:Int):List Dat:=[li k]
theorem asl (G:GH) (k:Int):bD G (aeS k) [vi k]:=by
 simp only [aeS,bD]
 exact ⟨_,_,rfl,by simp [ak,Value.oneCell'],rfl⟩
theorem axU (l m:List au):dx (l++m)=dx l+dx m:=by simp [dx,KV]

def acT (t:Int) (a:Nat × au):Bool:=decide ((a.1:Int)+jL a.2<=t)
def lA (t:Int) (A:List (Nat × au)):List au:=(A.filter (acT t)).map (·.2)
def rA (t:Int) (A:List (Nat × au)):List au:=(A.filter fun a=>!acT t a).map (·.2)
def Z9 (l:List au):Prop:=∀ (k:Nat) (h:k+1 < l.length),¬ (l[k].kind=1∧l[k+1].kind=1∧l[k].head=l[k+1].head)
theorem Z9.one {l:List au} (h:l.length<=1):Z9 l:=fun k hk=>by omega


theorem Zf:∀ {m l:List au},m.Sublist l->dx m<=dx l
 | _,_,.slnil=>eP _
 | _,_,.cons a h=>by have:=Zf h;simp only [dx,fH,fB] at *;omega
 | _,_,.cons_cons a h=>by have:=Zf h;simp only [dx,fH,fB] at *;omega
theorem Vg:aQ 95:=aR func95 rfl
theorem amn:aQ 21:=aR func21 rfl
abbrev Dn (b:Nat) (n:Int):Nat × Obj:=(b,.cells #[vi n] 3 (0,0))
def SmQ (bl:Nat) (left:Int) (z:Nat) (u:ah) (_:GH) (L':OL):Prop:=∃ b lf,u=.bool b∧L'=[Dn bl lf]∧left - (z:Int)<=lf∧lf<=left
def TJ (n:Nat):Prop:=∀ (G:GH) (w0:World) (l:List au) (v:ah) (KE left:Int) (bl:Nat),gY G [Dn bl left] w0->ak G (.sl 11 (l.map au.dat)) v->dx l < n->0<=KE->KE<=1000->left<=1000->-1000000000000<=left - (dx l:Int) ->
 Calls prog 95 #[v,vi KE,(aK bl 0)] w0 (gF w0 G [Dn bl left] (SmQ bl left (dx l)))
theorem ahX (l m:List aU):iO (l++m)=iO l+iO m:=by simp [iO,KV]
theorem ahT (l m:List aX):jk (l++m)=jk l+jk m:=by simp [jk,KV]
theorem axV {l:List au} {k:Nat} (h:k < l.length):dx (l.take (k+1))=dx (l.take k)+(1+cZ l[k].dat):=by rw [kg h,axU];simp [dx,fB]
theorem axW {l:List aU} {k:Nat} (h:k < l.length):iO (l.take (k+1))=iO (l.take k)+(1+cZ l[k].dat):=by rw [kg h,ahX];simp [iO,fB]
theorem axT {l:List aX} {k:Nat} (h:k < l.length):jk (l.take (k+1))=jk (l.take k)+(1+cZ l[k].dat):=by rw [kg h,ahT];simp [jk,fB]
theorem ahW (l:List au) (k:Nat):dx (l.take k)<=dx l:=Zf (List.take_sublist k l)
theorem ahZ (l:List aU) (k:Nat):iO (l.take k)<=iO l:=by
 have:=ahX (l.take k) (l.drop k);rw [List.take_append_drop] at this;omega
theorem ahV (l:List aX) (k:Nat):jk (l.take k)<=jk l:=by
 have:=ahT (l.take k) (l.drop k);rw [List.take_append_drop] at this;omega
set_option maxHeartbeats 4000000 in
theorem awP {n:Nat} (ih:TJ n) (hn:n<=4294967296):TJ (n+1):=by
 intro G w0 l v KE left bl hO hv hz hl0 hl1 hf1 hf0;obtain ⟨A,c,rfl,hc1,hc2,hg⟩:=hv.slice;rw [bQ] at *;have hll:=Ll l;refine jD (N:=133) (T:=[(0,_),(1,_),(2,_)]) func95 rfl ntmps95 rfl rfl hO ?_;intro a H;refine kP H (SR fun _ K1=>aj K1 rfl (SQ fun _ K2=>SR fun _ K3=>aj K3 rfl (SB ?_)));clear H K1 K3;intro a H;skip;refine fF (ι:=Nat × Int × GH) (Tc:=[(0,_),(1,_),(2,_)]) (Lc:=[]) (fun gh=>[(7,vi gh.1)]) (fun gh=>[Dn bl gh.2.1]) (fun gh=>gh.2.2) (fun gh=>gh.1<=l.length∧left - (dx (l.take gh.1):Int)<=gh.2.1∧gh.2.1<=left∧(∀ b o,G b=some o->gh.2.2 b=some o)) (fun gh=>l.length - gh.1) ((0,left,G)) (by exact H.sub ⟨rfl,rfl,rfl,rfl,ay⟩) ?_ ?_
 ·exact ⟨by omega,by show left - ((0:Nat):Int)<=left;omega,Int.le_refl _,fun _ _ h=>h⟩
 clear H;rintro ⟨k,lf,g⟩ a w hI H;dsimp only at hI H;obtain ⟨hk,hlo,hhi,hgm⟩:=hI;have hzk:=ahW l k;dsimp only [lca,bM] at H;refine kP H (SQ fun _ K4=>SR fun _ K5=>Rm rfl (Rm rfl (Rl jo rfl (Rc rfl (Kz K5 (Cd rfl ?_ ?_)))))) <;> clear H K5
 ·intro gL a H
  try have sG:=dT gL
  have hk2:k < l.length:=by omega
  obtain ⟨b,o,pA,pn,pc,dA,dn,dc,yA,yn,yc,fA,fn,fc,rA,rn,rc,rfl,hrow,hhd,hfl,hrw⟩:=JX hk2 hg;have hrn:=hrw.len;rw [bQ] at hrn;subst hrn;have r3:aI g b (o+k*11+3)=some (.string l[k].text):=aF hgm (hrow 3 _ rfl);have r4:aI g b (o+k*11+4+0)=some (.slice pA pn pc):=aF hgm (hrow 4 _ rfl);have r9:aI g b (o+k*11+9)=some (.slice fA fn fc):=aF hgm (hrow 9 _ rfl);have Yf:aI g b (o+k*11+10)=some (.slice rA l[k].rows.length rc):=aF hgm (hrow 10 _ rfl);have hzi:=Ac l[k];have hzs:=axV hk2;have hzt:=ahW l (k+1);refine kP H (Kc K4 (SQ fun _ K6=>SB (SR fun _ K7=>Rm rfl (Rk rfl (Ro aG 0 rfl (Rs rfl (Rk rfl ?_)))))));clear H K4;intro a H;refine bK aG 0 (vs:=[_]) H wn rfl ?_;clear H;intro w H;refine K7 _ _ ?_;clear K7;refine kP H (SQ fun _ K8=>SR fun _ K9=>Rm rfl (Rk rfl (Ro aG 0 rfl (Rc rfl (Rm rfl (Sp 25 rfl ?_ ?_)))))) <;> clear H
  ·intro kS a H
   try have p25:=dT kS
   refine kH H (aJ kS rfl (Pt kS rfl (Rm rfl (aM rfl rfl (aJ rfl rfl (aJ rfl rfl (Pt rfl rfl (Rm rfl (aM rfl rfl (aM rfl rfl (aJ rfl rfl (Pt rfl rfl (Rm rfl (aM rfl rfl (aJ rfl rfl (aJ rfl rfl (Pt rfl rfl (Rm rfl (aM rfl rfl (aM rfl rfl (aJ rfl rfl (aJ rfl rfl ?_))))))))))))))))))))));clear H;intro a H;exact kH H (Pt rfl rfl (Kz K9 (Ct rfl rfl (SR fun _ aS=>aj aS rfl (LR results95 rfl fun H=>H.hp.gT ⟨_,_,rfl,rfl,by omega,by omega⟩)))))
  intro kS a H
  try have p25:=dF kS
  refine kH H (YM kS rfl (YC kS rfl (Pf kS rfl (Rm rfl (Sp 29 rfl ?_ ?_))))) <;> clear H
  ·intro iB a H
   try have p29:=dT iB
   refine kH H (aM iB rfl (aJ iB rfl (aJ iB rfl (Pt iB rfl (Rm rfl (aM rfl rfl (aM rfl rfl (aJ rfl rfl (Pt rfl rfl (Rm rfl (aM rfl rfl (aJ rfl rfl (aJ rfl rfl (Pt rfl rfl (Rm rfl (aM rfl rfl (aM rfl rfl (aJ rfl rfl (aJ rfl rfl (Pt rfl rfl (Kz K9 ?_)))))))))))))))))))));clear H K9;intro a H;refine Ce H rfl rfl ?_;exact kP H (SR fun _ bH=>aj bH rfl (LR results95 rfl fun H=>H.hp.gT ⟨_,_,rfl,rfl,by omega,by omega⟩))
  intro iB a H
  try have p29:=dF iB
  refine kH H (YM iB rfl (YM iB rfl (YI jo gN iB rfl rfl (YF vP iB rfl (YR iR iB rfl (by assumption) ?_)))));clear H;intro a H;refine FJ iT H (wg H rfl rfl iB) rfl rfl ?_;clear H;intro a H;refine kH H (YC iB rfl (Pf iB rfl (Rm rfl (Sp 38 rfl ?_ ?_)))) <;> clear H
  ·intro fT a H
   try have p38:=dT fT
   exact kH H (aM fT rfl (aM fT rfl (aJ fT rfl (Pt fT rfl (Rm rfl (aM rfl rfl (aJ rfl rfl (aJ rfl rfl (Pt rfl rfl (Rm rfl (aM rfl rfl (aM rfl rfl (aJ rfl rfl (aJ rfl rfl (Pt rfl rfl (Kz K9 (Ct rfl rfl (SR fun _ bT=>aj bT rfl (LR results95 rfl fun H=>H.hp.gT ⟨_,_,rfl,rfl,by omega,by omega⟩)))))))))))))))))))
  intro fT a H
  try have p38:=dF fT
  refine kH H (YM fT rfl (YM fT rfl (YI jo gN fT rfl rfl (YF wK fT rfl (YF yL fT rfl (YR tK fT rfl (by assumption) ?_))))));clear H;intro a H;refine kH H (YL gU fT rfl (YC fT rfl (Pf fT rfl (Rm rfl (Sp 48 rfl ?_ ?_))))) <;> clear H
  ·intro h48 a H
   try have p48:=dT h48
   exact kH H (aM h48 rfl (aJ h48 rfl (aJ h48 rfl (Pt h48 rfl (Rm rfl (aM rfl rfl (aM rfl rfl (aJ rfl rfl (aJ rfl rfl (Pt rfl rfl (Kz K9 (Ct rfl rfl (SR fun _ cK=>aj cK rfl (LR results95 rfl fun H=>H.hp.gT ⟨_,_,rfl,rfl,by omega,by omega⟩))))))))))))))
  intro h48 a H
  try have p48:=dF h48
  refine kH H (YM h48 rfl (YM h48 rfl (YI jo gN h48 rfl rfl (YF um h48 rfl (YR uE h48 rfl (by assumption) ?_)))));clear H;intro a H;refine kH H (YL nM h48 rfl (YC h48 rfl (Pf h48 rfl (Rm rfl (Sp 57 rfl ?_ ?_))))) <;> clear H
  ·intro h57 a H
   try have p57:=dT h57
   exact kH H (aM h57 rfl (aM h57 rfl (aJ h57 rfl (aJ h57 rfl (Pt h57 rfl (Kz K9 (Ct rfl rfl (SR fun _ dB=>aj dB rfl (LR results95 rfl fun H=>H.hp.gT ⟨_,_,rfl,rfl,by omega,by omega⟩)))))))))
  intro h57 a H
  try have p57:=dF h57
  refine kH H (YM h57 rfl (YM h57 rfl (YI jo gN h57 rfl rfl (YF zK h57 rfl (YR kV h57 rfl (by assumption) ?_)))));clear H;intro a H;refine kH H (YM h57 rfl ?_);clear H;intro a H;refine nL _ H (wg H rfl rfl h57) rfl rfl rfl (by omega) (by omega) rfl ?_;clear H;intro a H;refine kH H (YM h57 rfl ?_);clear H;intro a H;refine iE Vg (Li:=[]) (L:=[Dn bl _]) H (wg H rfl rfl h57) rfl (ih _ _ l[k].flow _ (KE - 1) _ bl (Hp.owns (Li:=[]) H.hp) (hfl.mono hgm) (by omega) (by omega) (by omega) (by omega) (by omega)) rfl ?_;clear H;rintro v66 G66 L66 a w ⟨b66,lf66,rfl,rfl,ayX,ayV⟩ adX H;dsimp only [List.nil_append] at H;replace Yf:=aF adX Yf;have aqD:=fun b o h=>adX b o (hgm b o h);refine kH H (YN h57 rfl (Pf h57 rfl (Kz K9 (Cd rfl ?_ ?_)))) <;> clear H K9
  ·intro h68 a H
   try have p68:=dT h68
   exact kP H (SR fun _ eU=>aj eU rfl (LR results95 rfl fun H=>H.hp.gT ⟨_,_,rfl,rfl,by omega,by omega⟩))
  intro h68 a H
  try have p68:=dF h68
  refine kP H (Kc K8 (SR fun _ eX=>aj eX rfl (SB ?_)));clear H K8 eX;intro a H;skip;refine fF (ι:=Nat × Int × GH) (Tc:=[(0,_),(1,_),(2,_),(7,_)]) (Lc:=[]) (fun gh=>[(8,vi gh.1)]) (fun gh=>[Dn bl gh.2.1]) (fun gh=>gh.2.2) (fun gh=>gh.1<=l[k].rows.length∧lf66 - (iO (l[k].rows.take gh.1):Int)<=gh.2.1∧gh.2.1<=lf66∧(∀ b o,G b=some o->gh.2.2 b=some o)∧aI gh.2.2 b (o+k*11+10)=some (.slice rA l[k].rows.length rc)) (fun gh=>l[k].rows.length - gh.1) ((0,lf66,G66)) (by exact H.sub ⟨rfl,rfl,rfl,rfl,rfl,ay⟩) ?_ ?_
  ·exact ⟨by omega,by show lf66 - ((0:Nat):Int)<=lf66;omega,Int.le_refl _,aqD,Yf⟩
  clear H;rintro ⟨j,lf2,g2⟩ a w hI H;dsimp only at hI H;obtain ⟨hj,hlo2,hhi2,lT,q10⟩:=hI;have azm:=ahZ l[k].rows j;dsimp only [lca,bM] at H;refine kP H (SQ fun _ eG=>SR fun _ fC=>Rm rfl (Rm rfl (Rm rfl (Ri jo gN rfl rfl (Rf um rfl (Rg uE rfl (by assumption) ?_))))));clear H;intro a H;refine kH H (Rl nM rfl (Rc rfl (Kz fC (Cd rfl ?_ ?_)))) <;> clear H fC
  ·intro DI a H
   try have X9:=dT DI
   have hj2:j < l[k].rows.length:=by omega
   obtain ⟨b2,o2,uA,un,uc,eA,en,ec,zA,zn,zc,cA,cn,cc,rfl,hrow2,Ii,hcl⟩:=RZ hj2 (hrw.mono lT).at_;have hcn:=hcl.len;rw [bQ] at hcn;subst hcn;have t5:aI g2 b2 (o2+j*6+5)=some (.slice cA l[k].rows[j].cells.length cc):=hrow2 5 _ rfl;have azk:=Es l[k].rows[j];have azo:=axW hj2;have azq:=ahZ l[k].rows (j+1);refine kP H (Kc eG (SQ fun _ gX=>SB (SQ fun _ fM=>SR fun _ iI=>Rm rfl (Rm rfl (Ri jo gN rfl rfl (Rf um rfl (Rg uE rfl (by assumption) ?_)))))));clear H eG;intro a H;refine kH H (Rm rfl (Ri nM jG rfl rfl (Rf yN rfl (Rg zm rfl (by assumption) ?_))));clear H;intro a H;refine kH H (Rl qj rfl (Rc rfl (Kz iI (Cd rfl ?_ ?_)))) <;> clear H iI
   ·intro VQ a H
    try have p89:=dT VQ
    exact kP H (SR fun _ jH=>aj jH rfl (LR results95 rfl fun H=>H.hp.gT ⟨_,_,rfl,rfl,by omega,by omega⟩))
   intro VQ a H
   try have p89:=dF VQ
   refine kP H (Kc fM (SR fun _ mK=>aj mK rfl (SB ?_)));clear H fM mK;intro a H;skip;refine fF (ι:=Nat × Int × GH) (Tc:=[(0,_),(1,_),(2,_),(7,_),(8,_)]) (Lc:=[]) (fun gh=>[(9,vi gh.1)]) (fun gh=>[Dn bl gh.2.1]) (fun gh=>gh.2.2) (fun gh=>gh.1<=l[k].rows[j].cells.length∧lf2 - (jk (l[k].rows[j].cells.take gh.1):Int)<=gh.2.1∧gh.2.1<=lf2∧(∀ b o,G b=some o->gh.2.2 b=some o)∧aI gh.2.2 b (o+k*11+10)=some (.slice (some ⟨b2,o2,none⟩) l[k].rows.length rc)∧aI gh.2.2 b2 (o2+j*6+5)=some (.slice cA l[k].rows[j].cells.length cc)∧(∀ b o,g2 b=some o->gh.2.2 b=some o)) (fun gh=>l[k].rows[j].cells.length - gh.1) ((0,lf2,g2)) (by exact H.sub ⟨rfl,rfl,rfl,rfl,rfl,rfl,ay⟩) ?_ ?_
   ·exact ⟨by omega,by show lf2 - ((0:Nat):Int)<=lf2;omega,Int.le_refl _,lT,q10,t5,fun _ _ h=>h⟩
   clear H;rintro ⟨m,lf3,g3⟩ a w hI H;dsimp only at hI H;obtain ⟨hm,hlo3,hhi3,xU,s10,s5,adO⟩:=hI;have azn:=ahV l[k].rows[j].cells m;dsimp only [lca,bM] at H;refine kP H (SQ fun _ mD=>SR fun _ kY=>Rm rfl (Rm rfl (Rm rfl (Ri jo gN rfl rfl (Rf um rfl (Rg uE rfl (by assumption) ?_))))));clear H;intro a H;refine kH H (Rm rfl (Ri nM jG rfl rfl (Rf yN rfl (Rg zm rfl (by assumption) ?_))));clear H;intro a H;refine kH H (Rl qj rfl (Rc rfl (Kz kY (Cd rfl ?_ ?_)))) <;> clear H kY
   ·intro VB a H
    try have atP:=dT VB
    have hm2:m < l[k].rows[j].cells.length:=by omega
    obtain ⟨b3,o3,x1,x2,x3,x4,x5,x6,x7,x8,x9,gA,gn,gc,rfl,hrow3,hch,hcf⟩:=PE hm2 (hcl.mono adO).at_;have u6:aI g3 b3 (o3+m*7+6)=some (.slice gA gn gc):=hrow3 6 _ rfl;have azl:=Er l[k].rows[j].cells[m];have azp:=axT hm2;have azr:=ahV l[k].rows[j].cells (m+1);refine kP H (Kc mD (SQ fun _ om=>SB (SR fun _ oq=>Rm rfl (Rk rfl (Ro aG 0 rfl (Rs rfl (Rk rfl ?_)))))));clear H mD;intro a H;refine bK aG 0 (vs:=[_]) H wn rfl ?_;clear H;intro w H;refine oq _ _ ?_;clear oq;refine kP H (SR fun _ kZ=>Rm rfl (Rk rfl (Ro aG 0 rfl (Rc rfl (Rm rfl (Sp 113 rfl ?_ ?_)))))) <;> clear H
    ·intro ny a H
     try have atT:=dT ny
     exact kH H (aM ny rfl (aM ny rfl (aM ny rfl (aM ny rfl (aM ny rfl (aM ny rfl (Pt ny rfl (Kz kZ (Ct rfl rfl (SR fun _ qm=>aj qm rfl (LR results95 rfl fun H=>H.hp.gT ⟨_,_,rfl,rfl,by omega,by omega⟩)))))))))))
    intro ny a H
    try have atT:=dF ny
    refine kH H (YM ny rfl (YM ny rfl (YI jo gN ny rfl rfl (YF um ny rfl (YR uE ny rfl (by assumption) ?_)))));clear H;intro a H;refine kH H (YM ny rfl (YI nM jG ny rfl rfl (YF yN ny rfl (YR zm ny rfl (by assumption) ?_))));clear H;intro a H;refine kH H (YM ny rfl (YI qj kE ny rfl rfl (YF EO ny rfl (YR kV ny rfl (by assumption) ?_))));clear H;intro a H;refine kH H (YM ny rfl ?_);clear H;intro a H;refine nL _ H (wg H rfl rfl ny) rfl rfl rfl (by omega) (by omega) rfl ?_;clear H;intro a H;refine kH H (YM ny rfl ?_);clear H;intro a H;refine iE Vg (Li:=[]) (L:=[Dn bl _]) H (wg H rfl rfl ny) rfl (ih _ _ l[k].rows[j].cells[m].flow _ (KE - 1) _ bl (Hp.owns (Li:=[]) H.hp) hcf (by omega) (by omega) (by omega) (by omega) (by omega)) rfl ?_;clear H;rintro v130 aij ayl a w ⟨ayq,asG,rfl,rfl,ayW,ayU⟩ QA H;dsimp only [List.nil_append] at H;refine kH H (YN ny rfl (Pf ny rfl (Kz kZ (Cd rfl ?_ ?_)))) <;> clear H kZ
    ·intro ET a H
     try have afT:=dT ET
     exact kP H (SR fun _ qD=>aj qD rfl (LR results95 rfl fun H=>H.hp.gT ⟨_,_,rfl,rfl,by omega,by omega⟩))
    intro ET a H
    try have afT:=dF ET
    refine kP H (Kc om (SC (Rm rfl (Rd rfl (Ra rfl ?_)))));clear H om;intro a H;refine aB ?_;refine dJ ((m+1,asG,aij)) (by exact H.sub ⟨rfl,rfl,rfl,rfl,rfl,rfl,ay⟩) ?_
    (try dsimp only);exact ⟨by omega,by omega,by omega,fun b o h=>QA b o (xU b o h),aF QA s10,aF QA s5,fun b o h=>QA b o (adO b o h)⟩
   intro VB a H
   try have atP:=dF VB
   refine eu ?_;refine gX _ _ ?_;clear gX;refine kP H (SC (Rm rfl (Rd rfl (Ra rfl ?_))));clear H;intro a H;refine aB ?_;refine dJ ((j+1,lf3,g3)) (by exact H.sub ⟨rfl,rfl,rfl,rfl,rfl,ay⟩) ?_
   (try dsimp only);exact ⟨by omega,by omega,by omega,xU,s10⟩
  intro DI a H
  try have X9:=dF DI
  refine eu ?_;refine K6 _ _ ?_;clear K6;refine kP H (SC (Rm rfl (Rd rfl (Ra rfl ?_))));clear H;intro a H;refine aB ?_;refine dJ ((k+1,lf2,g2)) (by exact H.sub ⟨rfl,rfl,rfl,rfl,ay⟩) ?_
  (try dsimp only);exact ⟨by omega,by omega,by omega,lT⟩
 intro gL a H
 try have sG:=dF gL
 refine eu ?_;refine K2 _ _ ?_;clear K2;exact kP H (SR fun _ qP=>aj qP rfl (LR results95 rfl fun H=>H.hp.gT ⟨_,_,rfl,rfl,by omega,by omega⟩))
theorem agU:∀ n:Nat,n<=4294967296->TJ n
 | 0,_=>fun _ _ _ _ _ _ _ _ _ hz=>absurd hz (Nat.not_lt_zero _)
 | n+1,h=>awP (agU n (by omega)) (by omega)
theorem awN (G:GH) (w0:World) (hG:Hold G w0) (D:jh) (d:gu) (hR:kX G D d) (hz:Af d) :
  Calls prog 45 #[D.val] w0 (bE w0 G fun u G'=>∃ b,u=.bool b∧(b=true->iK d=0)):=by
 have Nu:=hz.fl;refine eN [(0,_)] func45 rfl ntmps45 rfl rfl hG ?_;intro a H;refine dz (fun _ K1=>?_);refine eB (cs:=[_,_,_,_,_,_,_,_,_,_,_]) H wn rfl rfl rfl ?_;clear H;intro b1 a w hb1 H;refine kH H (aj K1 rfl (SQ fun _ K2=>?_));clear H K1;intro a H;obtain ⟨Ga,hma,hb1',H⟩:=H.fO;have hga:=fun j v hj=>nu hb1' 0 D.cells rfl j v hj;have hgs:=fun j v hj=>nu hb1' 7 [aW D.s1,aW D.s2,aW D.s3,aW D.s4] rfl j v hj
 have hgr:aI Ga b1 6=some (aW D.r):=by unfold aI;rw [hb1'];rfl
 have hgf:aI Ga b1 0=some (aW D.f):=by unfold aI;rw [hb1'];rfl
 replace hR:=hR.mono hma;refine pV ?_;refine dP aG H wn rfl ?_;clear H;intro b3 a w hb3 H;refine bK aG 0 (vs:=[_]) H wn rfl ?_;clear H;intro w H;refine kH H (Kn K2 (SR fun _ K3=>Rf GX rfl ?_));clear H K2;intro a H;refine aV vo (cs:=[aW D.s1,aW D.s2,aW D.s3,aW D.s4]) H wn rfl rfl (fun j v hj=>H.hp.aI (hgs j v hj)) rfl ?_;clear H;intro a H;refine dP vo H wn rfl ?_;clear H;intro b4 a w hb4 H;refine bK vo 0 (vs:=[_,_,_,_]) H wn rfl ?_;clear H;intro w H;refine K3 _ _ ?_;clear K3;refine kP H (SR fun _ K4=>bO MH CZ 0 rfl rfl (Rl vw rfl (Rc rfl (Rm rfl (Sp 11 rfl ?_ ?_))))) <;> clear H
 ·intro h11 a H
  try have sF:=dT h11
  refine kH H (YF Dx h11 rfl (YO qM 0 h11 rfl (YL lQ h11 rfl (YC h11 rfl (Pt h11 rfl (Rm rfl (Sp 17 rfl ?_ ?_))))))) <;> clear H
  ·intro cu a H
   try have lN:=dT cu
   refine kH H (YF Dy cu rfl (YO zl 0 cu rfl (YL tN cu rfl (YC cu rfl (Pt cu rfl (Rm rfl (Sp 23 rfl ?_ ?_))))))) <;> clear H
   ·intro h23 a H
    try have Bp:=dT h23
    refine kH H (YF MI h23 rfl (YO xw 0 h23 rfl (YL sI h23 rfl (YC h23 rfl (Pt h23 rfl (Rm rfl (Sp 29 rfl ?_ ?_))))))) <;> clear H
    ·intro iB a H
     try have p29:=dT iB
     refine kH H (YF Ck iB rfl (YR xu iB rfl (by assumption) ?_));clear H;intro a H;refine kH H (YL oh iB rfl (YC iB rfl (Pt iB rfl (Rm rfl (Sp 35 rfl ?_ ?_))))) <;> clear H
     ·intro iC a H
      try have p35:=dT iC
      refine kH H (YF vO iC rfl (YR kV iC rfl (by assumption) ?_));clear H;intro a H;refine iE Vg (Li:=[_]) (L:=[Dn b3 150]) H (wg H rfl rfl iC) rfl (agU 4294967296 (eP _) _ _ d.flow _ 12 150 b3 (Hp.owns (Li:=[_]) H.hp) hR.fl (by omega) (by decide) (by decide) (by decide) (by omega)) rfl ?_;clear H;rintro v38 LA L38 a w ⟨b38,lf38,rfl,rfl,-,-⟩ Ba H;refine kH H (Pt iC rfl (Rm rfl (Sp 40 rfl ?_ ?_))) <;> clear H
      ·intro lH a H
       try have p40:=dT lH
       refine aV gM (cs:=D.cells) H (wg H rfl rfl lH) rfl rfl (fun j v hj=>H.hp.aI (aF Ba (hga j v hj))) rfl ?_;clear H;intro a H;refine s_call amn H (wg H rfl rfl lH) rfl (ajL _ _ H.ro D d (hR.mono Ba) hz) rfl ?_;clear H;rintro v42 Tn a w rfl ayZ H;exact kH H (YC lH rfl (Pt lH rfl (aj K4 rfl (LR results45 rfl fun H=>H.rt ⟨_,rfl,fun h=>by first|assumption|(simp_all;done)⟩))))
      intro lH a H
      try have p40:=dF lH
      exact kH H (aM lH rfl (Pf lH rfl (aj K4 rfl (LR results45 rfl fun H=>H.rt ⟨_,rfl,fun h=>by first|assumption|(simp_all;done)⟩))))
     intro iC a H
     try have p35:=dF iC
     exact kH H (aM iC rfl (Pf iC rfl (Rm rfl (aM rfl rfl (Pf rfl rfl (aj K4 rfl (LR results45 rfl fun H=>H.rt ⟨_,rfl,fun h=>by first|assumption|(simp_all;done)⟩)))))))
    intro iB a H
    try have p29:=dF iB
    exact kH H (aJ iB rfl (aJ iB rfl (Pf iB rfl (Rm rfl (aM rfl rfl (Pf rfl rfl (Rm rfl (aM rfl rfl (Pf rfl rfl (aj K4 rfl (LR results45 rfl fun H=>H.rt ⟨_,rfl,fun h=>by first|assumption|(simp_all;done)⟩)))))))))))
   intro h23 a H
   try have Bp:=dF h23
   exact kH H (aJ h23 rfl (aJ h23 rfl (Pf h23 rfl (Rm rfl (aJ rfl rfl (aJ rfl rfl (Pf rfl rfl (Rm rfl (aM rfl rfl (Pf rfl rfl (Rm rfl (aM rfl rfl (Pf rfl rfl (aj K4 rfl (LR results45 rfl fun H=>H.rt ⟨_,rfl,fun h=>by first|assumption|(simp_all;done)⟩)))))))))))))))
  intro cu a H
  try have lN:=dF cu
  exact kH H (aJ cu rfl (aJ cu rfl (Pf cu rfl (Rm rfl (aJ rfl rfl (aJ rfl rfl (Pf rfl rfl (Rm rfl (aJ rfl rfl (aJ rfl rfl (Pf rfl rfl (Rm rfl (aM rfl rfl (Pf rfl rfl (Rm rfl (aM rfl rfl (Pf rfl rfl (aj K4 rfl (LR results45 rfl fun H=>H.rt ⟨_,rfl,fun h=>by first|assumption|(simp_all;done)⟩)))))))))))))))))))
 intro h11 a H
 try have sF:=dF h11
 exact kH H (aJ h11 rfl (aJ h11 rfl (Pf h11 rfl (Rm rfl (aJ rfl rfl (aJ rfl rfl (Pf rfl rfl (Rm rfl (aJ rfl rfl (aJ rfl rfl (Pf rfl rfl (Rm rfl (aJ rfl rfl (aJ rfl rfl (Pf rfl rfl (Rm rfl (aM rfl rfl (Pf rfl rfl (Rm rfl (aM rfl rfl (Pf rfl rfl (aj K4 rfl (LR results45 rfl fun H=>H.rt ⟨_,rfl,fun h=>by first|assumption|(simp_all;done)⟩)))))))))))))))))))))))
theorem YJ:qR prog 68 [(0,1),(1,1),(2,1),(3,1),(4,5),(9,1),(10,1)] [.int .i64 0,.int .i64 0,.int .i64 0,.string ⟨#[]⟩,.slice none 0 0,.int .i64 0,.int .i64 0,.slice none 0 0,.slice none 0 0,.slice none 0 0,.slice none 0 0]:=⟨by kernel_rfl,by kernel_rfl⟩
theorem awX:qR prog 159 [(0,1),(1,1)] [.int .i64 0,.int .i64 0]:=⟨by kernel_rfl,by kernel_rfl⟩
theorem awV:qR prog 102 [(0,1),(1,1),(2,1)] [.int .i64 0,.string ⟨#[]⟩,.int .i64 0]:=⟨by kernel_rfl,by kernel_rfl⟩
theorem acs:aQ 44:=aR func44 rfl
theorem UR:aQ 14:=aR func14 rfl
theorem UW:aQ 15:=aR func15 rfl
theorem ana:aQ 45:=aR func45 rfl
def Ab (k:Int) (t:ByteArray) (i:Int) (ds:List gJ):au:=.mk k 0 0 t ⟨[],⟨i,0,ds,[]⟩⟩ [] []
def wJ:gu:=⟨[Ab 1 ⟨#[97,98]⟩ 0 [],Ab 1 ⟨#[99,100]⟩ 3 [],Ab 1 ⟨#[101]⟩ 0 [⟨5,0⟩],Ab 2 ⟨#[]⟩ 0 []],Bz,[⟨3,⟨#[65,110]⟩,0⟩,⟨5,⟨#[66,111]⟩,0⟩],⟨[],[],[],[]⟩⟩
theorem o24:(nD (iY (fun _=>false) (fun _=>true) wJ)).flow.length=2:=by kernel_rfl
theorem atF:((nD (iY (fun _=>false) (fun _=>true) wJ)).flow.map au.text).head?=some ⟨#[97,98,101]⟩:=by kernel_rfl
theorem atE:(nD (iY (fun _=>false) (fun _=>true) wJ)).revs.length=0:=by kernel_rfl
theorem f24:(nD (iY (fun _=>true) (fun _=>false) wJ)).flow.length=2:=by kernel_rfl
theorem aom:((nD (iY (fun _=>true) (fun _=>false) wJ)).flow.map au.text).head?=some ⟨#[97,98,99,100]⟩:=by kernel_rfl
theorem aol:(nD (iY (fun _=>true) (fun _=>false) wJ)).revs.length=0:=by kernel_rfl
theorem z24:dx wJ.flow<=1000:=by decide
theorem c24:iK wJ=0:=by kernel_rfl
theorem s24:wz 536870912 wJ:=by
 have h:=z24
 have h0:mW Bz<=1000:=by decide
 refine ⟨⟨by omega,by show mW Bz<=_;omega,by decide,fun x hx=>?_,by decide,⟨fun _ h=>(by cases h),by decide,fun _ h=>(by cases h),by decide,fun _ h=>(by cases h),by decide,fun _ h=>(by cases h),fun _ h=>(by cases h),fun _ h=>(by cases h)⟩⟩,by omega,by show mW Bz<=_;omega⟩
 simp only [wJ,iy,List.not_mem_nil,or_false] at hx
 rcases hx with rfl|rfl <;> decide
theorem aqA {F:List au} {t:ByteArray} (h:(F.map au.text).head?=some t) (h0:0 < F.length):F[0].text=t:=by
 cases F with
 | nil=>exact absurd h0 (by decide)
 | cons x F=>simpa using h
set_option maxHeartbeats 2000000 in
theorem acB (G:GH) (w0:World) (hG:Hold G w0) :
  Calls prog 44 #[] w0 (bE w0 G fun u G'=>∃ D:jh,u=D.val∧kX G' D wJ):=by
 refine eN [] func44 rfl ntmps44 rfl rfl hG ?_;intro a H;refine dz (fun _ K1=>?_);refine dP gM H wn rfl ?_;clear H;intro b0 a w hb0 H;refine K1 _ _ ?_;clear K1;refine dz (fun _ K2=>?_);refine jF YJ [_,_,_,_,_,_,_,_,_,_,_] H wn rfl rfl rfl rfl ?_;clear H;intro a H;refine jF YG [_,_,_,_] H wn rfl rfl rfl rfl ?_;clear H;intro a H;refine jF KU [_,_,_,_,_] H wn rfl rfl rfl rfl ?_;clear H;intro a H;refine jF YJ [_,_,_,_,_,_,_,_,_,_,_] H wn rfl rfl rfl rfl ?_;clear H;intro a H;refine jF awX [_,_] H wn rfl rfl rfl rfl ?_;clear H;intro a H;refine iV oJ oI [_,_] [_,_] H wn rfl rfl rfl rfl rfl (by intro i q h;match i,h with|0,h=>exact h|n+1,h=>simp at h) rfl rfl ?_;clear H;intro b6 a w hb6 H;refine jF YG [_,_,_,_] H wn rfl rfl rfl rfl ?_;clear H;intro a H;refine jF KU [_,_,_,_,_] H wn rfl rfl rfl rfl ?_;clear H;intro a H;(iterate 2 refine jF YJ [_,_,_,_,_,_,_,_,_,_,_] H wn rfl rfl rfl rfl ?_;clear H;intro a H);refine iV jo gN [_,_,_,_,_,_,_,_,_,_,_,_,_,_,_,_,_,_,_,_,_,_,_,_,_,_,_,_,_,_,_,_,_,_,_,_,_,_,_,_,_,_,_,_] [_,_,_,_,_,_,_,_,_,_,_,_,_,_,_,_,_,_,_,_,_,_,_,_,_,_,_,_,_,_,_,_,_,_,_,_,_,_,_,_,_,_,_,_] H wn rfl rfl rfl rfl rfl (by intro i q h;match i,h with|0,h=>exact h|1,h=>exact h|2,h=>exact h|3,h=>exact h|n+4,h=>simp at h) rfl rfl ?_;clear H;intro b11 a w J9 H;(iterate 2 refine jF awV [_,_,_] H wn rfl rfl rfl rfl ?_;clear H;intro a H);refine iV oh og [_,_,_,_,_,_] [_,_,_,_,_,_] H wn rfl rfl rfl rfl rfl (by intro i q h;match i,h with|0,h=>exact h|1,h=>exact h|n+2,h=>simp at h) rfl rfl ?_;clear H;intro b14 a w ady H;refine jF YH [_,_,_,_,_,_,_,_,_,_,_] H wn rfl rfl rfl rfl ?_;clear H;intro a H;refine bK gM 3 (vs:=[_,_,_,_,_,_,_,_,_,_,_]) H wn rfl ?_;clear H;intro w H;refine K2 _ _ ?_;clear K2;refine dw ?_;refine (leave1 H results44 (.cons (mI gM (cs:=[_,_,_,_,_,_,_,_,_,_,_]) H rfl rfl (H.hp.cB 3 rfl rfl)) .nil) ?_).1;have H:=H.fG (Pl:=[_,_,_,_]) (eH:=[_,_,_]) [2,1,0] (by decide) rfl;obtain ⟨G1,hm1,MV,H⟩:=H.fO;obtain ⟨G2,hm2,Cn,H⟩:=H.fO;obtain ⟨G3,Kk,Wn,H⟩:=H.fO;have nl:∀ {sz:Nat},ak G2 (.sl sz []) (.slice none 0 0):=fun {sz}=>ak.oQ rfl (by decide);have IC:∀ {sz:Nat},ak G3 (.sl sz []) (.slice none 0 0):=fun {sz}=>ak.oQ rfl (by decide);have d1:ak G2 (.sl 2 ([(⟨5,0⟩:gJ)].map gJ.dat)) (.slice (some ⟨b6,0,none⟩) 1 1):=ak.vZ (n:=1) (cap:=1) (hm2 _ _ MV) rfl (eP _) (show 1<=maxLen by decide) rfl (dK.nil.snoc (abH G2 ⟨5,0⟩) rfl);have r1:bD G2 (Ab 1 ⟨#[97,98]⟩ 0 []).dat _:=bD.mkItem (x:=Ab 1 ⟨#[97,98]⟩ 0 []) ⟨nl,nl,nl⟩ nl nl;have r2:bD G2 (Ab 1 ⟨#[99,100]⟩ 3 []).dat _:=bD.mkItem (x:=Ab 1 ⟨#[99,100]⟩ 3 []) ⟨nl,nl,nl⟩ nl nl;have r3:bD G2 (Ab 1 ⟨#[101]⟩ 0 [⟨5,0⟩]).dat _:=bD.mkItem (x:=Ab 1 ⟨#[101]⟩ 0 [⟨5,0⟩]) ⟨nl,d1,nl⟩ nl nl;have r4:bD G2 (Ab 2 ⟨#[]⟩ 0 []).dat _:=bD.mkItem (x:=Ab 2 ⟨#[]⟩ 0 []) ⟨nl,nl,nl⟩ nl nl;have fQ:dK G2 11 (wJ.flow.map au.dat) _:=(((dK.nil.snoc r1 rfl).snoc r2 rfl).snoc r3 rfl).snoc r4 rfl;have hcr:dK G3 3 (wJ.revs.map bV.dat) _:=(dK.nil.snoc (NT G3 ⟨3,⟨#[65,110]⟩,0⟩) rfl).snoc (NT G3 ⟨5,⟨#[66,111]⟩,0⟩) rfl;exact H.rt ⟨⟨(some ⟨b11,0,none⟩,4,4),(none,0,0),(none,0,0),(none,0,0),(some ⟨b14,0,none⟩,2,2),(none,0,0),(none,0,0),(none,0,0),(none,0,0),0,0⟩,rfl,⟨(ak.vZ (n:=4) (cap:=4) Cn rfl (eP _) (show 4<=maxLen by decide) rfl fQ).mono Kk,⟨IC,IC,IC⟩,rfl,rfl,ak.vZ (n:=2) (cap:=2) Wn rfl (eP _) (show 2<=maxLen by decide) rfl hcr,⟨IC,IC,IC,IC⟩⟩⟩
theorem abM {G:GH} {E:jh} {e:gu} {t:ByteArray} (hE:kX G E e) (h2:e.flow.length=2) (ht:(e.flow.map au.text).head?=some t) (hr:e.revs.length=0) :
  ∃ b o fc rA rc,E.f=(some ⟨b,o,none⟩,2,fc)∧E.r=(rA,0,rc)∧aI G b (o+0*11+3)=some (.string t):=by
 obtain ⟨⟨fA,fn,fc⟩,_,_,_,⟨rA,rn,rc⟩,_,_,_,_,_,_⟩:=E;have hf:=hE.fl;have hv:=hE.rv;dsimp only [aW] at hf hv;have n1:=hf.len;have n2:=hv.len;rw [bQ] at n1 n2;obtain ⟨A,c,e4,-,-,hg⟩:=hf.slice;rw [bQ] at e4
 injection e4 with e4 e5 e6
 subst e4;obtain ⟨b,o,_,_,_,_,_,_,_,_,_,_,_,_,_,_,_,rfl,hrow,-⟩:=JX (show 0 < e.flow.length by omega) hg;have h3:=hrow 3 _ rfl;rw [aqA ht] at h3;exact ⟨b,o,fc,rA,rc,by rw [n1,h2],by rw [n2,hr],h3⟩
theorem Mc {p:Prop} (h:p:=by
 first
  | exact H.rt rfl
  | (exfalso;simp_all;done)
  | (exfalso;simp_all;omega)):p:=h
set_option maxHeartbeats 1000000 in
theorem Xx (G:GH) (w0:World) (hG:Hold G w0):Calls prog 12 #[] w0 (bE w0 G fun u G'=>u=.bool true):=by
 refine eN [] func12 rfl ntmps12 rfl rfl hG ?_;intro a H;refine kP H (SR fun _ K1=>aj K1 rfl (SR fun _ K2=>?_));clear H K1;intro a H;refine s_call acs H wn rfl (acB _ _ H.ro) rfl ?_;clear H;rintro v3 G3 a w ⟨D3,rfl,hD3⟩ Kk H;refine s_call UR H wn rfl (Yh _ _ H.ro D3 wJ hD3 s24 c24) rfl ?_;clear H;rintro v4 G4 a w ⟨E,rfl,hE⟩ M4 H;obtain ⟨b4,o4,fc,rA,rc,e1,e2,Bf⟩:=abM hE o24 atF atE;obtain ⟨_,_,_,_,_,_,_,_,_,_,_⟩:=E;dsimp only at e1 e2;subst e1 e2
 simp only [jh.val,jh.cells,aW] at H
 refine dP gM H wn rfl ?_;clear H;intro b1 a w hb1 H;refine bK gM 0 (vs:=[_,_,_,_,_,_,_,_,_,_,_]) H wn rfl ?_;clear H;intro w H;refine K2 _ _ ?_;clear K2;refine dz (fun _ K3=>?_);refine s_call acs H wn rfl (acB _ _ H.ro) rfl ?_;clear H;rintro v5 G5 a w ⟨D5,rfl,hD5⟩ Fa H;refine s_call UW H wn rfl (Yg _ _ H.ro D5 wJ hD5 s24 c24) rfl ?_;clear H;rintro v6 G6 a w ⟨E6,rfl,hE6⟩ H8 H;obtain ⟨b6,o6,gc,sA,sc,e3,e4,ht6⟩:=abM hE6 f24 aom aol;obtain ⟨_,_,_,_,_,_,_,_,_,_,_⟩:=E6;dsimp only at e3 e4;subst e3 e4
 simp only [jh.val,jh.cells,aW] at H
 replace Bf:=aF (fun b o h=>H8 b o (Fa b o h)) Bf;refine dP gM H wn rfl ?_;clear H;intro b2 a w hb2 H;refine bK gM 0 (vs:=[_,_,_,_,_,_,_,_,_,_,_]) H wn rfl ?_;clear H;intro w H;refine K3 _ _ ?_;clear K3;refine kP H (SR fun _ K4=>bO vO kV 1 rfl rfl (Rl jo rfl (Rc rfl (Rm rfl (Sp 11 rfl ?_ ?_))))) <;> clear H
 ·intro h11 a H
  try have sF:=dT h11
  refine kH H (YF vO h11 rfl (YO kV 1 h11 rfl ?_));clear H;intro a H;refine zi jo gN 0 H (wg H rfl rfl h11) rfl rfl rfl (by decide) rfl ?_;clear H;intro a H;refine kH H (YF vP h11 rfl (YR iR h11 rfl Bf ?_));clear H;intro a H;refine CU H (wg H rfl rfl h11) rfl rfl rfl ?_;clear H;intro a H;refine kH H (Pt h11 rfl (Rm rfl (Sp 19 rfl ?_ ?_))) <;> clear H
  ·intro h19 a H
   try have tJ:=dT h19
   refine kH H (YF vO h19 rfl (YO kV 0 h19 rfl (YL jo h19 rfl (YC h19 rfl (Pt h19 rfl (Rm rfl (Sp 25 rfl ?_ ?_))))))) <;> clear H
   ·intro kS a H
    try have p25:=dT kS
    refine kH H (YF vO kS rfl (YO kV 0 kS rfl ?_));clear H;intro a H;refine zi jo gN 0 H (wg H rfl rfl kS) rfl rfl rfl (by decide) rfl ?_;clear H;intro a H;refine kH H (YF vP kS rfl (YR iR kS rfl ht6 ?_));clear H;intro a H;refine CU H (wg H rfl rfl kS) rfl rfl rfl ?_;clear H;intro a H;refine kH H (Pt kS rfl (Rm rfl (Sp 33 rfl ?_ ?_))) <;> clear H
    ·intro vU a H
     try have p33:=dT vU
     refine kH H (YF Ck vU rfl (YO xu 1 vU rfl (YL oh vU rfl (YF Ck vU rfl (YO xu 0 vU rfl (YL oh vU rfl ?_))))));clear H;intro a H;refine NV _ H (wg H rfl rfl vU) rfl rfl rfl (by omega) (by omega) rfl ?_;clear H;intro a H;refine kH H (YC vU rfl (Pt vU rfl (aj K4 rfl ?_)));clear H K4;intro a H;refine lr H results12 rfl ?_
     exact Mc
    intro vU a H
    try have p33:=dF vU
    refine kH H (aM vU rfl (aM vU rfl (aJ vU rfl (Pf vU rfl (aj K4 rfl ?_)))));clear H K4;intro a H;refine lr H results12 rfl ?_
    exact Mc
   intro kS a H
   try have p25:=dF kS
   refine kH H (aM kS rfl (aM kS rfl (Pf kS rfl (Rm rfl (aM rfl rfl (aM rfl rfl (aJ rfl rfl (Pf rfl rfl (aj K4 rfl ?_)))))))));clear H K4;intro a H;refine lr H results12 rfl ?_
   exact Mc
  intro h19 a H
  try have tJ:=dF h19
  refine kH H (aJ h19 rfl (aJ h19 rfl (Pf h19 rfl (Rm rfl (aM rfl rfl (aM rfl rfl (Pf rfl rfl (Rm rfl (aM rfl rfl (aM rfl rfl (aJ rfl rfl (Pf rfl rfl (aj K4 rfl ?_)))))))))))));clear H K4;intro a H;refine lr H results12 rfl ?_
  exact Mc
 intro h11 a H
 try have sF:=dF h11
 refine kH H (aM h11 rfl (aM h11 rfl (Pf h11 rfl (Rm rfl (aJ rfl rfl (aJ rfl rfl (Pf rfl rfl (Rm rfl (aM rfl rfl (aM rfl rfl (Pf rfl rfl (Rm rfl (aM rfl rfl (aM rfl rfl (aJ rfl rfl (Pf rfl rfl (aj K4 rfl ?_)))))))))))))))));clear H K4;intro a H;refine lr H results12 rfl ?_
 exact Mc
theorem Uh {p:Prop} (h:p:=by
 first
  | exact H.rt ⟨_,rfl,fun h=>⟨Wo h,by omega,by omega⟩⟩
  | exact H.rt ⟨_,rfl,fun h=>by cases h⟩):p:=h
theorem awO (G:GH) (w0:World) (hG:Hold G w0) (D:jh) (d:gu) (hR:kX G D d) (hz:Af d) (A R:List Int) (va vr:ah) (hd:OJ G A R va vr) :
  Calls prog 13 #[D.val,.agg #[va,vr]] w0 (bE w0 G fun u G'=>∃ b,u=.bool b∧(b=true->iK d=0∧A.length<=300∧R.length<=300)):=by
 obtain ⟨aA,ac,rfl,-,-,-⟩:=hd.ha.slice;obtain ⟨rA,rc,rfl,-,-,-⟩:=hd.hr.slice
 simp only [bQ] at *
 refine eN [(0,_),(1,_)] func13 rfl ntmps13 rfl rfl hG ?_;intro a H;refine dz (fun _ K1=>?_);refine eB (cs:=[_,_,_,_,_,_,_,_,_,_,_]) H wn rfl rfl rfl ?_;clear H;intro b2 a w hb2 H;refine eB (cs:=[_,_]) H wn rfl rfl rfl ?_;clear H;intro b3 a w hb3 H;refine kH H (aj K1 rfl (SR fun _ K2=>bO Qd yB 0 rfl rfl (Rl mV rfl (Rc rfl (Rm rfl (Sp 9 rfl ?_ ?_)))))) <;> clear H K1
 ·intro h9 a H
  try have p9:=dT h9
  refine kH H (YF Qe h9 rfl (YO yB 0 h9 rfl (YL mV h9 rfl (YC h9 rfl (Pt h9 rfl (Rm rfl (Sp 15 rfl ?_ ?_))))))) <;> clear H
  ·intro jN a H
   try have tF:=dT jN
   refine aV gM (cs:=[_,_,_,_,_,_,_,_,_,_,_]) H (wg H rfl rfl jN) rfl rfl (H.hp.cB 1 rfl rfl) rfl ?_;clear H;intro a H;refine s_call ana H (wg H rfl rfl jN) rfl (awN _ _ H.ro D d hR hz) rfl ?_;clear H;rintro v17 zu a w ⟨b17,rfl,Wo⟩ sw H;refine kH H (Pt jN rfl (aj K2 rfl ?_));clear H K2;intro a H;refine lr H results13 rfl ?_
   exact Uh
  intro jN a H
  try have tF:=dF jN
  refine kH H (aJ jN rfl (Pf jN rfl (aj K2 rfl ?_)));clear H K2;intro a H;refine lr H results13 rfl ?_
  exact Uh
 intro h9 a H
 try have p9:=dF h9
 refine kH H (aJ h9 rfl (aJ h9 rfl (Pf h9 rfl (Rm rfl (aJ rfl rfl (Pf rfl rfl (aj K2 rfl ?_)))))));clear H K2;intro a H;refine lr H results13 rfl ?_
 exact Uh
structure wB (but r:List Int):Prop where
 inc:r.Pairwise (· < ·)
 rng:∀ x∈r,1<=x∧x<=1000
 len:r.length<=40
 dis:∀ x∈r,x∉but
theorem wB.nil (but:List Int):wB but []:=⟨List.Pairwise.nil,fun _ h=>(by cases h),by decide,fun _ h=>(by cases h)⟩
theorem wB.snoc {but r:List Int} {n:Int} (h:wB but r) (h1:1<=n∧n<=1000) (h2:∀ x∈r,x < n) (h3:r.length < 40) (h4:n∉but):wB but (r++[n]):=by
 refine ⟨List.pairwise_append.2 ⟨h.inc,List.pairwise_singleton _ _,fun x hx y hy=>by rw [pU.1 hy];exact h2 x hx⟩,fun x hx=>?_,by rw [jM,List.length_singleton];omega,fun x hx=>?_⟩
 ·rcases jS.1 hx with hx|hx
  ·exact h.rng x hx
  rw [pU.1 hx];exact h1
 rcases jS.1 hx with hx|hx
 ·exact h.dis x hx
 rw [pU.1 hx];exact h4
theorem asS {m:List Int} {n:Nat} (h:∀ x∈m,x < (n:Int)):∀ x∈m++[(n:Int)],x < ((n+1:Nat):Int):=fun x hx=>by
 rcases jS.1 hx with hx|hx
 ·have:=h x hx;omega
 rw [pU.1 hx];omega
theorem afF {b:List Int} {i:Nat} {n:Int} (hi:i < b.length) (h:∀ x∈b.take i,x≠n) (h2:b[i]≠n):∀ x∈b.take (i+1),x≠n:=fun x hx=>by
 rw [kg hi] at hx
 rcases jS.1 hx with hx|hx
 ·exact h x hx
 rw [pU.1 hx];exact h2
def TH (G:GH) (L:OL) (B:Option Addr) (but:List Int):Prop:=∀ i (hi:i < but.length),∃ b o,B=some ⟨b,o,none⟩∧(aI G b (o+i*1)=some (vi but[i])∨∃ cs,(b,.cells cs 3 (0,0))∈L∧cs[o+i*1]?=some (vi but[i]))
theorem TH.of {G:GH} {L:OL} {but:List Int} {B:Option Addr} {n c:Nat} (hv:ak G (.sl 1 (but.map fun k=>[li k])) (.slice B n c)):TH G L B but:=fun i hi=>by
 obtain ⟨b,o,e,h⟩:=Io (f:=fun q=>q) hv hi;exact ⟨b,o,e,.inl (by rw [Nat.mul_one];exact h)⟩
set_option maxHeartbeats 2000000 in
theorem asN (G:GH) (w0:World) (L:OL) (hO:gY G L w0) (l but:List Int) (u:ah) (B:Option Addr) (e:Nat) (hu:ak G (.sl 1 (l.map fun k=>[li k])) u) (hv:TH G L B but) (hl:l.length<=4294967296) (hb:but.length<=4294967296) :
  Calls prog 26 #[u,.slice B but.length e] w0 (gF w0 G L fun u G' L'=>L'=L∧∃ r:List Int,wB but r∧ak G' (.sl 1 (r.map fun k=>[li k])) u):=by
 obtain ⟨A,c,rfl,ha1,ha2,-⟩:=hu.slice;rw [bQ] at *
 have hml:4294967297<=maxLen:=by decide
 refine jD (N:=59) (T:=[(0,_),(1,_)]) func26 rfl ntmps26 rfl rfl hO ?_;intro a H;refine kP H (SR fun _ K1=>aj K1 rfl (SR fun _ K2=>aj K2 rfl (SQ fun _ K3=>SR fun _ K4=>aj K4 rfl (SB ?_))));clear H K1 K2 K4;intro a H;skip;refine fF (ι:=Nat × ah × List Int × List ah × OL) (Tc:=[(0,_),(1,_)]) (Lc:=[]) (fun gh=>[(5,gh.2.1),(6,vi gh.1)]) (fun gh=>[]++(L++gh.2.2.2.2)) (fun gh=>G) (fun gh=>1<=gh.1∧gh.1<=1001∧dR 3 1 gh.2.1 gh.2.2.1.length gh.2.2.2.1 gh.2.2.2.2∧dK G 1 (gh.2.2.1.map fun k=>[li k]) gh.2.2.2.1∧wB but gh.2.2.1∧∀ x∈gh.2.2.1,x < gh.1) (fun gh=>1001 - gh.1) ((1,.slice none 0 0,[],[],[])) (by exact (H.cast (iF _).symm).sub ⟨rfl,rfl,rfl,rfl,ay⟩) ?_ ?_
 ·exact ⟨by omega,by omega,dR.nil,dK.nil,wB.nil _,fun _ h=>(by cases h)⟩
 clear H;rintro ⟨n,v,m,xs,Lo⟩ a w hI H;dsimp only at hI H;obtain ⟨hn1,hn2,hrw,fQ,hok,hlt⟩:=hI;have hol:=hok.len;obtain ⟨vA,vc,rfl,-,-⟩:=hrw.shape;dsimp only [lca,bM] at H;refine kP H (SQ fun _ K5=>SR fun _ K6=>Rm rfl (Rc rfl (Rm rfl (Sp 12 rfl ?_ ?_)))) <;> clear H
 ·intro h12 a H
  try have rM:=dT h12
  refine kH H (YM h12 rfl (YL mV h12 rfl (YC h12 rfl (Pt h12 rfl (Kz K6 (Cd rfl ?_ ?_)))))) <;> clear H K6
  ·intro h16 a H
   try have p16:=dT h16
   refine kP H (Kc K5 (SQ fun _ K7=>SB (SR fun _ K8=>aj K8 rfl ?_)));clear H K5 K8;intro a H;refine uf (ι:=Bool) (Tc:=[(0,_),(1,_),(5,_),(6,_)]) (Lc:=[]) (fun gh=>[(7,.bool gh)]) (fun gh=>[]++(L++Lo)) (fun gh=>G) (fun gh=>True) (by exact H.sub ⟨rfl,rfl,rfl,rfl,ay⟩) ?_ ?_
   ·skip;refine kP H (SR fun _ K9=>aj K9 rfl (SB ?_));clear H K9;intro a H;skip;refine fF (ι:=Nat × Bool) (Tc:=[(0,_),(1,_),(5,_),(6,_)]) (Lc:=[]) (fun gh=>[(7,.bool gh.2),(8,vi gh.1)]) (fun gh=>[]++(L++Lo)) (fun gh=>G) (fun gh=>gh.1<=l.length) (fun gh=>l.length - gh.1) ((0,false)) (by exact H.sub ⟨rfl,rfl,rfl,rfl,rfl,rfl,ay⟩) ?_ ?_
    ·exact lu _
    clear H;rintro ⟨i,is⟩ a w hI H;dsimp only at hI H;have hi:=hI;dsimp only [lca,bM] at H;refine kP H (SQ fun _ aS=>SR fun _ bH=>Rm rfl (Rm rfl (Rl mV rfl (Rc rfl (Rm rfl (Sp 23 rfl ?_ ?_)))))) <;> clear H
    ·intro h23 a H
     try have Bp:=dT h23
     refine kH H (YM h23 rfl (YC h23 rfl (Pt h23 rfl (Kz bH (Cd rfl ?_ ?_))))) <;> clear H bH
     ·intro jw a H
      try have p26:=dT jw
      have hi2:i < l.length:=by omega
      obtain ⟨bl,ol,rfl,hrow⟩:=Io (f:=fun q=>q) hu hi2
      replace hrow:aI G bl (ol+i*1)=some (vi l[i]):=by rw [Nat.mul_one];exact hrow
      refine kP H (Kc aS (SQ fun _ bT=>SB (SC (Rm rfl (Rm rfl (Sp 30 rfl ?_ ?_)))))) <;> clear H aS
      ·intro iX a H
       try have p30:=dT iX
       refine kH H (aM iX rfl (aM iX rfl (Pt iX rfl (bG bT rfl (SC (Rm rfl (Rd rfl (Ra rfl ?_))))))));clear H bT;intro a H;refine aB ?_;refine dJ ((i+1,_)) (by exact H.sub ⟨rfl,rfl,rfl,rfl,rfl,rfl,ay⟩) ?_
       try dsimp only
       omega
      intro iX a H
      try have p30:=dF iX
      refine kH H (YM iX rfl (YM iX rfl (YI mV aG iX rfl rfl (YR aG iX rfl hrow (YM iX rfl (YC iX rfl (Pf iX rfl (bG bT rfl (SC (Rm rfl (Rd rfl (Ra rfl ?_))))))))))));clear H bT;intro a H;refine aB ?_;refine dJ ((i+1,_)) (by exact H.sub ⟨rfl,rfl,rfl,rfl,rfl,rfl,ay⟩) ?_
      try dsimp only
      omega
     intro jw a H
     refine eu ?_;refine ⟨_,by exact H.sub ⟨rfl,rfl,rfl,rfl,rfl,ay⟩,?_⟩
     trivial
    intro h23 a H
    refine kH H (aJ h23 rfl (Pf h23 rfl (Kz bH (Cf rfl rfl ?_))));clear H bH;intro a H;refine eu ?_;refine ⟨_,by exact H.sub ⟨rfl,rfl,rfl,rfl,rfl,ay⟩,?_⟩
    trivial
   clear H;intro is a w hI H;skip;dsimp only [lca,bM] at H;refine kP H (SQ fun _ cK=>SR fun _ dB=>aj dB rfl (SB ?_));clear H dB;intro a H;skip;refine fF (ι:=Nat × Bool) (Tc:=[(0,_),(1,_),(5,_),(6,_)]) (Lc:=[]) (fun gh=>[(7,.bool gh.2),(9,vi gh.1)]) (fun gh=>[]++(L++Lo)) (fun gh=>G) (fun gh=>gh.1<=but.length∧(gh.2=true->∀ x∈but.take gh.1,x≠n)) (fun gh=>but.length - gh.1) ((0,is)) (by exact H.sub ⟨rfl,rfl,rfl,rfl,rfl,rfl,ay⟩) ?_ ?_
   ·exact ⟨lu _,fun _ x h=>(by cases h)⟩
   clear H;rintro ⟨i,is⟩ a w hI H;dsimp only at hI H;obtain ⟨hi,hnx⟩:=hI;dsimp only [lca,bM] at H;refine kP H (SQ fun _ eU=>SR fun _ eX=>Rm rfl (Rm rfl (Rl mV rfl (Rc rfl (Kz eX (Cd rfl ?_ ?_)))))) <;> clear H eX
   ·intro VJ a H
    try have p41:=dT VJ
    have hi2:i < but.length:=by omega
    obtain ⟨bl,ol,rfl,hrow⟩:=hv i hi2;refine kP H (Kc eU (SQ fun _ eG=>SB (SC (Rm rfl (Rm rfl (Sp 45 rfl ?_ ?_)))))) <;> clear H eU
    ·intro h45 a H
     try have p45:=dT h45
     refine kH H (YM h45 rfl (YM h45 rfl (YI mV aG h45 rfl rfl ?_)));clear H;intro a H
     refine rO aG H (wg H rfl rfl h45) rfl (by
      rcases hrow with hrow|⟨cs,hm,hc⟩
      ·exact H.hp.aI hrow
      exact H.hp.CG (List.mem_append_left _ hm) hc) rfl ?_;clear H;intro a H
     refine kH H (YM h45 rfl (YC h45 rfl (Pt h45 rfl (bG eG rfl (SC (Rm rfl (Rd rfl (Ra rfl ?_))))))));clear H eG;intro a H;refine aB ?_;refine dJ ((i+1,_)) (by exact H.sub ⟨rfl,rfl,rfl,rfl,rfl,rfl,ay⟩) ?_
     try dsimp only
     first
     | exact ⟨by omega,fun h=>by cases h⟩
     | exact ⟨by omega,fun h=>afF hi2 (hnx (by assumption)) (pI h)⟩
    intro h45 a H
    try have p45:=dF h45
    refine kH H (aM h45 rfl (aM h45 rfl (Pf h45 rfl (bG eG rfl (SC (Rm rfl (Rd rfl (Ra rfl ?_))))))));clear H eG;intro a H;refine aB ?_;refine dJ ((i+1,_)) (by exact H.sub ⟨rfl,rfl,rfl,rfl,rfl,rfl,ay⟩) ?_
    try dsimp only
    first
    | exact ⟨by omega,fun h=>by cases h⟩
    | exact ⟨by omega,fun h=>afF hi2 (hnx (by assumption)) (pI h)⟩
   intro VJ a H
   try have p41:=dF VJ
   obtain rfl:i=but.length:=by omega
   rw [zF] at hnx;have hnb:is=true->(n:Int)∉but:=fun h hm=>hnx h _ hm rfl;refine eu ?_;refine cK _ _ ?_;clear cK;refine kP H (SR fun _ fC=>Rm rfl (Kz fC (Cd rfl ?_ ?_))) <;> clear H fC
   ·intro rD a H
    try have p53:=dT rD
    refine kP H (SC (Rm rfl (Rm rfl ?_)));clear H;intro a H;refine iV mV aG [_] [_] H wn rfl rfl rfl rfl rfl (by intro i q h;match i,h with|0,h=>exact h|n+1,h=>simp at h) rfl rfl ?_;clear H;intro b56 a w adC H;refine oZ (Li:=[_]++L) (Lo:=Lo) (news:=[vi n]) mV aG rfl rfl (St.un (A:=[_]) H) wn rfl rfl hrw rfl (H.hp.cB 0 rfl rfl) rfl (by omega) (by omega) rfl ?_;clear H;intro v57 ais a w arv H;have H:=H.assoc;dsimp only [lca,bM] at H;refine kH H (bG K7 rfl (SC (Rm rfl (Rd rfl (Ra rfl ?_)))));clear H K7;intro a H;refine aB ?_;refine dJ ((n+1,v57,m++[(n:Int)],xs++[vi n],ais)) (by exact (H.fG (Pl:=[_]) (eH:=[]) [] (by decide) rfl).sub ⟨rfl,rfl,rfl,rfl,ay⟩) ?_
    (try dsimp only);exact ⟨by omega,by omega,by rw [jM];exact arv,by rw [lW];exact fQ.snoc (asl _ _) rfl,hok.snoc ⟨by omega,by omega⟩ hlt (by omega) (hnb (by simpa using rD)),asS hlt⟩
   intro rD a H
   try have p53:=dF rD
   refine kP H (Kc K7 (SC (Rm rfl (Rd rfl (Ra rfl ?_)))));clear H K7;intro a H;refine aB ?_;refine dJ ((n+1,_,m,xs,Lo)) (by exact H.sub ⟨rfl,rfl,rfl,rfl,ay⟩) ?_
   (try dsimp only);exact ⟨by omega,by omega,hrw,fQ,hok,fun x hx=>by have:=hlt x hx;omega⟩
  intro h16 a H
  refine eu ?_;refine K3 _ _ ?_;clear K3;refine kP H (SR fun _ gX=>Rm rfl (aj gX rfl ?_));clear H gX;intro a H;refine dw ?_;obtain ⟨G',hm,hrep,H⟩:=H.qG (Li:=L) hrw (rows:=m.map fun k=>[li k]) (by simp) fQ;refine lv H results26 rfl ?_;exact H.hp.gT ⟨rfl,m,hok,hrep⟩
 intro h12 a H
 refine kH H (aM h12 rfl (Pf h12 rfl (Kz K6 (Cf rfl rfl ?_))));clear H K6;intro a H;refine eu ?_;refine K3 _ _ ?_;clear K3;refine kP H (SR fun _ fM=>Rm rfl (aj fM rfl ?_));clear H fM;intro a H;refine dw ?_;obtain ⟨G',hm,hrep,H⟩:=H.qG (Li:=L) hrw (rows:=m.map fun k=>[li k]) (by simp) fQ;refine lv H results26 rfl ?_;exact H.hp.gT ⟨rfl,m,hok,hrep⟩
theorem Va:aQ 51:=aR func51 rfl
theorem amk:aQ 216:=aR func216 rfl
theorem alH:aQ 166:=aR func166 rfl
theorem akP:aQ 100:=aR func100 rfl
theorem aml:aQ 217:=aR func217 rfl
theorem alI:aQ 167:=aR func167 rfl
theorem akQ:aQ 101:=aR func101 rfl
theorem bytes_beq (p q:ByteArray):((p.toList == q.toList)=true)↔p=q:=by
 rw [ByteArray.toList_eq,ByteArray.toList_eq,beq_iff_eq];exact ⟨fun e=>Go.WideShapes.bytes_inj e,fun e=>by rw [e]⟩
theorem au.eq_iff (a b:au):((((((a.kind=b.kind∧a.code=b.code)∧a.id=b.id)∧a.text=b.text)∧a.head=b.head)∧a.flow=b.flow)∧a.rows=b.rows)↔a=b:=by
 cases a;cases b
 simp [au.kind,au.code,au.id,au.text,au.head,au.flow,au.rows,and_assoc]
theorem aU.eq_iff (a b:aU):(a.head=b.head∧a.cells=b.cells)↔a=b:=by
 cases a;cases b
 simp [aU.head,aU.cells]
theorem aX.eq_iff (a b:aX):((a.id=b.id∧a.head=b.head)∧a.flow=b.flow)↔a=b:=by
 cases a;cases b
 simp [aX.id,aX.head,aX.flow,and_assoc]
def BA (fv:ah) (G:GH) (d d':List Dat) (p:Prop):Prop:=∀ (G1:GH) (w1:World) (cs cs':List ah),(∀ b o,G b=some o->G1 b=some o)->Hold G1 w1->bD G1 d cs->bD G1 d' cs' ->
 sK prog fv [.agg cs.toArray,.agg cs'.toArray] w1 (bE w1 G1 fun u G'=>∃ b,u=.bool b∧(b=true↔p))
theorem Md {p:Prop} (h:p:=by
 exact ⟨by omega,by rw [kg hk2,kg hk3,hsame,Co.1 (by simpa using iX)],fun b o h=>E8 b o (hgm b o h)⟩):p:=h
theorem anG (G:GH) (w0:World) (hG:Hold G w0) (A B:List au) (v u fv:ah) (hv:ak G (.sl 11 (A.map au.dat)) v) (hu:ak G (.sl 11 (B.map au.dat)) u) (hf:∀ (i:Nat) (h1:i < A.length) (h2:i < B.length),BA fv G A[i].dat B[i].dat (A[i]=B[i])) :
  Calls prog 100 #[v,u,fv] w0 (bE w0 G fun r G'=>∃ b,r=.bool b∧(b=true↔A=B)):=by
 obtain ⟨vA,vc,rfl,hc1,hc2,hg⟩:=hv.slice;obtain ⟨uA,uc,rfl,hd1,hd2,hh⟩:=hu.slice;have hml:maxLen=9223372036854775807:=rfl;(iterate 2 rw [bQ] at *);refine eN [(0,_),(1,_),(2,_)] func100 rfl ntmps100 rfl rfl hG ?_;intro a H;refine kP H (SR fun _ K1=>aj K1 rfl (SQ fun _ K2=>SR fun _ K3=>Rm rfl (Rl jo rfl (Rm rfl (Rl jo rfl (Rc rfl (Kz K3 (Cd rfl ?_ ?_)))))))) <;> clear H K1 K3
 ·intro dU a H
  try have kU:=dT dU
  exact kP H (SR fun _ K4=>aj K4 rfl (LR results100 rfl fun H=>H.rt ⟨false,rfl,by simp only [uK,false_iff];exact fun e=>absurd (cO List.length e) (by omega)⟩))
 intro dU a H
 try have kU:=dF dU
 refine kP H (Kc K2 (SQ fun _ K5=>SR fun _ K6=>Rm rfl (Rl jo rfl (Rm rfl (Kz K6 (SB ?_))))));clear H K2 K6;intro a H;skip;refine fF (ι:=Nat × GH) (Tc:=[(1,_),(2,_),(15,_),(16,_)]) (Lc:=[]) (fun gh=>[(17,vi gh.1)]) (fun gh=>[]) (fun gh=>gh.2) (fun gh=>gh.1<=A.length∧A.take gh.1=B.take gh.1∧(∀ b o,G b=some o->gh.2 b=some o)) (fun gh=>A.length - gh.1) ((0,G)) (by exact H.sub ⟨rfl,rfl,rfl,rfl,rfl,ay⟩) ?_ ?_
 ·exact rW
 clear H;rintro ⟨k,g⟩ a w hI H;dsimp only at hI H;obtain ⟨hk,hsame,hgm⟩:=hI;dsimp only [lca,bM] at H;refine kP H (SR fun _ K7=>Rc rfl (Kz K7 (SQ fun _ K8=>Cd rfl ?_ ?_))) <;> clear H K7
 ·intro h18 a H
  try have tH:=dT h18
  have hk2:k < A.length:=by omega
  have hk3:k < B.length:=by omega
  obtain ⟨b1,o1,cs1,rfl,AX,oD,hr1⟩:=hg k A[k].dat (by simp [hk2]);obtain ⟨pA,pn,pc,dA,dn,dc,yA,yn,yc,fA,fn,fc,rA,rn,rc,rfl,-⟩:=hr1.item;obtain ⟨b2,o2,cs2,rfl,AY,hrow2,hr2⟩:=hh k B[k].dat (by simp [hk3]);obtain ⟨KM,NM,pc2,JD,Mt,JG,Oy,OA,Oz,JM,JZ,JN,rA2,rn2,rc2,rfl,-⟩:=hr2.item;refine kP H (Kc K8 (SQ fun _ K9=>SB (SR fun _ aS=>Rm rfl (Ri jo gN rfl rfl ?_))));clear H K8;intro a H;refine aV gN (cs:=_) H wn rfl rfl (fun j v hj=>H.hp.aI (aF hgm (oD j v hj))) rfl ?_;clear H;intro a H;refine dP gN H wn rfl ?_;clear H;intro b8 a w Cr H;refine kH H (Ra rfl ?_);clear H;intro a H;refine bK gN 0 (vs:=[_,_,_,_,_,_,_,_,_,_,_]) H wn rfl ?_;clear H;intro w H;refine aS _ _ ?_;clear aS;refine kP H (SR fun _ bH=>Rm rfl (Rm rfl (Ri jo gN rfl rfl ?_)));clear H;intro a H;refine aV gN (cs:=_) H wn rfl rfl (fun j v hj=>H.hp.aI (aF hgm (hrow2 j v hj))) rfl ?_;clear H;intro a H;refine dP gN H wn rfl ?_;clear H;intro b9 a w wR H;refine bK gN 0 (vs:=[_,_,_,_,_,_,_,_,_,_,_]) H wn rfl ?_;clear H;intro w H;refine bH _ _ ?_;clear bH;refine kP H (SR fun _ bT=>Rm rfl ?_);clear H;intro a H;refine aV gN (cs:=[_,_,_,_,_,_,_,_,_,_,_]) H wn rfl rfl (H.hp.cB 1 rfl rfl) rfl ?_;clear H;intro a H;refine aV gN (cs:=[_,_,_,_,_,_,_,_,_,_,_]) H wn rfl rfl (H.hp.cB 0 rfl rfl) rfl ?_;clear H;intro a H;refine jJ H wn rfl rfl (hf k hk2 hk3 _ _ _ _ hgm H.ro (hr1.mono hgm) (hr2.mono hgm)) rfl ?_;clear H;rintro v29 zw a w ⟨O9,rfl,Co⟩ E8 H;refine kH H (Rn rfl (Kz bT (Cd rfl ?_ ?_))) <;> clear H bT
  ·intro iX a H
   exact kP H (SR fun _ cK=>aj cK rfl (LR results100 rfl fun H=>H.rt ⟨false,rfl,by simp only [uK,false_iff];rintro rfl;exact absurd (Co.2 rfl) (by simpa using iX)⟩))
  intro iX a H
  try have p30:=dF iX
  refine kP H (Kc K9 (SC (Rd rfl (Rm rfl ?_))));clear H K9;intro a H;refine aB ?_;refine dJ ((k+1,zw)) (by exact (H.fG (Pl:=[_,_]) (eH:=[]) [] (by decide) rfl).sub ⟨rfl,rfl,rfl,rfl,rfl,ay⟩) ?_
  (try dsimp only);exact Md
 intro h18 a H
 try have tH:=dF h18
 refine eu ?_;refine K5 _ _ ?_;clear K5;exact kP H (SR fun _ dB=>aj dB rfl (LR results100 rfl fun H=>H.rt ⟨true,rfl,by rw [jm (by omega),jm (by omega)] at hsame;simpa using hsame⟩))
theorem anH (G:GH) (w0:World) (hG:Hold G w0) (A B:List aU) (v u fv:ah) (hv:ak G (.sl 6 (A.map aU.dat)) v) (hu:ak G (.sl 6 (B.map aU.dat)) u) (hf:∀ (i:Nat) (h1:i < A.length) (h2:i < B.length),BA fv G A[i].dat B[i].dat (A[i]=B[i])) :
  Calls prog 166 #[v,u,fv] w0 (bE w0 G fun r G'=>∃ b,r=.bool b∧(b=true↔A=B)):=by
 obtain ⟨vA,vc,rfl,hc1,hc2,hg⟩:=hv.slice;obtain ⟨uA,uc,rfl,hd1,hd2,hh⟩:=hu.slice;have hml:maxLen=9223372036854775807:=rfl;(iterate 2 rw [bQ] at *);refine eN [(0,_),(1,_),(2,_)] func166 rfl ntmps166 rfl rfl hG ?_;intro a H;refine kP H (SR fun _ K1=>aj K1 rfl (SQ fun _ K2=>SR fun _ K3=>Rm rfl (Rl nM rfl (Rm rfl (Rl nM rfl (Rc rfl (Kz K3 (Cd rfl ?_ ?_)))))))) <;> clear H K1 K3
 ·intro dU a H
  try have kU:=dT dU
  exact kP H (SR fun _ K4=>aj K4 rfl (LR results166 rfl fun H=>H.rt ⟨false,rfl,by simp only [uK,false_iff];exact fun e=>absurd (cO List.length e) (by omega)⟩))
 intro dU a H
 try have kU:=dF dU
 refine kP H (Kc K2 (SQ fun _ K5=>SR fun _ K6=>Rm rfl (Rl nM rfl (Rm rfl (Kz K6 (SB ?_))))));clear H K2 K6;intro a H;skip;refine fF (ι:=Nat × GH) (Tc:=[(1,_),(2,_),(15,_),(16,_)]) (Lc:=[]) (fun gh=>[(17,vi gh.1)]) (fun gh=>[]) (fun gh=>gh.2) (fun gh=>gh.1<=A.length∧A.take gh.1=B.take gh.1∧(∀ b o,G b=some o->gh.2 b=some o)) (fun gh=>A.length - gh.1) ((0,G)) (by exact H.sub ⟨rfl,rfl,rfl,rfl,rfl,ay⟩) ?_ ?_
 ·exact rW
 clear H;rintro ⟨k,g⟩ a w hI H;dsimp only at hI H;obtain ⟨hk,hsame,hgm⟩:=hI;dsimp only [lca,bM] at H;refine kP H (SR fun _ K7=>Rc rfl (Kz K7 (SQ fun _ K8=>Cd rfl ?_ ?_))) <;> clear H K7
 ·intro h18 a H
  try have tH:=dT h18
  have hk2:k < A.length:=by omega
  have hk3:k < B.length:=by omega
  obtain ⟨b1,o1,cs1,rfl,AX,oD,hr1⟩:=hg k A[k].dat (by simp [hk2]);obtain ⟨pA,pn,pc,dA,dn,dc,yA,yn,yc,fA,fn,fc,rfl,-⟩:=hr1.row;obtain ⟨b2,o2,cs2,rfl,AY,hrow2,hr2⟩:=hh k B[k].dat (by simp [hk3]);obtain ⟨KM,NM,pc2,JD,Mt,JG,Oy,OA,Oz,JM,JZ,JN,rfl,-⟩:=hr2.row;refine kP H (Kc K8 (SQ fun _ K9=>SB (SR fun _ aS=>Rm rfl (Ri nM jG rfl rfl ?_))));clear H K8;intro a H;refine aV jG (cs:=_) H wn rfl rfl (fun j v hj=>H.hp.aI (aF hgm (oD j v hj))) rfl ?_;clear H;intro a H;refine dP jG H wn rfl ?_;clear H;intro b8 a w Cr H;refine kH H (Ra rfl ?_);clear H;intro a H;refine bK jG 0 (vs:=[_,_,_,_,_,_]) H wn rfl ?_;clear H;intro w H;refine aS _ _ ?_;clear aS;refine kP H (SR fun _ bH=>Rm rfl (Rm rfl (Ri nM jG rfl rfl ?_)));clear H;intro a H;refine aV jG (cs:=_) H wn rfl rfl (fun j v hj=>H.hp.aI (aF hgm (hrow2 j v hj))) rfl ?_;clear H;intro a H;refine dP jG H wn rfl ?_;clear H;intro b9 a w wR H;refine bK jG 0 (vs:=[_,_,_,_,_,_]) H wn rfl ?_;clear H;intro w H;refine bH _ _ ?_;clear bH;refine kP H (SR fun _ bT=>Rm rfl ?_);clear H;intro a H;refine aV jG (cs:=[_,_,_,_,_,_]) H wn rfl rfl (H.hp.cB 1 rfl rfl) rfl ?_;clear H;intro a H;refine aV jG (cs:=[_,_,_,_,_,_]) H wn rfl rfl (H.hp.cB 0 rfl rfl) rfl ?_;clear H;intro a H;refine jJ H wn rfl rfl (hf k hk2 hk3 _ _ _ _ hgm H.ro (hr1.mono hgm) (hr2.mono hgm)) rfl ?_;clear H;rintro v29 zw a w ⟨O9,rfl,Co⟩ E8 H;refine kH H (Rn rfl (Kz bT (Cd rfl ?_ ?_))) <;> clear H bT
  ·intro iX a H
   exact kP H (SR fun _ cK=>aj cK rfl (LR results166 rfl fun H=>H.rt ⟨false,rfl,by simp only [uK,false_iff];rintro rfl;exact absurd (Co.2 rfl) (by simpa using iX)⟩))
  intro iX a H
  try have p30:=dF iX
  refine kP H (Kc K9 (SC (Rd rfl (Rm rfl ?_))));clear H K9;intro a H;refine aB ?_;refine dJ ((k+1,zw)) (by exact (H.fG (Pl:=[_,_]) (eH:=[]) [] (by decide) rfl).sub ⟨rfl,rfl,rfl,rfl,rfl,ay⟩) ?_
  (try dsimp only);exact Md
 intro h18 a H
 try have tH:=dF h18
 refine eu ?_;refine K5 _ _ ?_;clear K5;exact kP H (SR fun _ dB=>aj dB rfl (LR results166 rfl fun H=>H.rt ⟨true,rfl,by rw [jm (by omega),jm (by omega)] at hsame;simpa using hsame⟩))
theorem anF (G:GH) (w0:World) (hG:Hold G w0) (A B:List aX) (v u fv:ah) (hv:ak G (.sl 7 (A.map aX.dat)) v) (hu:ak G (.sl 7 (B.map aX.dat)) u) (hf:∀ (i:Nat) (h1:i < A.length) (h2:i < B.length),BA fv G A[i].dat B[i].dat (A[i]=B[i])) :
  Calls prog 216 #[v,u,fv] w0 (bE w0 G fun r G'=>∃ b,r=.bool b∧(b=true↔A=B)):=by
 obtain ⟨vA,vc,rfl,hc1,hc2,hg⟩:=hv.slice;obtain ⟨uA,uc,rfl,hd1,hd2,hh⟩:=hu.slice;have hml:maxLen=9223372036854775807:=rfl;(iterate 2 rw [bQ] at *);refine eN [(0,_),(1,_),(2,_)] func216 rfl ntmps216 rfl rfl hG ?_;intro a H;refine kP H (SR fun _ K1=>aj K1 rfl (SQ fun _ K2=>SR fun _ K3=>Rm rfl (Rl qj rfl (Rm rfl (Rl qj rfl (Rc rfl (Kz K3 (Cd rfl ?_ ?_)))))))) <;> clear H K1 K3
 ·intro dU a H
  try have kU:=dT dU
  exact kP H (SR fun _ K4=>aj K4 rfl (LR results216 rfl fun H=>H.rt ⟨false,rfl,by simp only [uK,false_iff];exact fun e=>absurd (cO List.length e) (by omega)⟩))
 intro dU a H
 try have kU:=dF dU
 refine kP H (Kc K2 (SQ fun _ K5=>SR fun _ K6=>Rm rfl (Rl qj rfl (Rm rfl (Kz K6 (SB ?_))))));clear H K2 K6;intro a H;skip;refine fF (ι:=Nat × GH) (Tc:=[(1,_),(2,_),(15,_),(16,_)]) (Lc:=[]) (fun gh=>[(17,vi gh.1)]) (fun gh=>[]) (fun gh=>gh.2) (fun gh=>gh.1<=A.length∧A.take gh.1=B.take gh.1∧(∀ b o,G b=some o->gh.2 b=some o)) (fun gh=>A.length - gh.1) ((0,G)) (by exact H.sub ⟨rfl,rfl,rfl,rfl,rfl,ay⟩) ?_ ?_
 ·exact rW
 clear H;rintro ⟨k,g⟩ a w hI H;dsimp only at hI H;obtain ⟨hk,hsame,hgm⟩:=hI;dsimp only [lca,bM] at H;refine kP H (SR fun _ K7=>Rc rfl (Kz K7 (SQ fun _ K8=>Cd rfl ?_ ?_))) <;> clear H K7
 ·intro h18 a H
  try have tH:=dT h18
  have hk2:k < A.length:=by omega
  have hk3:k < B.length:=by omega
  obtain ⟨b1,o1,cs1,rfl,AX,oD,hr1⟩:=hg k A[k].dat (by simp [hk2]);obtain ⟨pA,pn,pc,dA,dn,dc,yA,yn,yc,fA,fn,fc,rfl,-⟩:=hr1.cell;obtain ⟨b2,o2,cs2,rfl,AY,hrow2,hr2⟩:=hh k B[k].dat (by simp [hk3]);obtain ⟨KM,NM,pc2,JD,Mt,JG,Oy,OA,Oz,JM,JZ,JN,rfl,-⟩:=hr2.cell;refine kP H (Kc K8 (SQ fun _ K9=>SB (SR fun _ aS=>Rm rfl (Ri qj kE rfl rfl ?_))));clear H K8;intro a H;refine aV kE (cs:=_) H wn rfl rfl (fun j v hj=>H.hp.aI (aF hgm (oD j v hj))) rfl ?_;clear H;intro a H;refine dP kE H wn rfl ?_;clear H;intro b8 a w Cr H;refine kH H (Ra rfl ?_);clear H;intro a H;refine bK kE 0 (vs:=[_,_,_,_,_,_,_]) H wn rfl ?_;clear H;intro w H;refine aS _ _ ?_;clear aS;refine kP H (SR fun _ bH=>Rm rfl (Rm rfl (Ri qj kE rfl rfl ?_)));clear H;intro a H;refine aV kE (cs:=_) H wn rfl rfl (fun j v hj=>H.hp.aI (aF hgm (hrow2 j v hj))) rfl ?_;clear H;intro a H;refine dP kE H wn rfl ?_;clear H;intro b9 a w wR H;refine bK kE 0 (vs:=[_,_,_,_,_,_,_]) H wn rfl ?_;clear H;intro w H;refine bH _ _ ?_;clear bH;refine kP H (SR fun _ bT=>Rm rfl ?_);clear H;intro a H;refine aV kE (cs:=[_,_,_,_,_,_,_]) H wn rfl rfl (H.hp.cB 1 rfl rfl) rfl ?_;clear H;intro a H;refine aV kE (cs:=[_,_,_,_,_,_,_]) H wn rfl rfl (H.hp.cB 0 rfl rfl) rfl ?_;clear H;intro a H;refine jJ H wn rfl rfl (hf k hk2 hk3 _ _ _ _ hgm H.ro (hr1.mono hgm) (hr2.mono hgm)) rfl ?_;clear H;rintro v29 zw a w ⟨O9,rfl,Co⟩ E8 H;refine kH H (Rn rfl (Kz bT (Cd rfl ?_ ?_))) <;> clear H bT
  ·intro iX a H
   exact kP H (SR fun _ cK=>aj cK rfl (LR results216 rfl fun H=>H.rt ⟨false,rfl,by simp only [uK,false_iff];rintro rfl;exact absurd (Co.2 rfl) (by simpa using iX)⟩))
  intro iX a H
  try have p30:=dF iX
  refine kP H (Kc K9 (SC (Rd rfl (Rm rfl ?_))));clear H K9;intro a H;refine aB ?_;refine dJ ((k+1,zw)) (by exact (H.fG (Pl:=[_,_]) (eH:=[]) [] (by decide) rfl).sub ⟨rfl,rfl,rfl,rfl,rfl,ay⟩) ?_
  (try dsimp only);exact Md
 intro h18 a H
 try have tH:=dF h18
 refine eu ?_;refine K5 _ _ ?_;clear K5;exact kP H (SR fun _ dB=>aj dB rfl (LR results216 rfl fun H=>H.rt ⟨true,rfl,by rw [jm (by omega),jm (by omega)] at hsame;simpa using hsame⟩))
def FU (n:Nat):Prop:=∀ (G:GH) (w0:World),Hold G w0->∀ (A B:List au) (v u:ah),ak G (.sl 11 (A.map au.dat)) v->ak G (.sl 11 (B.map au.dat)) u->dx A < n ->
 Calls prog 51 #[v,u] w0 (bE w0 G fun r G'=>∃ b,r=.bool b∧(b=true↔A=B))
theorem anD {n:Nat} (ih:FU n) (G:GH) (x y:aX) (hz:dx x.flow < n):BA (.func (.func 217) #[] #[]) G x.dat y.dat (x=y):=by
 intro G1 w0 cs cs' hm hG h1 h2;refine jv (caps:=[]) aml ?_;obtain ⟨pA,pn,pc,dA,dn,dc,yA,yn,yc,fA,fn,fc,rfl,MX,hf1⟩:=h1.cell;obtain ⟨KM,NM,pc2,JD,Mt,JG,Oy,OA,Oz,JM,JZ,JN,rfl,HZ,hf2⟩:=h2.cell;have he:=aX.eq_iff x y;refine eN [(0,_),(1,_)] func217 rfl ntmps217 rfl rfl hG ?_;intro a H;refine dz (fun _ K1=>?_);refine eB (cs:=[_,_,_,_,_,_,_]) H wn rfl rfl rfl ?_;clear H;intro b2 a w hb2 H;refine eB (cs:=[_,_,_,_,_,_,_]) H wn rfl rfl rfl ?_;clear H;intro b3 a w hb3 H;refine kH H (aj K1 rfl (SR fun _ K2=>bO JW aG 1 rfl rfl (bO JW aG 0 rfl rfl (Rc rfl (Rm rfl (Sp 10 rfl ?_ ?_)))))) <;> clear H K1
 ·intro h10 a H
  try have jd:=dT h10
  refine kH H (YF He h10 rfl ?_);clear H;intro a H;refine aV dW (cs:=[_,_,_,_,_]) H (wg H rfl rfl h10) rfl rfl (H.hp.cB 1 rfl rfl) rfl ?_;clear H;intro a H;refine kH H (YF He h10 rfl ?_);clear H;intro a H;refine aV dW (cs:=[_,_,_,_,_]) H (wg H rfl rfl h10) rfl rfl (H.hp.cB 0 rfl rfl) rfl ?_;clear H;intro a H;refine s_call JJ H (wg H rfl rfl h10) rfl (JL _ _ H.ro x.head y.head _ _ _ _ _ _ MX HZ) rfl ?_;clear H;rintro vH GH a w rfl Cy H;refine kH H (Pt h10 rfl (Rm rfl (Sp 17 rfl ?_ ?_))) <;> clear H
  ·intro cu a H
   try have lN:=dT cu
   refine kH H (YF EO cu rfl (YO kV 1 cu rfl (YF EO cu rfl (YO kV 0 cu rfl ?_))));clear H;intro a H;refine s_call Va H (wg H rfl rfl cu) rfl (ih _ _ H.ro x.flow y.flow _ _ (hf1.mono Cy) (hf2.mono Cy) hz) rfl ?_;clear H;rintro vF GF a w ⟨bF,rfl,hbF⟩ QD H;exact kH H (Pt cu rfl (aj K2 rfl (LR results217 rfl fun H=>H.rt ⟨_,rfl,by rw [<- he];simp_all⟩)))
  intro cu a H
  try have lN:=dF cu
  exact kH H (aM cu rfl (aJ cu rfl (Pf cu rfl (aj K2 rfl (LR results217 rfl fun H=>H.rt ⟨_,rfl,by rw [<- he];simp_all⟩)))))
 intro h10 a H
 try have jd:=dF h10
 exact kH H (aM h10 rfl (aJ h10 rfl (Pf h10 rfl (Rm rfl (aM rfl rfl (aJ rfl rfl (Pf rfl rfl (aj K2 rfl (LR results217 rfl fun H=>H.rt ⟨_,rfl,by rw [<- he];simp_all⟩)))))))))
theorem anN {n:Nat} (ih:FU n) (hn:n<=4294967297) (G:GH) (x y:aU) (hz:jk x.cells < n):BA (.func (.func 167) #[] #[]) G x.dat y.dat (x=y):=by
 intro G1 w0 cs cs' hm hG h1 h2;refine jv (caps:=[]) alI ?_;obtain ⟨pA,pn,pc,dA,dn,dc,yA,yn,yc,fA,fn,fc,rfl,MX,hf1⟩:=h1.row;obtain ⟨KM,NM,pc2,JD,Mt,JG,Oy,OA,Oz,JM,JZ,JN,rfl,HZ,hf2⟩:=h2.row;have he:=aU.eq_iff x y;refine eN [(0,_),(1,_)] func167 rfl ntmps167 rfl rfl hG ?_;intro a H;refine dz (fun _ K1=>?_);refine eB (cs:=[_,_,_,_,_,_]) H wn rfl rfl rfl ?_;clear H;intro b2 a w hb2 H;refine eB (cs:=[_,_,_,_,_,_]) H wn rfl rfl rfl ?_;clear H;intro b3 a w hb3 H;refine kH H (aj K1 rfl (SR fun _ K2=>Rf GZ rfl ?_));clear H K1;intro a H;refine aV dW (cs:=[_,_,_,_,_]) H wn rfl rfl (H.hp.cB 1 rfl rfl) rfl ?_;clear H;intro a H;refine kH H (Rf GZ rfl ?_);clear H;intro a H;refine aV dW (cs:=[_,_,_,_,_]) H wn rfl rfl (H.hp.cB 0 rfl rfl) rfl ?_;clear H;intro a H;refine s_call JJ H wn rfl (JL _ _ H.ro x.head y.head _ _ _ _ _ _ MX HZ) rfl ?_;clear H;rintro vH GH a w rfl Cy H;refine kH H (Rm rfl (Sp 10 rfl ?_ ?_)) <;> clear H
 ·intro h10 a H
  try have jd:=dT h10
  refine kH H (YF yN h10 rfl (YO zm 1 h10 rfl (YF yN h10 rfl (YO zm 0 h10 rfl ?_))));clear H;intro a H;refine s_call amk H (wg H rfl rfl h10) rfl (anF _ _ H.ro x.cells y.cells _ _ _ (hf1.mono Cy) (hf2.mono Cy) (fun i h1 h2=>anD ih _ _ _ (by have:=SS h1;omega))) rfl ?_;clear H;rintro vF GF a w ⟨bF,rfl,hbF⟩ QD H;exact kH H (Pt h10 rfl (aj K2 rfl (LR results167 rfl fun H=>H.rt ⟨_,rfl,by rw [<- he];simp_all⟩)))
 intro h10 a H
 try have jd:=dF h10
 exact kH H (aM h10 rfl (aJ h10 rfl (Pf h10 rfl (aj K2 rfl (LR results167 rfl fun H=>H.rt ⟨_,rfl,by rw [<- he];simp_all⟩)))))
theorem anI {n:Nat} (ih:FU n) (hn:n<=4294967297) (G:GH) (w0:World) (hG:Hold G w0) (x y:au) (cs cs':List ah) (h1:bD G x.dat cs) (h2:bD G y.dat cs') (hz:dx x.flow < n) (hr:iO x.rows < n) :
  Calls prog 101 #[.agg cs.toArray,.agg cs'.toArray] w0 (bE w0 G fun u G'=>∃ b,u=.bool b∧(b=true↔x=y)):=by
 obtain ⟨pA,pn,pc,dA,dn,dc,yA,yn,yc,fA,fn,fc,rA,rn,rc,rfl,MX,hf1,hw1⟩:=h1.item;obtain ⟨KM,NM,pc2,JD,Mt,JG,Oy,OA,Oz,JM,JZ,JN,rA2,rn2,rc2,rfl,HZ,hf2,hw2⟩:=h2.item;have he:=au.eq_iff x y;have hb:=bytes_beq x.text y.text;refine eN [(0,_),(1,_)] func101 rfl ntmps101 rfl rfl hG ?_;intro a H;refine dz (fun _ K1=>?_);refine eB (cs:=[_,_,_,_,_,_,_,_,_,_,_]) H wn rfl rfl rfl ?_;clear H;intro b2 a w hb2 H;refine eB (cs:=[_,_,_,_,_,_,_,_,_,_,_]) H wn rfl rfl rfl ?_;clear H;intro b3 a w hb3 H;refine kH H (aj K1 rfl (SR fun _ K2=>bO lS aG 1 rfl rfl (bO lS aG 0 rfl rfl (Rc rfl (Rm rfl (Sp 10 rfl ?_ ?_)))))) <;> clear H K1
 ·intro h10 a H
  try have jd:=dT h10
  refine kH H (YF GY h10 rfl (YO aG 1 h10 rfl (YF GY h10 rfl (YO aG 0 h10 rfl (YC h10 rfl (Pt h10 rfl (Rm rfl (Sp 17 rfl ?_ ?_)))))))) <;> clear H
  ·intro cu a H
   try have lN:=dT cu
   refine kH H (YF JV cu rfl (YO aG 1 cu rfl (YF JV cu rfl (YO aG 0 cu rfl (YC cu rfl (Pt cu rfl (Rm rfl (Sp 24 rfl ?_ ?_)))))))) <;> clear H
   ·intro bS a H
    try have jP:=dT bS
    refine kH H (YF vP bS rfl (YO iR 1 bS rfl (YF vP bS rfl (YO iR 0 bS rfl ?_))));clear H;intro a H;refine CU H (wg H rfl rfl bS) rfl rfl rfl ?_;clear H;intro a H;refine kH H (Pt bS rfl (Rm rfl (Sp 31 rfl ?_ ?_))) <;> clear H
    ·intro h31 a H
     try have p31:=dT h31
     refine kH H (YF wK h31 rfl ?_);clear H;intro a H;refine aV dW (cs:=[_,_,_,_,_]) H (wg H rfl rfl h31) rfl rfl (H.hp.cB 1 rfl rfl) rfl ?_;clear H;intro a H;refine kH H (YF wK h31 rfl ?_);clear H;intro a H;refine aV dW (cs:=[_,_,_,_,_]) H (wg H rfl rfl h31) rfl rfl (H.hp.cB 0 rfl rfl) rfl ?_;clear H;intro a H;refine s_call JJ H (wg H rfl rfl h31) rfl (JL _ _ H.ro x.head y.head _ _ _ _ _ _ MX HZ) rfl ?_;clear H;rintro vH GH a w rfl Cy H;refine kH H (Pt h31 rfl (Rm rfl (Sp 38 rfl ?_ ?_))) <;> clear H
     ·intro fT a H
      try have p38:=dT fT
      refine kH H (YF zK fT rfl (YO kV 1 fT rfl (YF zK fT rfl (YO kV 0 fT rfl ?_))));clear H;intro a H;refine s_call Va H (wg H rfl rfl fT) rfl (ih _ _ H.ro x.flow y.flow _ _ (hf1.mono Cy) (hf2.mono Cy) hz) rfl ?_;clear H;rintro vF GF a w ⟨bF,rfl,hbF⟩ QD H;refine kH H (Pt fT rfl (Rm rfl (Sp 45 rfl ?_ ?_))) <;> clear H
      ·intro h45 a H
       try have p45:=dT h45
       refine kH H (YF um h45 rfl (YO uE 1 h45 rfl (YF um h45 rfl (YO uE 0 h45 rfl ?_))));clear H;intro a H;refine s_call alH H (wg H rfl rfl h45) rfl (anH _ _ H.ro x.rows y.rows _ _ _ ((hw1.mono Cy).mono QD) ((hw2.mono Cy).mono QD) (fun i h1 h2=>anN ih hn _ _ _ (by have:=SV h1;omega))) rfl ?_;clear H;rintro vW GW a w ⟨bW,rfl,hbW⟩ hmW H;exact kH H (Pt h45 rfl (aj K2 rfl (LR results101 rfl fun H=>H.rt ⟨_,rfl,by rw [<- he];simp_all⟩)))
      intro h45 a H
      try have p45:=dF h45
      exact kH H (aM h45 rfl (aJ h45 rfl (Pf h45 rfl (aj K2 rfl (LR results101 rfl fun H=>H.rt ⟨_,rfl,by rw [<- he];simp_all⟩)))))
     intro fT a H
     try have p38:=dF fT
     exact kH H (aM fT rfl (aJ fT rfl (Pf fT rfl (Rm rfl (aM rfl rfl (aJ rfl rfl (Pf rfl rfl (aj K2 rfl (LR results101 rfl fun H=>H.rt ⟨_,rfl,by rw [<- he];simp_all⟩)))))))))
    intro h31 a H
    try have p31:=dF h31
    exact kH H (aM h31 rfl (aJ h31 rfl (Pf h31 rfl (Rm rfl (aM rfl rfl (aJ rfl rfl (Pf rfl rfl (Rm rfl (aM rfl rfl (aJ rfl rfl (Pf rfl rfl (aj K2 rfl (LR results101 rfl fun H=>H.rt ⟨_,rfl,by rw [<- he];simp_all⟩)))))))))))))
   intro bS a H
   try have jP:=dF bS
   exact kH H (aM bS rfl (aJ bS rfl (Pf bS rfl (Rm rfl (aM rfl rfl (aJ rfl rfl (Pf rfl rfl (Rm rfl (aM rfl rfl (aJ rfl rfl (Pf rfl rfl (Rm rfl (aM rfl rfl (aJ rfl rfl (Pf rfl rfl (aj K2 rfl (LR results101 rfl fun H=>H.rt ⟨_,rfl,by rw [<- he];simp_all⟩)))))))))))))))))
  intro cu a H
  try have lN:=dF cu
  exact kH H (aM cu rfl (aJ cu rfl (Pf cu rfl (Rm rfl (aM rfl rfl (aJ rfl rfl (Pf rfl rfl (Rm rfl (aM rfl rfl (aJ rfl rfl (Pf rfl rfl (Rm rfl (aM rfl rfl (aJ rfl rfl (Pf rfl rfl (Rm rfl (aM rfl rfl (aJ rfl rfl (Pf rfl rfl (aj K2 rfl (LR results101 rfl fun H=>H.rt ⟨_,rfl,by rw [<- he];simp_all⟩)))))))))))))))))))))
 intro h10 a H
 try have jd:=dF h10
 refine kH H (aM h10 rfl (aJ h10 rfl (Pf h10 rfl (Rm rfl (aM rfl rfl (aJ rfl rfl (Pf rfl rfl (Rm rfl (aM rfl rfl (aJ rfl rfl (Pf rfl rfl (Rm rfl (aM rfl rfl (aJ rfl rfl (Pf rfl rfl (Rm rfl (aM rfl rfl (aJ rfl rfl (Pf rfl rfl (Rm rfl (aM rfl rfl (aJ rfl rfl ?_))))))))))))))))))))));clear H;intro a H;exact kH H (Pf rfl rfl (aj K2 rfl (LR results101 rfl fun H=>H.rt ⟨_,rfl,by rw [<- he];simp_all⟩)))
theorem anJ {n:Nat} (ih:FU n) (hn:n<=4294967297) (G:GH) (x y:au) (hz:dx x.flow < n) (hr:iO x.rows < n):BA (.func (.func 101) #[] #[]) G x.dat y.dat (x=y):=by
 intro G1 w0 cs cs' hm hG h1 h2;exact jv (caps:=[]) akQ (anI ih hn G1 w0 hG x y cs cs' h1 h2 hz hr)
theorem anQ {n:Nat} (ih:FU n) (hn:n<=4294967297):FU (n+1):=by
 intro G w0 hG A B v u hv hu hz;refine eN [(0,_),(1,_)] func51 rfl ntmps51 rfl rfl hG ?_;intro a H;refine kP H (SR fun _ K1=>aj K1 rfl (SR fun _ K2=>Rm rfl (Rm rfl ?_)));clear H K1;intro a H;refine s_call akP H wn rfl (anG _ _ H.ro A B _ _ _ hv hu (fun i h1 h2=>anJ ih hn _ _ _ (by have:=OC h1;omega) (by have:=OC h1;omega))) rfl ?_;clear H;rintro v7 G7 a w ⟨b7,rfl,zN⟩ yR H;exact kH H (aj K2 rfl (LR results51 rfl fun H=>H.rt ⟨_,rfl,zN⟩))
theorem acz:∀ n:Nat,n<=4294967298->FU n
 | 0,_=>fun _ _ _ _ _ _ _ _ _ h=>absurd h (by omega)
 | n+1,hn=>anQ (acz n (by omega)) (by omega)
theorem aoe (G:GH) (w0:World) (hG:Hold G w0) (A B:List au) (v u:ah) (hv:ak G (.sl 11 (A.map au.dat)) v) (hu:ak G (.sl 11 (B.map au.dat)) u) (hz:dx A<=4294967296) :
  Calls prog 51 #[v,u] w0 (bE w0 G fun r G'=>∃ b,r=.bool b∧(b=true↔A=B)):=acz 4294967298 (by omega) G w0 hG A B v u hv hu (by omega)
section
def ku (xs:Array ah) (o:Nat × Nat):Option (Int × Int × List UInt8):=match o.2 with
 | 0=>(mG xs o.1).map fun n=>(n,0,[])
 | 1=>match xs[o.1]? with|some (.string s)=>some (0,0,s.toList)|_=>none
 | 2=>match mG xs o.1,mG xs (o.1+1) with|some a,some b=>some (a,b,[])|_,_=>none
 | 3=>match xs[o.1]? with|some (.bool b)=>some (if b=true then 1 else 0,0,[])|_=>none
 | _=>none
def afJ (P:Program) (t:TypeId):Bool:=!P.stoodInHeld t && decide ((P.fieldsOf t).toList.map (·.offset)=[0,1]) && ((P.fieldsOf t).toList.all fun f=>decide (f.name ≠ "_") && P.plainKey f.type && Xr (P.underlying f.type)) && decide (P.cellsOf t=2) && (P.info? t).isSome
def zS (P:Program) (t:TypeId):Nat:=match P.underlying t with|some (.int .i64)=>0|some .string=>1|some (.struct _)=>2|some .bool=>3|_=>4
def XZ (P:Program) (t:TypeId):Bool:=match zS P t with|0=>P.plainKey t|1=>P.plainKey t|2=>afJ P t|3=>P.plainKey t|_=>false
structure Lm (P:Program) (t:TypeId) (yZ:List (Nat × Nat)):Prop where
 und:P.underlying t=some (.struct (P.fieldsOf t))
 held:P.stoodInHeld t=false
 guard:P.eqGuardType P.depth t=false
 ES:(P.fieldsOf t).toList.map (fun f=>(f.offset,zS P f.type))=yZ
 ok:(P.fieldsOf t).toList.all (fun f=>decide (f.name ≠ "_") && XZ P f.type)=true
theorem axt {P:Program} {t:TypeId} {fs:Array Field} (h:P.underlying t=some (.struct fs)):P.underlying t=some (.struct (P.fieldsOf t)):=by
 rw [h]
 simp [Program.fieldsOf,h]
theorem agF {P:Program} (w:World) {t:TypeId} {fs:Array Field} (hu:P.underlying t=some (.struct fs)) {i:TypeInfo} (hi:P.info? t=some i) (hc:P.cellsOf t=2) (xs:Array ah) (off:Nat):(part t xs off).run P w=.ok (.agg (xs.extract off (off+2))) w:=by
 unfold part
 simp [isAgg,dY,run_underlying hu,run_sizeOf w hi,hc]
theorem Qj {xs:Array ah} {o:Nat} {n:Int} (h:mG xs o=some n):xs[o]?=some (.int .i64 n):=by
 unfold mG at h
 split at h
 ·rename_i hx;cases h;exact hx
 ·cases h
theorem adg {xs:Array ah} {off:Nat} {a b:Int} (h1:mG xs off=some a) (h2:mG xs (off+1)=some b):mG (xs.extract off (off+2)) 0=some a∧mG (xs.extract off (off+2)) 1=some b:=by
 have e1:=Qj h1
 have e2:=Qj h2
 have hl:off+1 < xs.size:=(Array.getElem?_eq_some_iff.1 e2).1
 constructor
 ·unfold mG
  rw [Array.getElem?_extract,aD (by omega),Aj,e1]
 ·unfold mG
  rw [Array.getElem?_extract,aD (by omega),e2]
theorem agC {P:Program} {w:World} {d:Nat} {xs ys:Array ah}:∀ fs:List Field,fs.all (fun f=>decide (f.name ≠ "_") && XZ P f.type)=true ->
  (fs.map (fun f=>(f.offset,zS P f.type))).all (fun o=>(ku xs o).isSome && (ku ys o).isSome)=true->(Op.eqFields (d+2) xs ys fs).run P w=.ok ((fs.map (fun f=>(f.offset,zS P f.type))).all fun o=>ku xs o == ku ys o) w
 | [],_,_=>by simp [Op.eqFields]
 | f :: fs,h1,h2=>by
  simp only [List.all_cons,ow,pF,fH] at h1 h2
  obtain ⟨⟨hn,hk⟩,h1⟩:=h1
  obtain ⟨⟨hx,hy⟩,h2⟩:=h2
  have ih:=agC (w:=w) (d:=d) fs (by simpa using h1) h2
  have fin:∀ (x y:ah) (r:Bool),(part f.type xs f.offset).run P w=.ok x w->(part f.type ys f.offset).run P w=.ok y w->(Op.equalIn (d+2) f.type x y).run P w=.ok r w->(ku xs (f.offset,zS P f.type) == ku ys (f.offset,zS P f.type))=r ->
    (Op.eqFields (d+2) xs ys (f :: fs)).run P w=.ok (((f :: fs).map (fun f=>(f.offset,zS P f.type))).all fun o=>ku xs o == ku ys o) w:=by
   intro x y r p1 p2 p3 p4
   simp only [Op.eqFields,hn,ne_eq,not_false_eq_true,if_true,dY,p1,p2,nP,p3,fH,List.all_cons,p4]
   cases r with
   | true=>simp [ih,List.all_map]
   | false=>simp
  unfold XZ at hk
  rcases hkd:zS P f.type with _|_|_|_|n
  ·rw [hkd] at hk hx hy
   have hu:P.underlying f.type=some (.int .i64):=by unfold zS at hkd;split at hkd <;> first|assumption|cases hkd
   obtain ⟨m,hm⟩:∃ m,mG xs f.offset=some m:=by cases h:mG xs f.offset with|some m=>exact ⟨m,rfl⟩|none=>simp [ku,h] at hx
   obtain ⟨m2,hm2⟩:∃ m,mG ys f.offset=some m:=by cases h:mG ys f.offset with|some m=>exact ⟨m,rfl⟩|none=>simp [ku,h] at hy
   refine fin _ _ _ (run_part_plain w hk (Qj hm)) (run_part_plain w hk (Qj hm2)) (run_equalIn_int w (d+1) f.type .i64 .i64 m m2 hu) ?_
   rw [hkd,tY]
   simp [ku,hm,hm2]
  ·rw [hkd] at hk hx hy
   have hu:P.underlying f.type=some .string:=by unfold zS at hkd;split at hkd <;> first|assumption|cases hkd
   obtain ⟨m,hm⟩:∃ m,xs[f.offset]?=some (.string m):=by
    simp only [ku] at hx
    split at hx
    ·rename_i s hs;exact ⟨s,hs⟩
    ·cases hx
   obtain ⟨m2,hm2⟩:∃ m,ys[f.offset]?=some (.string m):=by
    simp only [ku] at hy
    split at hy
    ·rename_i s hs;exact ⟨s,hs⟩
    ·cases hy
   refine fin _ _ _ (run_part_plain w hk hm) (run_part_plain w hk hm2) (run_equalIn_string w (d+1) f.type m m2 hu) ?_
   rw [hkd,tY]
   simp [ku,hm,hm2]
  ·rw [hkd] at hk hx hy
   obtain ⟨gs,hu⟩:∃ gs,P.underlying f.type=some (.struct gs):=by
    unfold zS at hkd
    split at hkd
    ·cases hkd
    ·cases hkd
    ·rename_i gs hg;exact ⟨gs,hg⟩
    ·cases hkd
    ·cases hkd
   simp only [afJ,ow,LQ,pF] at hk
   obtain ⟨⟨⟨⟨k1,k2⟩,k3⟩,k4⟩,k5⟩:=hk
   obtain ⟨inf,adP⟩:=Option.isSome_iff_exists.1 k5
   obtain ⟨a,b,ha,hb⟩:∃ a b,mG xs f.offset=some a∧mG xs (f.offset+1)=some b:=by
    simp only [ku] at hx
    split at hx
    ·rename_i a b h1 h2;exact ⟨a,b,h1,h2⟩
    ·cases hx
   obtain ⟨a',b',ha',hb'⟩:∃ a b,mG ys f.offset=some a∧mG ys (f.offset+1)=some b:=by
    simp only [ku] at hy
    split at hy
    ·rename_i a b h1 h2;exact ⟨a,b,h1,h2⟩
    ·cases hy
   obtain ⟨e1,e2⟩:=adg ha hb
   obtain ⟨e3,e4⟩:=adg ha' hb'
   have hq:=agB (P:=P) (w:=w) (d:=d) (xs:=xs.extract f.offset (f.offset+2)) (ys:=ys.extract f.offset (f.offset+2)) _ (by simpa only [lq,ow,pF] using k3) (by rw [k2];simp [e1,e2,e3,e4])
   rw [k2] at hq
   refine fin _ _ _ (agF w hu adP k4 xs f.offset) (agF w hu adP k4 ys f.offset) ((run_equalIn_struct w (d+1) f.type _ _ (axt hu) k1).trans hq) ?_
   rw [hkd,tY]
   simp [ku,ha,hb,ha',hb',e1,e2,e3,e4]
  ·rw [hkd] at hk hx hy
   have hu:P.underlying f.type=some .bool:=by unfold zS at hkd;split at hkd <;> first|assumption|cases hkd
   obtain ⟨m,hm⟩:∃ m,xs[f.offset]?=some (.bool m):=by
    simp only [ku] at hx
    split at hx
    ·rename_i s hs;exact ⟨s,hs⟩
    ·cases hx
   obtain ⟨m2,hm2⟩:∃ m,ys[f.offset]?=some (.bool m):=by
    simp only [ku] at hy
    split at hy
    ·rename_i s hs;exact ⟨s,hs⟩
    ·cases hy
   refine fin _ _ _ (run_part_plain w hk hm) (run_part_plain w hk hm2) (run_equalIn_bool' w (d+1) f.type m m2 hu) ?_
   rw [hkd,tY]
   cases m <;> cases m2 <;> simp [ku,hm,hm2]
  ·rw [hkd] at hk;cases hk
section
variable {N:Nat} {D:List Deferred} {w0:World} {F:Nat->Prop} {G0 G:GH} {L:List (Nat × Obj)} {T:List (Nat × ah)}
variable {r:Option Nat} {P:Program} {ops:Array Oper} {Q:Exit->Act->World->Prop} {rest:List Oper} {a:Act} {w:World}
variable {d:Nat} {ty:TypeId} {pos:String} {aO:Array Edge} {g:Option (Nat × Bool)}
theorem Sj {t yt:TypeId} {yZ:List (Nat × Nat)} (he:Lm P t yZ) {x y:Operand} {xs ys:Array ah} (H:St N D w0 F G0 G L T a w) (hw:Region.wanted ⟨some d,.binOp .neq t x y yt,ty,pos,aO,g⟩ (yielded ops a.tmps)=true) (hx:ev T x=some (.agg xs)) (hy:ev T y=some (.agg ys))
  (hi:yZ.all (fun o=>(ku xs o).isSome && (ku ys o).isSome)=true) (hd:Nat.blt d N=true)
  (k:∀ a',St N D w0 F G0 G L ((d,.bool (!(yZ.all fun o=>ku xs o == ku ys o))) :: T) a' w->WL r P ops Q rest a' w):WL r P ops Q (⟨some d,.binOp .neq t x y yt,ty,pos,aO,g⟩ :: rest) a w:=by
 have h1:=agC (P:=P) (w:=w) (d:=9997) (xs:=xs) (ys:=ys) _ he.ok (by rw [he.ES];exact hi)
 rw [he.ES] at h1
 refine gq (v:=.bool (!(yZ.all fun o=>ku xs o == ku ys o))) (w':=w) hw rfl ?_ (k _ (H.put hd _ H.hp))
 simp only [execOp,H.ev hx,H.ev hy,dY,run_eqGuard_agg w .neq t x y xs ys he.guard,nP,run_neq_struct,run_equalIn_struct w 9999 t xs ys he.und he.held,h1]
 rfl
end
end
theorem anf:aQ 50:=aR func50 rfl
theorem akV:aQ 107:=aR func107 rfl
theorem akT:aQ 105:=aR func105 rfl
theorem ane:aQ 49:=aR func49 rfl
theorem akU:aQ 106:=aR func106 rfl
theorem Pz (p q:ByteArray):p.toList=q.toList↔p=q:=by
 rw [<- bytes_beq,beq_iff_eq]
theorem bV.eq_iff (a b:bV):(a.id=b.id∧a.author=b.author∧a.time=b.time)↔a=b:=by cases a;cases b;simp
theorem jR.eq_iff (a b:jR):(a.fmt=b.fmt∧a.start=b.start∧a.zk=b.zk∧a.restart=b.restart)↔a=b:=by cases a;cases b;simp
theorem gI.eq_iff (a b:gI):(a.id=b.id∧a.parent=b.parent∧a.author=b.author∧a.time=b.time∧a.text=b.text∧a.done=b.done)↔a=b:=by cases a;cases b;simp
theorem jl.eq_iff (a b:jl):(a.name=b.name∧a.value=b.value)↔a=b:=by cases a;cases b;simp
theorem fD.eq_iff (a b:fD):(a.id=b.id∧a.levels=b.levels)↔a=b:=by cases a;cases b;simp
theorem bY.eq_iff (a b:bY):(((((a.id=b.id∧a.kind=b.kind)∧a.name=b.name)∧a.base=b.base)∧a.next=b.next)∧a.props=b.props)↔a=b:=by cases a;cases b;simp [and_assoc]
instance:DecidableEq bV:=fun a b=>decidable_of_iff _ (bV.eq_iff a b)
instance:DecidableEq jR:=fun a b=>decidable_of_iff _ (jR.eq_iff a b)
instance:DecidableEq gI:=fun a b=>decidable_of_iff _ (gI.eq_iff a b)
instance:DecidableEq jl:=fun a b=>decidable_of_iff _ (jl.eq_iff a b)
theorem anV:Lm prog 102 [(0,0),(1,1),(2,0)]:=⟨by kernel_rfl,by kernel_rfl,by kernel_rfl,by kernel_rfl,by kernel_rfl⟩
theorem anU:Lm prog 96 [(0,0),(1,0),(2,1),(3,0)]:=⟨by kernel_rfl,by kernel_rfl,by kernel_rfl,by kernel_rfl,by kernel_rfl⟩
theorem anT:Lm prog 107 [(0,0),(1,0),(2,1),(3,0),(4,1),(5,3)]:=⟨by kernel_rfl,by kernel_rfl,by kernel_rfl,by kernel_rfl,by kernel_rfl⟩
theorem anW:Lm prog 110 [(0,1),(1,1)]:=⟨by kernel_rfl,by kernel_rfl,by kernel_rfl,by kernel_rfl,by kernel_rfl⟩
theorem awe (a b:bV):([(0,0),(1,1),(2,0)].all fun o=>ku (bV.cells a).toArray o == ku (bV.cells b).toArray o)=decide (a=b):=by
 rw [tY,decide_eq_true_iff,<- bV.eq_iff]
 simp [ku,mG,Pz]
theorem awd (a b:jR):([(0,0),(1,0),(2,1),(3,0)].all fun o=>ku (jR.cells a).toArray o == ku (jR.cells b).toArray o)=decide (a=b):=by
 rw [tY,decide_eq_true_iff,<- jR.eq_iff]
 simp [ku,mG,Pz]
theorem awc (a b:gI):([(0,0),(1,0),(2,1),(3,0),(4,1),(5,3)].all fun o=>ku (gI.cells a).toArray o == ku (gI.cells b).toArray o)=decide (a=b):=by
 rw [tY,decide_eq_true_iff,<- gI.eq_iff]
 cases ha:a.done <;> cases hb:b.done <;> simp [ku,mG,Pz,ha,hb]
theorem awf (a b:jl):([(0,1),(1,1)].all fun o=>ku (jl.cells a).toArray o == ku (jl.cells b).toArray o)=decide (a=b):=by
 rw [tY,decide_eq_true_iff,<- jl.eq_iff]
 simp [ku,mG,Pz]
theorem aoc (G:GH) (w0:World) (hG:Hold G w0) (A B:List bV) (v u:ah) (hv:ak G (.sl 3 (A.map bV.dat)) v) (hu:ak G (.sl 3 (B.map bV.dat)) u) :
  Calls prog 53 #[v,u] w0 (bE w0 G fun r G'=>r=.bool (decide (A=B))):=by
 obtain ⟨vA,vc,rfl,hc1,hc2,hg⟩:=hv.slice;obtain ⟨uA,uc,rfl,hd1,hd2,hh⟩:=hu.slice;have hml:maxLen=9223372036854775807:=rfl;(iterate 2 rw [bQ] at *);refine eN [(0,_),(1,_)] func53 rfl ntmps53 rfl rfl hG ?_;intro a H;refine kP H (SR fun _ K1=>aj K1 rfl (SQ fun _ K2=>SR fun _ K3=>Rm rfl (Rl oh rfl (Rm rfl (Rl oh rfl (Rc rfl (Kz K3 (Cd rfl ?_ ?_)))))))) <;> clear H K1 K3
 ·intro h10 a H
  try have jd:=dT h10
  exact kP H (SR fun _ K4=>aj K4 rfl (LR results53 rfl fun H=>H.rt (gK (nk fun e=>absurd (cO List.length e) (by omega)).symm)))
 intro h10 a H
 try have jd:=dF h10
 refine kP H (Kc K2 (SQ fun _ K5=>SR fun _ K6=>Rm rfl (Rl oh rfl (Rm rfl (Kz K6 (SB ?_))))));clear H K2 K6;intro a H;skip;refine fF (ι:=Nat × GH) (Tc:=[(0,_),(1,_),(12,_)]) (Lc:=[]) (fun gh=>[(13,vi gh.1)]) (fun gh=>[]) (fun gh=>gh.2) (fun gh=>gh.1<=A.length∧A.take gh.1=B.take gh.1∧(∀ b o,G b=some o->gh.2 b=some o)) (fun gh=>A.length - gh.1) ((0,G)) (by exact H.sub ⟨rfl,rfl,rfl,rfl,ay⟩) ?_ ?_
 ·exact rW
 clear H;rintro ⟨k,g⟩ a w hI H;dsimp only at hI H;obtain ⟨hk,hsame,hgm⟩:=hI;dsimp only [lca,bM] at H;refine kP H (SR fun _ K7=>Rc rfl (Kz K7 (SQ fun _ K8=>Cd rfl ?_ ?_))) <;> clear H K7
 ·intro dU a H
  try have kU:=dT dU
  have hk2:k < A.length:=by omega
  have hk3:k < B.length:=by omega
  obtain ⟨b1,o1,cs1,rfl,AX,oD,hr1⟩:=hg k A[k].dat (by simp [hk2]);obtain rfl:=NS hr1;obtain ⟨b2,o2,cs2,rfl,AY,hrow2,hr2⟩:=hh k B[k].dat (by simp [hk3]);obtain rfl:=NS hr2;refine kP H (Kc K8 (SQ fun _ K9=>SB (SR fun _ aS=>Rm rfl (aj aS rfl (SQ fun _ bH=>?_)))));clear H K8 aS;intro a H;refine dI hmx [[],[],[0,1],[0,1,2],[],[],[4,5],[4,5,6],ra 0 8] [] (by kernel_rfl) [_,_,_,.agg (bV.cells A[k]).toArray,_,_,_,.agg (bV.cells B[k]).toArray,.bool (!decide (A[k]=B[k]))] H (aC (Z0 rfl (Rm rfl)) (Z0 rfl (Rm rfl)) (Z2 0 16 1 17 rfl (Ri oh og rfl rfl)) ?_ (aC (Z0 rfl (Rm rfl)) (Z0 rfl (Rm rfl)) (Z2 4 20 5 21 rfl (Ri oh og rfl rfl)) ?_ (bP ?_ dH))) ?_
  ·refine eY 2 18 rfl rfl fun _ a w G1 hG HT H fin=>?_;refine aV og (cs:=bV.cells A[k]) H wn rfl rfl (fun j v hj=>H.hp.aI (aF hG (aF hgm (oD j v hj)))) rfl ?_;clear H;intro a H;exact dZ
  ·refine eY 6 22 rfl rfl fun _ a w G1 hG HT H fin=>?_;refine aV og (cs:=bV.cells B[k]) H wn rfl rfl (fun j v hj=>H.hp.aI (aF hG (aF hgm (hrow2 j v hj)))) rfl ?_;clear H;intro a H;exact dZ
  ·refine dO 3 19 7 23 rfl rfl fun _ a w G1 hG HT H fin=>?_;refine Sj anV H wn rfl rfl rfl rfl ?_;clear H;intro a H;exact fin H iJ (cO (fun b=>Value.bool !b) (awe A[k] B[k]))
  clear H;intro a w G jU H hv;have H:=H.aN (hv 8 24 rfl rfl) rfl;clear hv;refine aB ⟨rfl,?_⟩;refine bH _ _ ?_;clear bH;refine jr H rfl ?_ ?_
  ·intro bS
   exact kP H (SR fun _ bT=>aj bT rfl (LR results53 rfl fun H=>H.rt (gK (nk fun e=>absurd bS (by subst e;simp)).symm)))
  intro bS
  try have jP:=dF bS
  have hsm:A[k]=B[k]:=by simpa using bS
  refine kP H (Kc K9 (SC (Rd rfl (Rm rfl ?_))));clear H K9;intro a H;refine aB ?_;refine dJ ((k+1,G)) (by exact H.sub ⟨rfl,rfl,rfl,rfl,ay⟩) ?_
  (try dsimp only);exact Gp
 intro dU a H
 try have kU:=dF dU
 refine eu ?_;refine K5 _ _ ?_;clear K5;exact kP H (SR fun _ cK=>aj cK rfl (LR results53 rfl fun H=>H.rt (gK (mM (by rw [jm (by omega),jm (by omega)] at hsame;exact hsame)).symm)))
theorem aob (G:GH) (w0:World) (hG:Hold G w0) (A B:List jR) (v u:ah) (hv:ak G (.sl 4 (A.map jR.dat)) v) (hu:ak G (.sl 4 (B.map jR.dat)) u) :
  Calls prog 50 #[v,u] w0 (bE w0 G fun r G'=>r=.bool (decide (A=B))):=by
 obtain ⟨vA,vc,rfl,hc1,hc2,hg⟩:=hv.slice;obtain ⟨uA,uc,rfl,hd1,hd2,hh⟩:=hu.slice;have hml:maxLen=9223372036854775807:=rfl;(iterate 2 rw [bQ] at *);refine eN [(0,_),(1,_)] func50 rfl ntmps50 rfl rfl hG ?_;intro a H;refine kP H (SR fun _ K1=>aj K1 rfl (SQ fun _ K2=>SR fun _ K3=>Rm rfl (Rl zo rfl (Rm rfl (Rl zo rfl (Rc rfl (Kz K3 (Cd rfl ?_ ?_)))))))) <;> clear H K1 K3
 ·intro h10 a H
  try have jd:=dT h10
  exact kP H (SR fun _ K4=>aj K4 rfl (LR results50 rfl fun H=>H.rt (gK (nk fun e=>absurd (cO List.length e) (by omega)).symm)))
 intro h10 a H
 try have jd:=dF h10
 refine kP H (Kc K2 (SQ fun _ K5=>SR fun _ K6=>Rm rfl (Rl zo rfl (Rm rfl (Kz K6 (SB ?_))))));clear H K2 K6;intro a H;skip;refine fF (ι:=Nat × GH) (Tc:=[(0,_),(1,_),(12,_)]) (Lc:=[]) (fun gh=>[(13,vi gh.1)]) (fun gh=>[]) (fun gh=>gh.2) (fun gh=>gh.1<=A.length∧A.take gh.1=B.take gh.1∧(∀ b o,G b=some o->gh.2 b=some o)) (fun gh=>A.length - gh.1) ((0,G)) (by exact H.sub ⟨rfl,rfl,rfl,rfl,ay⟩) ?_ ?_
 ·exact rW
 clear H;rintro ⟨k,g⟩ a w hI H;dsimp only at hI H;obtain ⟨hk,hsame,hgm⟩:=hI;dsimp only [lca,bM] at H;refine kP H (SR fun _ K7=>Rc rfl (Kz K7 (SQ fun _ K8=>Cd rfl ?_ ?_))) <;> clear H K7
 ·intro dU a H
  try have kU:=dT dU
  have hk2:k < A.length:=by omega
  have hk3:k < B.length:=by omega
  obtain ⟨b1,o1,cs1,rfl,AX,oD,hr1⟩:=hg k A[k].dat (by simp [hk2]);obtain rfl:=XH hr1;obtain ⟨b2,o2,cs2,rfl,AY,hrow2,hr2⟩:=hh k B[k].dat (by simp [hk3]);obtain rfl:=XH hr2;refine kP H (Kc K8 (SQ fun _ K9=>SB (SR fun _ aS=>Rm rfl (aj aS rfl (SQ fun _ bH=>?_)))));clear H K8 aS;intro a H;refine dI hmx [[],[],[0,1],[0,1,2],[],[],[4,5],[4,5,6],ra 0 8] [] (by kernel_rfl) [_,_,_,.agg (jR.cells A[k]).toArray,_,_,_,.agg (jR.cells B[k]).toArray,.bool (!decide (A[k]=B[k]))] H (aC (Z0 rfl (Rm rfl)) (Z0 rfl (Rm rfl)) (Z2 0 16 1 17 rfl (Ri zo Bv rfl rfl)) ?_ (aC (Z0 rfl (Rm rfl)) (Z0 rfl (Rm rfl)) (Z2 4 20 5 21 rfl (Ri zo Bv rfl rfl)) ?_ (bP ?_ dH))) ?_
  ·refine eY 2 18 rfl rfl fun _ a w G1 hG HT H fin=>?_;refine aV Bv (cs:=jR.cells A[k]) H wn rfl rfl (fun j v hj=>H.hp.aI (aF hG (aF hgm (oD j v hj)))) rfl ?_;clear H;intro a H;exact dZ
  ·refine eY 6 22 rfl rfl fun _ a w G1 hG HT H fin=>?_;refine aV Bv (cs:=jR.cells B[k]) H wn rfl rfl (fun j v hj=>H.hp.aI (aF hG (aF hgm (hrow2 j v hj)))) rfl ?_;clear H;intro a H;exact dZ
  ·refine dO 3 19 7 23 rfl rfl fun _ a w G1 hG HT H fin=>?_;refine Sj anU H wn rfl rfl rfl rfl ?_;clear H;intro a H;exact fin H iJ (cO (fun b=>Value.bool !b) (awd A[k] B[k]))
  clear H;intro a w G jU H hv;have H:=H.aN (hv 8 24 rfl rfl) rfl;clear hv;refine aB ⟨rfl,?_⟩;refine bH _ _ ?_;clear bH;refine jr H rfl ?_ ?_
  ·intro bS
   exact kP H (SR fun _ bT=>aj bT rfl (LR results50 rfl fun H=>H.rt (gK (nk fun e=>absurd bS (by subst e;simp)).symm)))
  intro bS
  try have jP:=dF bS
  have hsm:A[k]=B[k]:=by simpa using bS
  refine kP H (Kc K9 (SC (Rd rfl (Rm rfl ?_))));clear H K9;intro a H;refine aB ?_;refine dJ ((k+1,G)) (by exact H.sub ⟨rfl,rfl,rfl,rfl,ay⟩) ?_
  (try dsimp only);exact Gp
 intro dU a H
 try have kU:=dF dU
 refine eu ?_;refine K5 _ _ ?_;clear K5;exact kP H (SR fun _ cK=>aj cK rfl (LR results50 rfl fun H=>H.rt (gK (mM (by rw [jm (by omega),jm (by omega)] at hsame;exact hsame)).symm)))
theorem aoa (G:GH) (w0:World) (hG:Hold G w0) (A B:List gI) (v u:ah) (hv:ak G (.sl 6 (A.map gI.dat)) v) (hu:ak G (.sl 6 (B.map gI.dat)) u) :
  Calls prog 56 #[v,u] w0 (bE w0 G fun r G'=>r=.bool (decide (A=B))):=by
 obtain ⟨vA,vc,rfl,hc1,hc2,hg⟩:=hv.slice;obtain ⟨uA,uc,rfl,hd1,hd2,hh⟩:=hu.slice;have hml:maxLen=9223372036854775807:=rfl;(iterate 2 rw [bQ] at *);refine eN [(0,_),(1,_)] func56 rfl ntmps56 rfl rfl hG ?_;intro a H;refine kP H (SR fun _ K1=>aj K1 rfl (SQ fun _ K2=>SR fun _ K3=>Rm rfl (Rl vw rfl (Rm rfl (Rl vw rfl (Rc rfl (Kz K3 (Cd rfl ?_ ?_)))))))) <;> clear H K1 K3
 ·intro h10 a H
  try have jd:=dT h10
  exact kP H (SR fun _ K4=>aj K4 rfl (LR results56 rfl fun H=>H.rt (gK (nk fun e=>absurd (cO List.length e) (by omega)).symm)))
 intro h10 a H
 try have jd:=dF h10
 refine kP H (Kc K2 (SQ fun _ K5=>SR fun _ K6=>Rm rfl (Rl vw rfl (Rm rfl (Kz K6 (SB ?_))))));clear H K2 K6;intro a H;skip;refine fF (ι:=Nat × GH) (Tc:=[(0,_),(1,_),(12,_)]) (Lc:=[]) (fun gh=>[(13,vi gh.1)]) (fun gh=>[]) (fun gh=>gh.2) (fun gh=>gh.1<=A.length∧A.take gh.1=B.take gh.1∧(∀ b o,G b=some o->gh.2 b=some o)) (fun gh=>A.length - gh.1) ((0,G)) (by exact H.sub ⟨rfl,rfl,rfl,rfl,ay⟩) ?_ ?_
 ·exact rW
 clear H;rintro ⟨k,g⟩ a w hI H;dsimp only at hI H;obtain ⟨hk,hsame,hgm⟩:=hI;dsimp only [lca,bM] at H;refine kP H (SR fun _ K7=>Rc rfl (Kz K7 (SQ fun _ K8=>Cd rfl ?_ ?_))) <;> clear H K7
 ·intro dU a H
  try have kU:=dT dU
  have hk2:k < A.length:=by omega
  have hk3:k < B.length:=by omega
  obtain ⟨b1,o1,cs1,rfl,AX,oD,hr1⟩:=hg k A[k].dat (by simp [hk2]);obtain rfl:=PL hr1;obtain ⟨b2,o2,cs2,rfl,AY,hrow2,hr2⟩:=hh k B[k].dat (by simp [hk3]);obtain rfl:=PL hr2;refine kP H (Kc K8 (SQ fun _ K9=>SB (SR fun _ aS=>Rm rfl (aj aS rfl (SQ fun _ bH=>?_)))));clear H K8 aS;intro a H;refine dI hmx [[],[],[0,1],[0,1,2],[],[],[4,5],[4,5,6],ra 0 8] [] (by kernel_rfl) [_,_,_,.agg (gI.cells A[k]).toArray,_,_,_,.agg (gI.cells B[k]).toArray,.bool (!decide (A[k]=B[k]))] H (aC (Z0 rfl (Rm rfl)) (Z0 rfl (Rm rfl)) (Z2 0 16 1 17 rfl (Ri vw xk rfl rfl)) ?_ (aC (Z0 rfl (Rm rfl)) (Z0 rfl (Rm rfl)) (Z2 4 20 5 21 rfl (Ri vw xk rfl rfl)) ?_ (bP ?_ dH))) ?_
  ·refine eY 2 18 rfl rfl fun _ a w G1 hG HT H fin=>?_;refine aV xk (cs:=gI.cells A[k]) H wn rfl rfl (fun j v hj=>H.hp.aI (aF hG (aF hgm (oD j v hj)))) rfl ?_;clear H;intro a H;exact dZ
  ·refine eY 6 22 rfl rfl fun _ a w G1 hG HT H fin=>?_;refine aV xk (cs:=gI.cells B[k]) H wn rfl rfl (fun j v hj=>H.hp.aI (aF hG (aF hgm (hrow2 j v hj)))) rfl ?_;clear H;intro a H;exact dZ
  ·refine dO 3 19 7 23 rfl rfl fun _ a w G1 hG HT H fin=>?_;refine Sj anT H wn rfl rfl rfl rfl ?_;clear H;intro a H;exact fin H iJ (cO (fun b=>Value.bool !b) (awc A[k] B[k]))
  clear H;intro a w G jU H hv;have H:=H.aN (hv 8 24 rfl rfl) rfl;clear hv;refine aB ⟨rfl,?_⟩;refine bH _ _ ?_;clear bH;refine jr H rfl ?_ ?_
  ·intro bS
   exact kP H (SR fun _ bT=>aj bT rfl (LR results56 rfl fun H=>H.rt (gK (nk fun e=>absurd bS (by subst e;simp)).symm)))
  intro bS
  try have jP:=dF bS
  have hsm:A[k]=B[k]:=by simpa using bS
  refine kP H (Kc K9 (SC (Rd rfl (Rm rfl ?_))));clear H K9;intro a H;refine aB ?_;refine dJ ((k+1,G)) (by exact H.sub ⟨rfl,rfl,rfl,rfl,ay⟩) ?_
  (try dsimp only);exact Gp
 intro dU a H
 try have kU:=dF dU
 refine eu ?_;refine K5 _ _ ?_;clear K5;exact kP H (SR fun _ cK=>aj cK rfl (LR results56 rfl fun H=>H.rt (gK (mM (by rw [jm (by omega),jm (by omega)] at hsame;exact hsame)).symm)))
theorem aod (G:GH) (w0:World) (hG:Hold G w0) (A B:List jl) (v u:ah) (hv:ak G (.sl 2 (A.map jl.dat)) v) (hu:ak G (.sl 2 (B.map jl.dat)) u) :
  Calls prog 57 #[v,u] w0 (bE w0 G fun r G'=>r=.bool (decide (A=B))):=by
 obtain ⟨vA,vc,rfl,hc1,hc2,hg⟩:=hv.slice;obtain ⟨uA,uc,rfl,hd1,hd2,hh⟩:=hu.slice;have hml:maxLen=9223372036854775807:=rfl;(iterate 2 rw [bQ] at *);refine eN [(0,_),(1,_)] func57 rfl ntmps57 rfl rfl hG ?_;intro a H;refine kP H (SR fun _ K1=>aj K1 rfl (SQ fun _ K2=>SR fun _ K3=>Rm rfl (Rl sI rfl (Rm rfl (Rl sI rfl (Rc rfl (Kz K3 (Cd rfl ?_ ?_)))))))) <;> clear H K1 K3
 ·intro h10 a H
  try have jd:=dT h10
  exact kP H (SR fun _ K4=>aj K4 rfl (LR results57 rfl fun H=>H.rt (gK (nk fun e=>absurd (cO List.length e) (by omega)).symm)))
 intro h10 a H
 try have jd:=dF h10
 refine kP H (Kc K2 (SQ fun _ K5=>SR fun _ K6=>Rm rfl (Rl sI rfl (Rm rfl (Kz K6 (SB ?_))))));clear H K2 K6;intro a H;skip;refine fF (ι:=Nat × GH) (Tc:=[(0,_),(1,_),(12,_)]) (Lc:=[]) (fun gh=>[(13,vi gh.1)]) (fun gh=>[]) (fun gh=>gh.2) (fun gh=>gh.1<=A.length∧A.take gh.1=B.take gh.1∧(∀ b o,G b=some o->gh.2 b=some o)) (fun gh=>A.length - gh.1) ((0,G)) (by exact H.sub ⟨rfl,rfl,rfl,rfl,ay⟩) ?_ ?_
 ·exact rW
 clear H;rintro ⟨k,g⟩ a w hI H;dsimp only at hI H;obtain ⟨hk,hsame,hgm⟩:=hI;dsimp only [lca,bM] at H;refine kP H (SR fun _ K7=>Rc rfl (Kz K7 (SQ fun _ K8=>Cd rfl ?_ ?_))) <;> clear H K7
 ·intro dU a H
  try have kU:=dT dU
  have hk2:k < A.length:=by omega
  have hk3:k < B.length:=by omega
  obtain ⟨b1,o1,cs1,rfl,AX,oD,hr1⟩:=hg k A[k].dat (by simp [hk2]);obtain rfl:=Y6 hr1;obtain ⟨b2,o2,cs2,rfl,AY,hrow2,hr2⟩:=hh k B[k].dat (by simp [hk3]);obtain rfl:=Y6 hr2;refine kP H (Kc K8 (SQ fun _ K9=>SB (SR fun _ aS=>Rm rfl (aj aS rfl (SQ fun _ bH=>?_)))));clear H K8 aS;intro a H;refine dI hmx [[],[],[0,1],[0,1,2],[],[],[4,5],[4,5,6],ra 0 8] [] (by kernel_rfl) [_,_,_,.agg (jl.cells A[k]).toArray,_,_,_,.agg (jl.cells B[k]).toArray,.bool (!decide (A[k]=B[k]))] H (aC (Z0 rfl (Rm rfl)) (Z0 rfl (Rm rfl)) (Z2 0 16 1 17 rfl (Ri sI xq rfl rfl)) ?_ (aC (Z0 rfl (Rm rfl)) (Z0 rfl (Rm rfl)) (Z2 4 20 5 21 rfl (Ri sI xq rfl rfl)) ?_ (bP ?_ dH))) ?_
  ·refine eY 2 18 rfl rfl fun _ a w G1 hG HT H fin=>?_;refine aV xq (cs:=jl.cells A[k]) H wn rfl rfl (fun j v hj=>H.hp.aI (aF hG (aF hgm (oD j v hj)))) rfl ?_;clear H;intro a H;exact dZ
  ·refine eY 6 22 rfl rfl fun _ a w G1 hG HT H fin=>?_;refine aV xq (cs:=jl.cells B[k]) H wn rfl rfl (fun j v hj=>H.hp.aI (aF hG (aF hgm (hrow2 j v hj)))) rfl ?_;clear H;intro a H;exact dZ
  ·refine dO 3 19 7 23 rfl rfl fun _ a w G1 hG HT H fin=>?_;refine Sj anW H wn rfl rfl rfl rfl ?_;clear H;intro a H;exact fin H iJ (cO (fun b=>Value.bool !b) (awf A[k] B[k]))
  clear H;intro a w G jU H hv;have H:=H.aN (hv 8 24 rfl rfl) rfl;clear hv;refine aB ⟨rfl,?_⟩;refine bH _ _ ?_;clear bH;refine jr H rfl ?_ ?_
  ·intro bS
   exact kP H (SR fun _ bT=>aj bT rfl (LR results57 rfl fun H=>H.rt (gK (nk fun e=>absurd bS (by subst e;simp)).symm)))
  intro bS
  try have jP:=dF bS
  have hsm:A[k]=B[k]:=by simpa using bS
  refine kP H (Kc K9 (SC (Rd rfl (Rm rfl ?_))));clear H K9;intro a H;refine aB ?_;refine dJ ((k+1,G)) (by exact H.sub ⟨rfl,rfl,rfl,rfl,ay⟩) ?_
  (try dsimp only);exact Gp
 intro dU a H
 try have kU:=dF dU
 refine eu ?_;refine K5 _ _ ?_;clear K5;exact kP H (SR fun _ cK=>aj cK rfl (LR results57 rfl fun H=>H.rt (gK (mM (by rw [jm (by omega),jm (by omega)] at hsame;exact hsame)).symm)))
instance:DecidableEq fD:=fun a b=>decidable_of_iff _ (fD.eq_iff a b)
instance:DecidableEq bY:=fun a b=>decidable_of_iff _ (bY.eq_iff a b)
theorem Q0 {G:GH} {x:fD} {cs:List ah} (h:bD G x.dat cs):∃ A n c,cs=[vi x.id,.slice A n c]∧ak G (.sl 4 (x.levels.map jR.dat)) (.slice A n c):=by
 obtain ⟨v1,vs,rfl,⟨rfl,-⟩,v2,vs2,rfl,h2,rfl⟩:=h;obtain ⟨A,n,c,rfl⟩:=ak.form h2;exact ⟨A,n,c,rfl,h2⟩
theorem Sr {G:GH} {x:bY} {cs:List ah} (h:bD G x.dat cs):∃ A n c,cs=[vi x.id,vi x.kind,.string x.name,vi x.base,vi x.next,.slice A n c]∧ak G (.sl 2 (x.props.map aL.dat)) (.slice A n c):=by
 obtain ⟨A,c,h1,h2⟩:=N8 h;exact ⟨A,_,c,h1,h2⟩
theorem anR (G:GH) (w0:World) (hG:Hold G w0) (A B:List fD) (v u fv:ah) (hv:ak G (.sl 2 (A.map fD.dat)) v) (hu:ak G (.sl 2 (B.map fD.dat)) u) (hf:∀ (i:Nat) (h1:i < A.length) (h2:i < B.length),BA fv G A[i].dat B[i].dat (A[i]=B[i])) :
  Calls prog 55 #[v,u,fv] w0 (bE w0 G fun r G'=>∃ b,r=.bool b∧(b=true↔A=B)):=by
 obtain ⟨vA,vc,rfl,hc1,hc2,hg⟩:=hv.slice;obtain ⟨uA,uc,rfl,hd1,hd2,hh⟩:=hu.slice;have hml:maxLen=9223372036854775807:=rfl;(iterate 2 rw [bQ] at *);refine eN [(0,_),(1,_),(2,_)] func55 rfl ntmps55 rfl rfl hG ?_;intro a H;refine kP H (SR fun _ K1=>aj K1 rfl (SQ fun _ K2=>SR fun _ K3=>Rm rfl (Rl tN rfl (Rm rfl (Rl tN rfl (Rc rfl (Kz K3 (Cd rfl ?_ ?_)))))))) <;> clear H K1 K3
 ·intro dU a H
  try have kU:=dT dU
  exact kP H (SR fun _ K4=>aj K4 rfl (LR results55 rfl fun H=>H.rt ⟨false,rfl,by simp only [uK,false_iff];exact fun e=>absurd (cO List.length e) (by omega)⟩))
 intro dU a H
 try have kU:=dF dU
 refine kP H (Kc K2 (SQ fun _ K5=>SR fun _ K6=>Rm rfl (Rl tN rfl (Rm rfl (Kz K6 (SB ?_))))));clear H K2 K6;intro a H;skip;refine fF (ι:=Nat × GH) (Tc:=[(1,_),(2,_),(15,_),(16,_)]) (Lc:=[]) (fun gh=>[(17,vi gh.1)]) (fun gh=>[]) (fun gh=>gh.2) (fun gh=>gh.1<=A.length∧A.take gh.1=B.take gh.1∧(∀ b o,G b=some o->gh.2 b=some o)) (fun gh=>A.length - gh.1) ((0,G)) (by exact H.sub ⟨rfl,rfl,rfl,rfl,rfl,ay⟩) ?_ ?_
 ·exact rW
 clear H;rintro ⟨k,g⟩ a w hI H;dsimp only at hI H;obtain ⟨hk,hsame,hgm⟩:=hI;dsimp only [lca,bM] at H;refine kP H (SR fun _ K7=>Rc rfl (Kz K7 (SQ fun _ K8=>Cd rfl ?_ ?_))) <;> clear H K7
 ·intro h18 a H
  try have tH:=dT h18
  have hk2:k < A.length:=by omega
  have hk3:k < B.length:=by omega
  obtain ⟨b1,o1,cs1,rfl,AX,oD,hr1⟩:=hg k A[k].dat (by simp [hk2]);obtain ⟨pA,pn,pc,rfl,-⟩:=Q0 hr1;obtain ⟨b2,o2,cs2,rfl,AY,hrow2,hr2⟩:=hh k B[k].dat (by simp [hk3]);obtain ⟨qA,qn,qc,rfl,-⟩:=Q0 hr2;refine kP H (Kc K8 (SQ fun _ K9=>SB (SR fun _ aS=>Rm rfl (Ri tN rP rfl rfl ?_))));clear H K8;intro a H;refine aV rP (cs:=_) H wn rfl rfl (fun j v hj=>H.hp.aI (aF hgm (oD j v hj))) rfl ?_;clear H;intro a H;refine dP rP H wn rfl ?_;clear H;intro b8 a w Cr H;refine kH H (Ra rfl ?_);clear H;intro a H;refine bK rP 0 (vs:=[_,_]) H wn rfl ?_;clear H;intro w H;refine aS _ _ ?_;clear aS;refine kP H (SR fun _ bH=>Rm rfl (Rm rfl (Ri tN rP rfl rfl ?_)));clear H;intro a H;refine aV rP (cs:=_) H wn rfl rfl (fun j v hj=>H.hp.aI (aF hgm (hrow2 j v hj))) rfl ?_;clear H;intro a H;refine dP rP H wn rfl ?_;clear H;intro b9 a w wR H;refine bK rP 0 (vs:=[_,_]) H wn rfl ?_;clear H;intro w H;refine bH _ _ ?_;clear bH;refine kP H (SR fun _ bT=>Rm rfl ?_);clear H;intro a H;refine aV rP (cs:=[_,_]) H wn rfl rfl (H.hp.cB 1 rfl rfl) rfl ?_;clear H;intro a H;refine aV rP (cs:=[_,_]) H wn rfl rfl (H.hp.cB 0 rfl rfl) rfl ?_;clear H;intro a H;refine jJ H wn rfl rfl (hf k hk2 hk3 _ _ _ _ hgm H.ro (hr1.mono hgm) (hr2.mono hgm)) rfl ?_;clear H;rintro v29 zw a w ⟨O9,rfl,Co⟩ E8 H;refine kH H (Rn rfl (Kz bT (Cd rfl ?_ ?_))) <;> clear H bT
  ·intro iX a H
   exact kP H (SR fun _ cK=>aj cK rfl (LR results55 rfl fun H=>H.rt ⟨false,rfl,by simp only [uK,false_iff];rintro rfl;exact absurd (Co.2 rfl) (by simpa using iX)⟩))
  intro iX a H
  try have p30:=dF iX
  refine kP H (Kc K9 (SC (Rd rfl (Rm rfl ?_))));clear H K9;intro a H;refine aB ?_;refine dJ ((k+1,zw)) (by exact (H.fG (Pl:=[_,_]) (eH:=[]) [] (by decide) rfl).sub ⟨rfl,rfl,rfl,rfl,rfl,ay⟩) ?_
  (try dsimp only);exact Md
 intro h18 a H
 try have tH:=dF h18
 refine eu ?_;refine K5 _ _ ?_;clear K5;exact kP H (SR fun _ dB=>aj dB rfl (LR results55 rfl fun H=>H.rt ⟨true,rfl,by rw [jm (by omega),jm (by omega)] at hsame;simpa using hsame⟩))
theorem anS (G:GH) (w0:World) (hG:Hold G w0) (A B:List bY) (v u fv:ah) (hv:ak G (.sl 6 (A.map bY.dat)) v) (hu:ak G (.sl 6 (B.map bY.dat)) u) (hf:∀ (i:Nat) (h1:i < A.length) (h2:i < B.length),BA fv G A[i].dat B[i].dat (A[i]=B[i])) :
  Calls prog 105 #[v,u,fv] w0 (bE w0 G fun r G'=>∃ b,r=.bool b∧(b=true↔A=B)):=by
 obtain ⟨vA,vc,rfl,hc1,hc2,hg⟩:=hv.slice;obtain ⟨uA,uc,rfl,hd1,hd2,hh⟩:=hu.slice;have hml:maxLen=9223372036854775807:=rfl;(iterate 2 rw [bQ] at *);refine eN [(0,_),(1,_),(2,_)] func105 rfl ntmps105 rfl rfl hG ?_;intro a H;refine kP H (SR fun _ K1=>aj K1 rfl (SQ fun _ K2=>SR fun _ K3=>Rm rfl (Rl lQ rfl (Rm rfl (Rl lQ rfl (Rc rfl (Kz K3 (Cd rfl ?_ ?_)))))))) <;> clear H K1 K3
 ·intro dU a H
  try have kU:=dT dU
  exact kP H (SR fun _ K4=>aj K4 rfl (LR results105 rfl fun H=>H.rt ⟨false,rfl,by simp only [uK,false_iff];exact fun e=>absurd (cO List.length e) (by omega)⟩))
 intro dU a H
 try have kU:=dF dU
 refine kP H (Kc K2 (SQ fun _ K5=>SR fun _ K6=>Rm rfl (Rl lQ rfl (Rm rfl (Kz K6 (SB ?_))))));clear H K2 K6;intro a H;skip;refine fF (ι:=Nat × GH) (Tc:=[(1,_),(2,_),(15,_),(16,_)]) (Lc:=[]) (fun gh=>[(17,vi gh.1)]) (fun gh=>[]) (fun gh=>gh.2) (fun gh=>gh.1<=A.length∧A.take gh.1=B.take gh.1∧(∀ b o,G b=some o->gh.2 b=some o)) (fun gh=>A.length - gh.1) ((0,G)) (by exact H.sub ⟨rfl,rfl,rfl,rfl,rfl,ay⟩) ?_ ?_
 ·exact rW
 clear H;rintro ⟨k,g⟩ a w hI H;dsimp only at hI H;obtain ⟨hk,hsame,hgm⟩:=hI;dsimp only [lca,bM] at H;refine kP H (SR fun _ K7=>Rc rfl (Kz K7 (SQ fun _ K8=>Cd rfl ?_ ?_))) <;> clear H K7
 ·intro h18 a H
  try have tH:=dT h18
  have hk2:k < A.length:=by omega
  have hk3:k < B.length:=by omega
  obtain ⟨b1,o1,cs1,rfl,AX,oD,hr1⟩:=hg k A[k].dat (by simp [hk2]);obtain ⟨pA,pn,pc,rfl,-⟩:=Sr hr1;obtain ⟨b2,o2,cs2,rfl,AY,hrow2,hr2⟩:=hh k B[k].dat (by simp [hk3]);obtain ⟨qA,qn,qc,rfl,-⟩:=Sr hr2;refine kP H (Kc K8 (SQ fun _ K9=>SB (SR fun _ aS=>Rm rfl (Ri lQ jg rfl rfl ?_))));clear H K8;intro a H;refine aV jg (cs:=_) H wn rfl rfl (fun j v hj=>H.hp.aI (aF hgm (oD j v hj))) rfl ?_;clear H;intro a H;refine dP jg H wn rfl ?_;clear H;intro b8 a w Cr H;refine kH H (Ra rfl ?_);clear H;intro a H;refine bK jg 0 (vs:=[_,_,_,_,_,_]) H wn rfl ?_;clear H;intro w H;refine aS _ _ ?_;clear aS;refine kP H (SR fun _ bH=>Rm rfl (Rm rfl (Ri lQ jg rfl rfl ?_)));clear H;intro a H;refine aV jg (cs:=_) H wn rfl rfl (fun j v hj=>H.hp.aI (aF hgm (hrow2 j v hj))) rfl ?_;clear H;intro a H;refine dP jg H wn rfl ?_;clear H;intro b9 a w wR H;refine bK jg 0 (vs:=[_,_,_,_,_,_]) H wn rfl ?_;clear H;intro w H;refine bH _ _ ?_;clear bH;refine kP H (SR fun _ bT=>Rm rfl ?_);clear H;intro a H;refine aV jg (cs:=[_,_,_,_,_,_]) H wn rfl rfl (H.hp.cB 1 rfl rfl) rfl ?_;clear H;intro a H;refine aV jg (cs:=[_,_,_,_,_,_]) H wn rfl rfl (H.hp.cB 0 rfl rfl) rfl ?_;clear H;intro a H;refine jJ H wn rfl rfl (hf k hk2 hk3 _ _ _ _ hgm H.ro (hr1.mono hgm) (hr2.mono hgm)) rfl ?_;clear H;rintro v29 zw a w ⟨O9,rfl,Co⟩ E8 H;refine kH H (Rn rfl (Kz bT (Cd rfl ?_ ?_))) <;> clear H bT
  ·intro iX a H
   exact kP H (SR fun _ cK=>aj cK rfl (LR results105 rfl fun H=>H.rt ⟨false,rfl,by simp only [uK,false_iff];rintro rfl;exact absurd (Co.2 rfl) (by simpa using iX)⟩))
  intro iX a H
  try have p30:=dF iX
  refine kP H (Kc K9 (SC (Rd rfl (Rm rfl ?_))));clear H K9;intro a H;refine aB ?_;refine dJ ((k+1,zw)) (by exact (H.fG (Pl:=[_,_]) (eH:=[]) [] (by decide) rfl).sub ⟨rfl,rfl,rfl,rfl,rfl,ay⟩) ?_
  (try dsimp only);exact Md
 intro h18 a H
 try have tH:=dF h18
 refine eu ?_;refine K5 _ _ ?_;clear K5;exact kP H (SR fun _ dB=>aj dB rfl (LR results105 rfl fun H=>H.rt ⟨true,rfl,by rw [jm (by omega),jm (by omega)] at hsame;simpa using hsame⟩))
theorem anL (G:GH) (x y:fD):BA (.func (.func 49) #[] #[]) G x.dat y.dat (x=y):=by
 intro G1 w0 cs cs' hm hG h1 h2;refine jv (caps:=[]) ane ?_;obtain ⟨pA,pn,pc,rfl,hp1⟩:=Q0 h1;obtain ⟨qA,qn,qc,rfl,hp2⟩:=Q0 h2;have he:=fD.eq_iff x y;refine eN [(0,_),(1,_)] func49 rfl ntmps49 rfl rfl hG ?_;intro a H;refine dz (fun _ K1=>?_);refine eB (cs:=[_,_]) H wn rfl rfl rfl ?_;clear H;intro b2 a w hb2 H;refine eB (cs:=[_,_]) H wn rfl rfl rfl ?_;clear H;intro b3 a w hb3 H;refine kH H (aj K1 rfl (SR fun _ K2=>bO Qf aG 1 rfl rfl (bO Qf aG 0 rfl rfl (Rc rfl (Rm rfl (Sp 10 rfl ?_ ?_)))))) <;> clear H K1
 ·intro h10 a H
  try have jd:=dT h10
  refine kH H (YF MJ h10 rfl (YO Od 1 h10 rfl (YF MJ h10 rfl (YO Od 0 h10 rfl ?_))));clear H;intro a H;refine s_call anf H (wg H rfl rfl h10) rfl (aob _ _ H.ro x.levels y.levels _ _ hp1 hp2) rfl ?_;clear H;rintro v15 Df a w rfl A9 H;exact kH H (Pt h10 rfl (aj K2 rfl (LR results49 rfl fun H=>H.rt ⟨_,rfl,by rw [<- he];simp_all⟩)))
 intro h10 a H
 try have jd:=dF h10
 exact kH H (aM h10 rfl (aJ h10 rfl (Pf h10 rfl (aj K2 rfl (LR results49 rfl fun H=>H.rt ⟨_,rfl,by rw [<- he];simp_all⟩)))))
theorem anM (G:GH) (w0:World) (hG:Hold G w0) (A B:List aL) (v u:ah) (hv:ak G (.sl 2 (A.map aL.dat)) v) (hu:ak G (.sl 2 (B.map aL.dat)) u) :
  Calls prog 107 #[v,u] w0 (bE w0 G fun r G'=>r=.bool (decide (A=B))):=by
 refine eN [(0,_),(1,_)] func107 rfl ntmps107 rfl rfl hG ?_;intro a H;refine kP H (SR fun _ K1=>aj K1 rfl (SR fun _ K2=>Rm rfl (Rm rfl ?_)));clear H K1;intro a H;refine s_call abU H wn rfl (acy _ _ H.ro A B _ _ hv hu) rfl ?_;clear H;rintro v7 G7 a w rfl yR H;exact kH H (aj K2 rfl (LR results107 rfl fun H=>H.rt rfl))
theorem anP (G:GH) (x y:bY):BA (.func (.func 106) #[] #[]) G x.dat y.dat (x=y):=by
 intro G1 w0 cs cs' hm hG h1 h2;refine jv (caps:=[]) akU ?_;obtain ⟨pA,pn,pc,rfl,hp1⟩:=Sr h1;obtain ⟨qA,qn,qc,rfl,hp2⟩:=Sr h2;have he:=bY.eq_iff x y;refine eN [(0,_),(1,_)] func106 rfl ntmps106 rfl rfl hG ?_;intro a H;refine dz (fun _ K1=>?_);refine eB (cs:=[_,_,_,_,_,_]) H wn rfl rfl rfl ?_;clear H;intro b2 a w hb2 H;refine eB (cs:=[_,_,_,_,_,_]) H wn rfl rfl rfl ?_;clear H;intro b3 a w hb3 H;refine kH H (aj K1 rfl (SR fun _ K2=>bO vN aG 1 rfl rfl (bO vN aG 0 rfl rfl (Rc rfl (Rm rfl (Sp 10 rfl ?_ ?_)))))) <;> clear H K1
 ·intro h10 a H
  try have jd:=dT h10
  refine kH H (YF xQ h10 rfl (YO aG 1 h10 rfl (YF xQ h10 rfl (YO aG 0 h10 rfl (YC h10 rfl (Pt h10 rfl (Rm rfl (Sp 17 rfl ?_ ?_)))))))) <;> clear H
  ·intro cu a H
   try have lN:=dT cu
   refine kH H (YF EN cu rfl (YO iR 1 cu rfl (YF EN cu rfl (YO iR 0 cu rfl ?_))));clear H;intro a H;refine CU H (wg H rfl rfl cu) rfl rfl rfl ?_;clear H;intro a H;rw [show (x.name.toList == y.name.toList)=decide (x.name=y.name) by rw [tY,bytes_beq,decide_eq_true_iff]] at H;refine kH H (Pt cu rfl (Rm rfl (Sp 24 rfl ?_ ?_))) <;> clear H
   ·intro bS a H
    try have jP:=dT bS
    refine kH H (YF ME bS rfl (YO aG 1 bS rfl (YF ME bS rfl (YO aG 0 bS rfl (YC bS rfl (Pt bS rfl (Rm rfl (Sp 31 rfl ?_ ?_)))))))) <;> clear H
    ·intro h31 a H
     try have p31:=dT h31
     refine kH H (YF JR h31 rfl (YO aG 1 h31 rfl (YF JR h31 rfl (YO aG 0 h31 rfl (YC h31 rfl (Pt h31 rfl (Rm rfl (Sp 38 rfl ?_ ?_)))))))) <;> clear H
     ·intro fT a H
      try have p38:=dT fT
      refine kH H (YF JU fT rfl (YO tK 1 fT rfl (YF JU fT rfl (YO tK 0 fT rfl ?_))));clear H;intro a H;refine s_call akV H (wg H rfl rfl fT) rfl (anM _ _ H.ro x.props y.props _ _ hp1 hp2) rfl ?_;clear H;rintro v43 LB a w rfl DY H;exact kH H (Pt fT rfl (aj K2 rfl (LR results106 rfl fun H=>H.rt ⟨_,rfl,by rw [<- he];simp_all⟩)))
     intro fT a H
     try have p38:=dF fT
     exact kH H (aM fT rfl (aJ fT rfl (Pf fT rfl (aj K2 rfl (LR results106 rfl fun H=>H.rt ⟨_,rfl,by rw [<- he];simp_all⟩)))))
    intro h31 a H
    try have p31:=dF h31
    exact kH H (aM h31 rfl (aJ h31 rfl (Pf h31 rfl (Rm rfl (aM rfl rfl (aJ rfl rfl (Pf rfl rfl (aj K2 rfl (LR results106 rfl fun H=>H.rt ⟨_,rfl,by rw [<- he];simp_all⟩)))))))))
   intro bS a H
   try have jP:=dF bS
   exact kH H (aM bS rfl (aJ bS rfl (Pf bS rfl (Rm rfl (aM rfl rfl (aJ rfl rfl (Pf rfl rfl (Rm rfl (aM rfl rfl (aJ rfl rfl (Pf rfl rfl (aj K2 rfl (LR results106 rfl fun H=>H.rt ⟨_,rfl,by rw [<- he];simp_all⟩)))))))))))))
  intro cu a H
  try have lN:=dF cu
  exact kH H (aM cu rfl (aJ cu rfl (Pf cu rfl (Rm rfl (aM rfl rfl (aJ rfl rfl (Pf rfl rfl (Rm rfl (aM rfl rfl (aJ rfl rfl (Pf rfl rfl (Rm rfl (aM rfl rfl (aJ rfl rfl (Pf rfl rfl (aj K2 rfl (LR results106 rfl fun H=>H.rt ⟨_,rfl,by rw [<- he];simp_all⟩)))))))))))))))))
 intro h10 a H
 try have jd:=dF h10
 exact kH H (aM h10 rfl (aJ h10 rfl (Pf h10 rfl (Rm rfl (aM rfl rfl (aJ rfl rfl (Pf rfl rfl (Rm rfl (aM rfl rfl (aJ rfl rfl (Pf rfl rfl (Rm rfl (aM rfl rfl (aJ rfl rfl (Pf rfl rfl (Rm rfl (aM rfl rfl (aJ rfl rfl (Pf rfl rfl (aj K2 rfl (LR results106 rfl fun H=>H.rt ⟨_,rfl,by rw [<- he];simp_all⟩)))))))))))))))))))))
theorem anO (G:GH) (w0:World) (hG:Hold G w0) (A B:List bY) (v u:ah) (hv:ak G (.sl 6 (A.map bY.dat)) v) (hu:ak G (.sl 6 (B.map bY.dat)) u) :
  Calls prog 54 #[v,u] w0 (bE w0 G fun r G'=>∃ b,r=.bool b∧(b=true↔A=B)):=by
 refine eN [(0,_),(1,_)] func54 rfl ntmps54 rfl rfl hG ?_;intro a H;refine kP H (SR fun _ K1=>aj K1 rfl (SR fun _ K2=>Rm rfl (Rm rfl ?_)));clear H K1;intro a H;refine s_call akT H wn rfl (anS _ _ H.ro A B _ _ _ hv hu (fun i h1 h2=>anP _ _ _)) rfl ?_;clear H;rintro v7 G7 a w ⟨b7,rfl,zN⟩ yR H;exact kH H (aj K2 rfl (LR results54 rfl fun H=>H.rt ⟨_,rfl,zN⟩))
section
section
variable {N:Nat} {D:List Deferred} {w0:World} {F:Nat->Prop} {G0 G G1 G2:GH} {L L1 L2:OL} {T Xs:List (Nat × ah)}
variable {r:Option Nat} {P:Program} {Q:Exit->Act->World->Prop} {l:List Oper} {a a':Act} {w w':World}
theorem aja {id:Nat} (hm:P.follows .mixedOrders=true) (bX:List (List Nat)) (B:List Nat) (hk:zJ l bX=true) (hB:yw l bX B=true) (m1 m2 m3:Nat) (aea:B.contains m1=false) (aeb:B.contains m2=false) (WJ:B.contains m3=false) (hne:Nat.beq m1 m2=false) (hne1:Nat.beq m1 m3=false) (hne2:Nat.beq m2 m3=false) (gL:(bX.getD m3 []).contains m1=true) (h23:(bX.getD m3 []).contains m2=true) (XV NJ XW:Obj) (pr:Nat->Nat->Nat->ah->GH->Prop)
  (hp1:∀ b b' c i v G,Nat.beq i m1=false->(bX.getD i []).contains m1=false->pr b c i v G->pr b' c i v G)
  (hp2:∀ b c c' i v G,Nat.beq i m2=false->(bX.getD i []).contains m2=false->pr b c i v G->pr b c' i v G)
  (H:St N D w0 F G0 G L T a w)
  (hstep:allI (fun i o=>∀ b c L' S a w G1,(∀ x,x∈L->x∈L')->B.contains i=false->Nat.beq i m1=false->Nat.beq i m2=false->Nat.beq i m3=false->S i=false->(∀ j∈bX.getD i [],S j=true)->(∀ k o,G k=some o->G1 k=some o)->St N D w0 F G0 G1 L' T a w->(∀ i d,S i=true->eT l i=some d->∃ v,a.tmps[d]?=some v∧pr b c i v G1) ->
   WL r P l.toArray (fun e a' w'=>e=.normal∧DX N D w0 F G0 G L' T l (pr b c) (dQ S i) a' w') [o] a w) 0 l)
  (WK:∀ o c L' S a w G1,(∀ x,x∈L->x∈L')->l[m1]?=some o->S m1=false->(∀ j∈bX.getD m1 [],S j=true)->(∀ k o,G k=some o->G1 k=some o)->St N D w0 F G0 G1 L' T a w->(∀ b i d,i≠m1->S i=true->eT l i=some d->∃ v,a.tmps[d]?=some v∧pr b c i v G1) ->
   WL r P l.toArray (fun e a' w'=>e=.normal∧∃ b,DX N D w0 F G0 G ((b,XV) :: L') T l (pr b c) (dQ S m1) a' w') [o] a w)
  (WM:∀ o b L' S a w G1,(∀ x,x∈L->x∈L')->l[m2]?=some o->S m2=false->(∀ j∈bX.getD m2 [],S j=true)->(∀ k o,G k=some o->G1 k=some o)->St N D w0 F G0 G1 L' T a w->(∀ c i d,i≠m2->S i=true->eT l i=some d->∃ v,a.tmps[d]?=some v∧pr b c i v G1) ->
   WL r P l.toArray (fun e a' w'=>e=.normal∧∃ c,DX N D w0 F G0 G ((c,NJ) :: L') T l (pr b c) (dQ S m2) a' w') [o] a w)
  (WO:∀ o b c S a w G1,l[m3]?=some o->S m3=false->(∀ j∈bX.getD m3 [],S j=true)->(∀ k o,G k=some o->G1 k=some o)->St N D w0 F G0 G1 ((b,XV) :: (c,NJ) :: L) T a w->(∀ i d,S i=true->eT l i=some d->∃ v,a.tmps[d]?=some v∧pr b c i v G1) ->
   WL r P l.toArray (fun e a' w'=>e=.normal∧DX N D w0 F G0 G ((b,XW) :: (c,NJ) :: L) T l (pr b c) (dQ S m3) a' w') [o] a w)
  (hend:∀ b c a w G1,(∀ k o,G k=some o->G1 k=some o)->St N D w0 F G0 G1 ((b,XW) :: (c,NJ) :: L) T a w->(∀ i d,B.contains i=false->eT l i=some d->∃ v,a.tmps[d]?=some v∧pr b c i v G1)->WL r P l.toArray (fun e a w=>e=.normal∧Q .normal a w) (qJ l B) a w)
  (aqS:Nat.blt m1 l.length=true) (M9:Nat.blt m2 l.length=true) (H9:Nat.blt m3 l.length=true):WP r P (.region id l.toArray true) Q a w:=by
 have ne:∀ {x y:Nat},Nat.beq x y=false->x≠y:=fun h e=>by subst e;rw [Nat.beq_refl] at h;cases h
 have hne':m1≠m2:=ne hne
 have QG:m1≠m3:=ne hne1
 have QH:m2≠m3:=ne hne2
 refine Jz hm bX B hk hB (fun S a w=>(S m3=true->S m1=true∧S m2=true)∧∃ b c L',L'=(bif S m1 then [(b,bif S m3 then XW else XV)] else [])++((bif S m2 then [(c,NJ)] else [])++L)∧DX N D w0 F G0 G L' T l (pr b c) S a w)
  ⟨fun h=>absurd (show false=true from h) (by decide),0,0,L,rfl,G,fun _ _ h=>h,H.move H.hp.drew,fun _ _ h=>absurd (show false=true from h) (by decide)⟩ ?_ ?_
 ·rintro i o S a w ho hb aP kJ hdesc ⟨QJ,b,c,L',hL,G1,hG,HS,hv⟩
  have hsub:∀ x,x∈L->x∈L':=fun x hx=>by rw [hL];exact List.mem_append_right _ (List.mem_append_right _ hx)
  have hno:∀ j,j < l.length->S j=true->(bX.getD j []).contains i=false:=fun j hjl hj=>by
   cases hc:(bX.getD j []).contains i with
   | false=>rfl
   | true =>
    have:=hdesc j hjl (by simpa using hc)
    rw [this] at hj;cases hj
  by_cases h1:i=m1
  ·subst h1
   have AU:S m3=false:=hdesc m3 (Eq.mp Nat.blt_eq H9) (by simpa using gL)
   have h:=WK o c L' S a w G1 hsub ho aP kJ hG HS fun b' j d hj hSj hd=>by
    obtain ⟨v,hv1,hv2⟩:=hv j d hSj hd
    exact ⟨v,hv1,hp1 b b' c j v _ (tZ hj) (hno j (vK hd) hSj) hv2⟩
   refine pE (fun e a' w' ⟨he,b',hD⟩=>⟨he,fun h3=>?_,b',c,_,?_,hD⟩) h
   ·rw [show dQ S i m3=S m3 from av QG.symm,AU] at h3;cases h3
   ·rw [hL,aP,show dQ S i i=true from aD rfl,show dQ S i m2=S m2 from av hne'.symm,show dQ S i m3=S m3 from av QG.symm,AU]
    rfl
  ·by_cases h2:i=m2
   ·subst h2
    have AU:S m3=false:=hdesc m3 (Eq.mp Nat.blt_eq H9) (by simpa using h23)
    have h:=WM o b L' S a w G1 hsub ho aP kJ hG HS fun c' j d hj hSj hd=>by
     obtain ⟨v,hv1,hv2⟩:=hv j d hSj hd
     exact ⟨v,hv1,hp2 b c c' j v _ (tZ hj) (hno j (vK hd) hSj) hv2⟩
    refine pE (fun e a' w' ⟨he,c',hD⟩=>⟨he,fun h3=>?_,b,c',_,rfl,hD.perm ?_⟩) h
    ·rw [show dQ S i m3=S m3 from av QH.symm,AU] at h3;cases h3
    ·rw [hL,aP,show dQ S i i=true from aD rfl,show dQ S i m1=S m1 from av hne',show dQ S i m3=S m3 from av QH.symm]
     cases S m1 with
     | false=>exact List.Perm.refl _
     | true=>exact List.Perm.swap _ _ _
   ·by_cases h3:i=m3
    ·subst h3
     have hS1:S m1=true:=kJ m1 (by simpa using gL)
     have hS2:S m2=true:=kJ m2 (by simpa using h23)
     rw [hS1,hS2,aP] at hL
     subst hL
     have h:=WO o b c S a w G1 ho aP kJ hG HS hv
     refine pE (fun e a' w' ⟨he,hD⟩=>⟨he,fun _=>⟨?_,?_⟩,b,c,_,?_,hD⟩) h
     ·rw [show dQ S i m1=S m1 from av QG];exact hS1
     ·rw [show dQ S i m2=S m2 from av QH];exact hS2
     ·rw [show dQ S i i=true from aD rfl,show dQ S i m1=S m1 from av QG,show dQ S i m2=S m2 from av QH,hS1,hS2];rfl
    ·have h:=BX hstep i o ho
     rw [iA] at h
     have e1:dQ S i m1=S m1:=av (fun e=>h1 e.symm)
     have e2:dQ S i m2=S m2:=av (fun e=>h2 e.symm)
     have e3:dQ S i m3=S m3:=av (fun e=>h3 e.symm)
     refine pE (fun e a' w' ⟨he,hD⟩=>⟨he,?_,b,c,L',?_,hD⟩) (h b c L' S a w G1 hsub hb (tZ h1) (tZ h2) (tZ h3) aP kJ hG HS hv)
     ·rw [e1,e2,e3];exact QJ
     ·rw [e1,e2,e3];exact hL
 ·rintro S a w hall Na ⟨QJ,b,c,L',hL,G1,hG,HS,hv⟩
  have hs1:S m1=true:=hall m1 (Eq.mp Nat.blt_eq aqS) aea
  have hs2:S m2=true:=hall m2 (Eq.mp Nat.blt_eq M9) aeb
  have hs3:S m3=true:=hall m3 (Eq.mp Nat.blt_eq H9) WJ
  rw [hs1,hs2,hs3] at hL
  subst hL
  exact hend b c a w G1 hG HS fun j d hb hd=>hv j d (hall j (vK hd) hb) hd
end
end
theorem ang:aQ 53:=aR func53 rfl
theorem anh:aQ 54:=aR func54 rfl
theorem ani:aQ 55:=aR func55 rfl
theorem anj:aQ 56:=aR func56 rfl
theorem ank:aQ 57:=aR func57 rfl
theorem gu.eq_iff (a b:gu):((((((a.flow=b.flow∧a.fin=b.fin)∧a.revs=b.revs)∧a.iq.styles=b.iq.styles)∧a.iq.lists=b.iq.lists)∧a.iq.comments=b.iq.comments)∧a.iq.vars=b.iq.vars)↔a=b:=by
 obtain ⟨a1,a2,a3,a4,a5,a6,a7⟩:=a;obtain ⟨b1,b2,b3,b4,b5,b6,b7⟩:=b
 simp [and_assoc]
theorem Px {p:Prop} (h:p:=by
 exact GQ HT Hb hG hv (gy bq vI) H rfl):p:=h
set_option maxHeartbeats 2000000 in
theorem UL (G:GH) (w0:World) (hG:Hold G w0) (D E:jh) (x y:gu) (hD:kX G D x) (hE:kX G E y) (hz:dx x.flow<=4294967296) :
  Calls prog 16 #[D.val,E.val] w0 (bE w0 G fun u G'=>∃ b,u=.bool b∧(b=true↔x=y)):=by
 have he:=gu.eq_iff x y;refine eN [(0,_),(1,_)] func16 rfl ntmps16 rfl rfl hG ?_;intro a H;refine dz (fun _ K1=>?_);refine eB (cs:=[_,_,_,_,_,_,_,_,_,_,_]) H wn rfl rfl rfl ?_;clear H;intro b2 a w hb2 H;refine eB (cs:=[_,_,_,_,_,_,_,_,_,_,_]) H wn rfl rfl rfl ?_;clear H;intro b3 a w hb3 H;refine kH H (aj K1 rfl (SQ fun _ K2=>?_));clear H K1;intro a H;obtain ⟨Ga0,Fe,wQ,H⟩:=H.fO;obtain ⟨Ga,Bb,hb2',H⟩:=H.fO;have hga:=fun j v hj=>nu hb2' 0 D.cells rfl j v hj;have hge:∀ j v,E.cells[j]?=some v->aI Ga b3 (0+j)=some v:=fun j v hj=>aF Bb (nu wQ 0 E.cells rfl j v hj)
 have hgd:∀ j v,[aW D.p,vi x.fin.marks.ins,vi x.fin.marks.move,aW D.d,aW D.y][j]?=some v->aI Ga b2 (1+j)=some v:=fun j v hj=>by rw [<- hD.ins,<- hD.mv] at hj;exact nu hb2' 1 [aW D.p,vi D.ins,vi D.move,aW D.d,aW D.y] rfl j v hj
 have hgf:∀ j v,[aW E.p,vi y.fin.marks.ins,vi y.fin.marks.move,aW E.d,aW E.y][j]?=some v->aI Ga b3 (1+j)=some v:=fun j v hj=>by rw [<- hE.ins,<- hE.mv] at hj;exact aF Bb (nu wQ 1 [aW E.p,vi E.ins,vi E.move,aW E.d,aW E.y] rfl j v hj)
 have hgs:∀ j v,[aW D.s1,aW D.s2,aW D.s3,aW D.s4][j]?=some v->aI Ga b2 (7+j)=some v:=fun j v hj=>nu hb2' 7 [aW D.s1,aW D.s2,aW D.s3,aW D.s4] rfl j v hj;have hgt:∀ j v,[aW E.s1,aW E.s2,aW E.s3,aW E.s4][j]?=some v->aI Ga b3 (7+j)=some v:=fun j v hj=>aF Bb (nu wQ 7 [aW E.s1,aW E.s2,aW E.s3,aW E.s4] rfl j v hj);have hx1:=(hD.fl.mono Fe).mono Bb;have hy1:=(hE.fl.mono Fe).mono Bb;have hx2:=(hD.hd.mono Fe).mono Bb;have hy2:=(hE.hd.mono Fe).mono Bb;have hx3:=(hD.rv.mono Fe).mono Bb;have hy3:=(hE.rv.mono Fe).mono Bb;have hx4:=(hD.st.mono Fe).mono Bb;have hy4:=(hE.st.mono Fe).mono Bb;clear hD hE
 have gy:∀ (bq vI dh:Nat) (v:ah) (G G':GH),(∀ k o,G k=some o->G' k=some o)->(fun (bq vI dh:Nat) (v:ah) (G:GH)=>match dh with|0=>v=(aK b2 7)|1=>v=.agg #[aW D.s1,aW D.s2,aW D.s3,aW D.s4]|2=>v=(aK b3 7)|3=>v=.agg #[aW E.s1,aW E.s2,aW E.s3,aW E.s4]|4=>v=(aK bq 0)|5=>v=(aK vI 0)|_=>True) bq vI dh v G->(fun (bq vI dh:Nat) (v:ah) (G:GH)=>match dh with|0=>v=(aK b2 7)|1=>v=.agg #[aW D.s1,aW D.s2,aW D.s3,aW D.s4]|2=>v=(aK b3 7)|3=>v=.agg #[aW E.s1,aW E.s2,aW E.s3,aW E.s4]|4=>v=(aK bq 0)|5=>v=(aK vI 0)|_=>True) bq vI dh v G':=by
  intro bq vI dh v G G' hm h
  match dh,h with
  | 0,h=>exact h
  | 1,h=>exact h
  | 2,h=>exact h
  | 3,h=>exact h
  | 4,h=>exact h
  | 5,h=>exact h
  | 6,h=>exact trivial
  | 7,h=>exact trivial
  | _+8,h=>exact trivial
 refine aja (hmx) [[],[0],[],[2],[],[],[0,1,4,5],ra 0 7] [7] (by kernel_rfl) (by kernel_rfl) 4 5 6 (by decide) (by decide) (by decide) (by decide) (by decide) (by decide) (by decide) (by decide) (.cells #[.slice none 0 0,.slice none 0 0,.slice none 0 0,.slice none 0 0] 36 (0,0)) (.cells #[.slice none 0 0,.slice none 0 0,.slice none 0 0,.slice none 0 0] 36 (0,0)) (.cells #[aW D.s1,aW D.s2,aW D.s3,aW D.s4] 36 (0,0)) (fun (bq vI dh:Nat) (v:ah) (G:GH)=>match dh with|0=>v=(aK b2 7)|1=>v=.agg #[aW D.s1,aW D.s2,aW D.s3,aW D.s4]|2=>v=(aK b3 7)|3=>v=.agg #[aW E.s1,aW E.s2,aW E.s3,aW E.s4]|4=>v=(aK bq 0)|5=>v=(aK vI 0)|_=>True) (fun b b' c i v G hi hc h=>by (iterate 8 (rcases i with _|i;(first|exact h|exact absurd hi (by decide)|exact absurd hc (by decide))));exact trivial) (fun b c c' i v G hi hc h=>by (iterate 8 (rcases i with _|i;(first|exact h|exact absurd hi (by decide)|exact absurd hc (by decide))));exact trivial) H ?_ ?_ ?_ ?_ ?_ (by kernel_rfl) (by kernel_rfl) (by kernel_rfl)
 ·clear H;refine aC ?_ ?_ ?_ ?_ (aC ?_ ?_ ?_ ?_ dH)
  ·intro bq vI fI aT a w G1 fZ _ _ _ _ aP hc hG HT hv;have H:=HT;clear aP;have Hb:=H.full;have H:=Hb;clear hc;refine kH H (Rf GX rfl ?_);clear H;intro a H;refine aB ⟨rfl,?_⟩;exact Px
  ·intro bq vI fI aT a w G1 fZ _ _ _ _ aP hc hG HT hv;have H:=HT;clear aP;have H:=H.aN (hv 0 8 (hc 0 (by decide)) rfl) rfl;have Hb:=H.full;have H:=Hb;clear hc;refine aV vo (cs:=[aW D.s1,aW D.s2,aW D.s3,aW D.s4]) H wn rfl rfl (fun j v hj=>H.hp.aI (aF hG (hgs j v hj))) rfl ?_;clear H;intro a H;refine aB ⟨rfl,?_⟩;exact Px
  ·intro bq vI fI aT a w G1 fZ _ _ _ _ aP hc hG HT hv;have H:=HT;clear aP;have Hb:=H.full;have H:=Hb;clear hc;refine kH H (Rf GX rfl ?_);clear H;intro a H;refine aB ⟨rfl,?_⟩;exact Px
  ·intro bq vI fI aT a w G1 fZ _ _ _ _ aP hc hG HT hv;have H:=HT;clear aP;have H:=H.aN (hv 2 10 (hc 2 (by decide)) rfl) rfl;have Hb:=H.full;have H:=Hb;clear hc;refine aV vo (cs:=[aW E.s1,aW E.s2,aW E.s3,aW E.s4]) H wn rfl rfl (fun j v hj=>H.hp.aI (aF hG (hgt j v hj))) rfl ?_;clear H;intro a H;refine aB ⟨rfl,?_⟩;exact Px
  ·intro _ _ _ _ _ _ _ _ _ hB;exact fV
  ·intro _ _ _ _ _ _ _ _ _ _ hB;exact fV
  ·intro _ _ _ _ _ _ _ _ _ _ _ hB;exact fV
  intro _ _ _ _ _ _ _ _ hB;exact fV
 ·clear H;intro o_ vI fI aT a w G1 fZ oN _ hc hG HT hv;obtain rfl:_=o_:=Option.some.inj oN;clear oN;have H:=HT;have Hb:=H.full;have H:=Hb;clear hc;refine dP vo H wn rfl ?_;clear H;intro b5 a w hb5 H;refine aB ⟨rfl,b5,?_⟩;exact LW
 ·clear H;intro o_ bq fI aT a w G1 fZ oN _ hc hG HT hv;obtain rfl:_=o_:=Option.some.inj oN;clear oN;have H:=HT;have Hb:=H.full;have H:=Hb;clear hc;refine dP vo H wn rfl ?_;clear H;intro b6 a w hb6 H;refine aB ⟨rfl,b6,?_⟩;exact LW
 ·clear H;intro o_ bq vI aT a w G1 oN _ hc hG HT hv;obtain rfl:_=o_:=Option.some.inj oN;clear oN;have H:=HT;have H:=H.aN (hv 4 5 (hc 4 (by decide)) rfl) rfl;have H:=H.aN (hv 1 9 (hc 1 (by decide)) rfl) rfl;have Hb:=H.full;have H:=Hb;clear hc;refine bK vo 0 (vs:=[_,_,_,_]) H wn rfl ?_;clear H;intro w H;refine aB ⟨rfl,?_⟩;exact abO rfl HT hG hv H
 clear H;intro b5 b6 a w G jy H hv;have H:=H.aN (hv 4 5 rfl rfl) rfl;have H:=H.aN (hv 5 6 rfl rfl) rfl;have H:=H.aN (hv 3 11 rfl rfl) rfl;clear hv;refine bK vo 1 (vs:=[_,_,_,_]) H wn rfl ?_;clear H;intro w H;refine aB ⟨rfl,?_⟩;refine K2 _ _ ?_;clear K2;refine kP H (SR fun _ K3=>aj K3 rfl (SR fun _ K4=>Rf vO rfl (Rg kV rfl (aF jy (hga 0 _ rfl)) (Rf vO rfl (Rg kV rfl (aF jy (hge 0 _ rfl)) ?_)))));clear H K3;intro a H;refine s_call Va H wn rfl (aoe _ _ H.ro x.flow y.flow _ _ (hx1.mono jy) (hy1.mono jy) (by omega)) rfl ?_;clear H;rintro v16 ql a w ⟨b16,rfl,adz⟩ nA H;refine kH H (Rm rfl (Sp 17 rfl ?_ ?_)) <;> clear H
 ·intro cu a H
  try have lN:=dT cu
  refine kH H (YF Cj cu rfl ?_);clear H;intro a H;refine aV dW (cs:=[aW D.p,vi x.fin.marks.ins,vi x.fin.marks.move,aW D.d,aW D.y]) H (wg H rfl rfl cu) rfl rfl (fun j v hj=>H.hp.aI (aF nA (aF jy (hgd j v hj)))) rfl ?_;clear H;intro a H;refine kH H (YF Cj cu rfl ?_);clear H;intro a H;refine aV dW (cs:=[aW E.p,vi y.fin.marks.ins,vi y.fin.marks.move,aW E.d,aW E.y]) H (wg H rfl rfl cu) rfl rfl (fun j v hj=>H.hp.aI (aF nA (aF jy (hgf j v hj)))) rfl ?_;clear H;intro a H;refine s_call JJ H (wg H rfl rfl cu) rfl (JL _ _ H.ro x.fin y.fin _ _ _ _ _ _ ((hx2.mono jy).mono nA) ((hy2.mono jy).mono nA)) rfl ?_;clear H;rintro v22 Ti a w rfl DW H;refine kH H (Pt cu rfl (Rm rfl (Sp 24 rfl ?_ ?_))) <;> clear H
  ·intro bS a H
   try have jP:=dT bS
   refine kH H (YF Ck bS rfl (YR xu bS rfl (aF DW (aF nA (aF jy (hga 6 _ rfl)))) (YF Ck bS rfl (YR xu bS rfl (aF DW (aF nA (aF jy (hge 6 _ rfl)))) ?_))));clear H;intro a H;refine s_call ang H (wg H rfl rfl bS) rfl (aoc _ _ H.ro x.revs y.revs _ _ (((hx3.mono jy).mono nA).mono DW) (((hy3.mono jy).mono nA).mono DW)) rfl ?_;clear H;rintro v29 zw a w rfl E8 H;have hx5:=(((hx4.mono jy).mono nA).mono DW).mono E8;have QV:=(((hy4.mono jy).mono nA).mono DW).mono E8;refine kH H (Pt bS rfl (Rm rfl (Sp 31 rfl ?_ ?_))) <;> clear H
   ·intro h31 a H
    try have p31:=dT h31
    refine kH H (YF Dx h31 rfl (YO qM 0 h31 rfl (YF Dx h31 rfl (YO qM 1 h31 rfl ?_))));clear H;intro a H;refine s_call anh H (wg H rfl rfl h31) rfl (anO _ _ H.ro x.iq.styles y.iq.styles _ _ hx5.st QV.st) rfl ?_;clear H;rintro v36 G36 a w ⟨b36,rfl,ayC⟩ Km H;refine kH H (Pt h31 rfl (Rm rfl (Sp 38 rfl ?_ ?_))) <;> clear H
    ·intro fT a H
     try have p38:=dT fT
     refine kH H (YF Dy fT rfl (YO zl 0 fT rfl (YF Dy fT rfl (YO zl 1 fT rfl (YM fT rfl ?_)))));clear H;intro a H;refine s_call ani H (wg H rfl rfl fT) rfl (anR _ _ H.ro x.iq.lists y.iq.lists _ _ _ (hx5.li.mono Km) (QV.li.mono Km) (fun i h1 h2=>anL _ _ _)) rfl ?_;clear H;rintro v44 Zw a w ⟨b44,rfl,ayF⟩ M5 H;refine kH H (Pt fT rfl (Rm rfl (Sp 46 rfl ?_ ?_))) <;> clear H
     ·intro h46 a H
      try have p46:=dT h46
      refine kH H (YF MH h46 rfl (YO CZ 0 h46 rfl (YF MH h46 rfl (YO CZ 1 h46 rfl ?_))));clear H;intro a H;refine s_call anj H (wg H rfl rfl h46) rfl (aoa _ _ H.ro x.iq.comments y.iq.comments _ _ ((hx5.cm.mono Km).mono M5) ((QV.cm.mono Km).mono M5)) rfl ?_;clear H;rintro v51 G51 a w rfl Ko H;refine kH H (Pt h46 rfl (Rm rfl (Sp 53 rfl ?_ ?_))) <;> clear H
      ·intro rD a H
       try have p53:=dT rD
       refine kH H (YF MI rD rfl (YO xw 0 rD rfl (YF MI rD rfl (YO xw 1 rD rfl ?_))));clear H;intro a H;refine s_call ank H (wg H rfl rfl rD) rfl (aod _ _ H.ro x.iq.vars y.iq.vars _ _ (((hx5.va.mono Km).mono M5).mono Ko) (((QV.va.mono Km).mono M5).mono Ko)) rfl ?_;clear H;rintro v58 G58 a w rfl aqP H;exact kH H (Pt rD rfl (aj K4 rfl (LR results16 rfl fun H=>H.rt ⟨_,rfl,by rw [<- he];simp_all⟩)))
      intro rD a H
      try have p53:=dF rD
      exact kH H (aM rD rfl (aJ rD rfl (Pf rD rfl (aj K4 rfl (LR results16 rfl fun H=>H.rt ⟨_,rfl,by rw [<- he];simp_all⟩)))))
     intro h46 a H
     try have p46:=dF h46
     exact kH H (aM h46 rfl (aJ h46 rfl (Pf h46 rfl (Rm rfl (aM rfl rfl (aJ rfl rfl (Pf rfl rfl (aj K4 rfl (LR results16 rfl fun H=>H.rt ⟨_,rfl,by rw [<- he];simp_all⟩)))))))))
    intro fT a H
    try have p38:=dF fT
    exact kH H (aM fT rfl (aM fT rfl (Pf fT rfl (Rm rfl (aM rfl rfl (aJ rfl rfl (Pf rfl rfl (Rm rfl (aM rfl rfl (aJ rfl rfl (Pf rfl rfl (aj K4 rfl (LR results16 rfl fun H=>H.rt ⟨_,rfl,by rw [<- he];simp_all⟩)))))))))))))
   intro h31 a H
   try have p31:=dF h31
   exact kH H (aM h31 rfl (aJ h31 rfl (Pf h31 rfl (Rm rfl (aM rfl rfl (aM rfl rfl (Pf rfl rfl (Rm rfl (aM rfl rfl (aJ rfl rfl (Pf rfl rfl (Rm rfl (aM rfl rfl (aJ rfl rfl (Pf rfl rfl (aj K4 rfl (LR results16 rfl fun H=>H.rt ⟨_,rfl,by rw [<- he];simp_all⟩)))))))))))))))))
  intro bS a H
  try have jP:=dF bS
  exact kH H (aM bS rfl (aJ bS rfl (Pf bS rfl (Rm rfl (aM rfl rfl (aJ rfl rfl (Pf rfl rfl (Rm rfl (aM rfl rfl (aM rfl rfl (Pf rfl rfl (Rm rfl (aM rfl rfl (aJ rfl rfl (Pf rfl rfl (Rm rfl (aM rfl rfl (aJ rfl rfl (Pf rfl rfl (aj K4 rfl (LR results16 rfl fun H=>H.rt ⟨_,rfl,by rw [<- he];simp_all⟩)))))))))))))))))))))
 intro cu a H
 try have lN:=dF cu
 refine kH H (aM cu rfl (aJ cu rfl (Pf cu rfl (Rm rfl (aM rfl rfl (aJ rfl rfl (Pf rfl rfl (Rm rfl (aM rfl rfl (aJ rfl rfl (Pf rfl rfl (Rm rfl (aM rfl rfl (aM rfl rfl (Pf rfl rfl (Rm rfl (aM rfl rfl (aJ rfl rfl (Pf rfl rfl (Rm rfl (aM rfl rfl (aJ rfl rfl ?_))))))))))))))))))))));clear H;intro a H;exact kH H (Pf rfl rfl (aj K4 rfl (LR results16 rfl fun H=>H.rt ⟨_,rfl,by rw [<- he];simp_all⟩)))
theorem UO:aQ 12:=aR func12 rfl
theorem alq:aQ 13:=aR func13 rfl
theorem UY:aQ 16:=aR func16 rfl
theorem amG:aQ 24:=aR func24 rfl
theorem amL:aQ 25:=aR func25 rfl
theorem Qq (k:Int):nT [] k=false:=by
 have:gQ [] k=0:=Nat.le_zero.1 (EI [] k)
 unfold nT;rw [this];rfl
section
variable {acc rej acc' azv:Int->Bool}
def Left (C:bC) (acc rej:Int->Bool) (h:dN):Prop:=∀ q∈refs h,q=0∨(q∈C.kM∧acc q=false∧rej q=false)
theorem PW {C:bC} {e:Int} {h:dN} (hE:iM C e h=0) (hg:¬ lG acc rej h):Left C acc rej (iH acc rej h):=by
 have hh:=(Cu _ _ _).1 hE;intro q hq
 unfold refs at hq
 rcases iy.1 hq with rfl|hq
 ·show (if jV acc h then 0 else h.marks.ins)=0∨_
  by_cases hi:jV acc h
  ·rw [aD hi];exact .inl rfl
  show _∨((if jV acc h then 0 else h.marks.ins)∈_∧acc (if jV acc h then 0 else h.marks.ins)=false∧rej (if jV acc h then 0 else h.marks.ins)=false)
  rw [av hi]
  by_cases h0:h.marks.ins=0
  ·exact .inl h0
  refine .inr ⟨hh.mrk.1 h0,?_,?_⟩
  ·cases ha:acc h.marks.ins
   ·rfl
   exact absurd ⟨h0,ha⟩ hi
  cases ha:rej h.marks.ins
  ·rfl
  exact absurd (.inl ⟨h0,ha⟩) hg
 rcases jS.1 hq with hq|hq
 ·obtain ⟨x,hx,rfl⟩:=List.mem_map.1 hq;have hx2:x∈h.marks.bJ.filter fun x=>!rej x.rev:=hx;rw [List.mem_filter] at hx2;refine .inr ⟨(hh.dl.1 x hx2.1).1,?_,by simpa using hx2.2⟩
  cases ha:acc x.rev
  ·rfl
  exact absurd (.inr ⟨x,hx2.1,ha⟩) hg
 obtain ⟨y,hy,rfl⟩:=List.mem_map.1 hq;obtain ⟨z,hz,e,h1,h2⟩:=(JH acc rej hh).2 y hy;rw [<- e];exact .inr ⟨(hh.ly.1 z hz).1,h2,h1⟩
theorem ado:∀ a b:List au,kC (a++b)=kC a++kC b
 | [],b=>by simp [kC]
 | x :: a,b=>by simp [kC,ado a b]
theorem adv:∀ a b:List aU,pY (a++b)=pY a++pY b
 | [],b=>by simp [pY]
 | x :: a,b=>by simp [pY,adv a b]
theorem adl:∀ a b:List aX,qH (a++b)=qH a++qH b
 | [],b=>by simp [qH]
 | x :: a,b=>by simp [qH,adl a b]
theorem Ui {p:Prop} (h:p:=by
 exact (jS.1 hh).elim (a h0) (b h0)):p:=h
mutual
theorem auY (C:bC) (body note:Bool) (t:Int):∀ x:au,lM C body note t x->∀ h∈kC (mH acc rej x),Left C acc rej h
 | .mk k c i tx h f r,hx,h0,hh=>by
  have hf:=RU C false true t f;have hr:=agr C note (t+1) r;rw [lM] at hx;obtain ⟨-,-,h3,h4,h5⟩:=hx;rw [mH] at hh
  split at hh
  ·rw [kC] at hh;cases hh
  rename_i hg
  have hd:=PW h3 hg
  have one:∀ y:au,kC [y]=AO y:=fun y=>by rw [kC,kC,iF]
  split at hh
  ·rename_i h6
   rw [one,AO,aD h6,av (show ¬ k=7 by omega),iF] at hh
   rcases iy.1 hh with rfl|hh
   ·exact hd
   exact hf (h4 h6) h0 hh
  rename_i h6
  split at hh
  ·rename_i h7
   split at hh
   ·rw [kC] at hh;cases hh
   rw [one,AO,av h6,aD h7,nQ] at hh
   rcases iy.1 hh with rfl|hh
   ·exact hd
   exact hr (h5 h7).2 h0 hh
  rename_i h7
  rw [one,AO,av h6,av h7,nQ] at hh;rw [pU.1 hh];exact hd
theorem auZ (C:bC) (note:Bool) (t:Int):∀ x:aU,oV C note t x->∀ h∈pY (nY acc rej x),Left C acc rej h
 | .mk h cs,hx,h0,hh=>by
  have hc:=agq C note t cs;rw [oV] at hx;rw [nY] at hh
  split at hh
  ·rw [pY] at hh;cases hh
  rename_i hg
  split at hh
  ·rw [pY] at hh;cases hh
  rw [pY,pY,iF,EY] at hh
  rcases iy.1 hh with rfl|hh
  ·exact PW (NP.1 hx.1).1 hg
  exact hc hx.2 h0 hh
theorem auX (C:bC) (note:Bool) (t:Int):∀ x:aX,oU C note t x->∀ h∈qH (oH acc rej x),Left C acc rej h
 | .mk i h f,hx,h0,hh=>by
  have hf:=RU C false note t f;rw [oU] at hx;rw [oH] at hh
  split at hh
  ·rw [qH] at hh;cases hh
  rename_i hg
  rw [qH,qH,iF,EW] at hh
  rcases iy.1 hh with rfl|hh
  ·exact PW hx.1 hg
  exact hf hx.2 h0 hh
theorem RU (C:bC) (body note:Bool) (t:Int):∀ l:List au,iN C body note t l->∀ h∈kC (dV acc rej l),Left C acc rej h
 | [],_,h0,hh=>by rw [dV,kC] at hh;cases hh
 | x :: l,h,h0,hh=>by
  rw [iN] at h;have a:=auY C body note t x h.1;have b:=RU C body note t l h.2;rw [dV,ado] at hh;exact Ui
theorem agr (C:bC) (note:Bool) (t:Int):∀ l:List aU,jX C note t l->∀ h∈pY (gH acc rej l),Left C acc rej h
 | [],_,h0,hh=>by rw [gH,pY] at hh;cases hh
 | x :: l,h,h0,hh=>by
  rw [jX] at h;have a:=auZ C note t x h.1;have b:=agr C note t l h.2;rw [gH,adv] at hh;exact Ui
theorem agq (C:bC) (note:Bool) (t:Int):∀ l:List aX,kL C note t l->∀ h∈qH (gB acc rej l),Left C acc rej h
 | [],_,h0,hh=>by rw [gB,qH] at hh;cases hh
 | x :: l,h,h0,hh=>by
  rw [kL] at h;have a:=auX C note t x h.1;have b:=agq C note t l h.2;rw [gB,adl] at hh;exact Ui
end
def Ol (acc rej:Int->Bool) (r:List bV):List bV:=r.filter fun x=>!acc x.id && !rej x.id
theorem aaL {p:Prop} (h:p:=by
 exact g3 (.inr (by have:=List.length_pos_of_mem hx;omega))):p:=h
theorem avh {d:gu} (h:iK d=0):iK ⟨dV acc rej d.flow,eZ acc rej d.fin,Ol acc rej d.revs,d.iq⟩=0:=by
 obtain ⟨g1,⟨g2,g3⟩,g4,-,-⟩:=(zI _).1 h;obtain ⟨h1,h2,h3,h4,h5⟩:=(zI _).1 (NQ (acc:=acc) (rej:=rej) h);have hg:=agH h1.2
 have h0:(0:Int)∉(iY acc rej d).kG.kM:=by
  intro hm;obtain ⟨x,hx,e⟩:=List.mem_map.1 (show (0:Int)∈d.revs.map bV.id from hm);have:=(hg.2.1 x hx).2.2.1
  omega
 have hin:∀ q,(q=0∨(q∈d.kG.kM∧acc q=false∧rej q=false))->q≠0->q∈(Ol acc rej d.revs).map bV.id:=by
  intro q hq hn;obtain ⟨a,b,c⟩:=hq.resolve_left hn;obtain ⟨x,hx,rfl⟩:=List.mem_map.1 (show q∈d.revs.map bV.id from a);exact List.mem_map.2 ⟨x,List.mem_filter.2 ⟨hx,by simp [b,c]⟩,rfl⟩
 have hgo:¬ lG acc rej d.fin:=by
  unfold uz at g3
  rw [sQ] at g3;rintro (⟨a,-⟩|⟨x,hx,-⟩)
  ·exact g3 (.inl (.inl a))
  exact aaL
 refine (zI _).2 ⟨⟨h1.1,adi (hg.sub List.filter_sublist)⟩,⟨MW (C:=(iY acc rej d).kG) (C':=bL [] d.iq.styles d.iq.lists (Ol acc rej d.revs)) rfl rfl h0 (fun q hq hn=>hin q ?_ hn) h2.1,h2.2⟩,NU (C:=(iY acc rej d).kG) (C':=bL [] d.iq.styles d.iq.lists (Ol acc rej d.revs)) rfl rfl h0 true false 0 _ (fun x hx q hq hn=>hin q (RU d.kG true false 0 _ g4 x hx q hq) hn) h3,h4,h5⟩;have hl:=PW g2 hgo;rw [show eZ acc rej d.fin=iH acc rej d.fin from av hgo] at hq;exact hl q hq
theorem axC {d:gu} (h:iK d=0) {q:Int} (hq:q∈nN (oP (iY acc rej d))):q∈(Ol acc rej d.revs).map bV.id:=by
 have h1:=(Rj (avh (acc:=acc) (rej:=rej) h)).1
 unfold nN at hq
 rw [List.mem_filter,pF,O7] at hq;obtain ⟨hq|hq,hn⟩:=hq
 ·cases hq
 exact (RO h1 q hq).resolve_left hn
end
abbrev cF:Int->Bool:=fun _=>false
abbrev cT:Int->Bool:=fun _=>true
section
abbrev kR:=Int × Bool
def Ed (k:Int):kR->List (Int × kR)->List bZ
 | _,[]=>[]
 | s,(r,t) :: p=>⟨r,k,s.1,s.2⟩ :: Ed k t p
def Du:kR->List (Int × kR)->kR
 | s,[]=>s
 | _,(_,t) :: p=>Du t p
def yY:List bZ->kR->kR
 | [],now=>now
 | y :: _,_=>(y.before,y.had)
def qN:List bZ->kR->List (Int × kR)
 | [],_=>[]
 | y :: r,now=>(y.rev,yY r now) :: qN r now
def dA (acc:Int->Bool):kR->List (Int × kR)->kR × List (Int × kR)
 | s,[]=>(s,[])
 | s,(r,t) :: p=>if ((r,t) :: p).any (fun q=>acc q.1)=true then dA acc t p else (s,(r,t) :: p)
def uP (acc rej:Int->Bool) (q:kR × List (Int × kR)):kR × List (Int × kR):=((dA acc q.1 q.2).1,(dA acc q.1 q.2).2.filter fun x=>!rej x.1)
theorem aga (k:Int):∀ (p:List (Int × kR)) (s:kR),yY (Ed k s p) (Du s p)=s
 | [],_=>rfl
 | (_,_) :: _,_=>rfl
theorem agb (k:Int):∀ (p:List (Int × kR)) (s:kR),qN (Ed k s p) (Du s p)=p
 | [],_=>rfl
 | (r,t) :: p,s=>by
  rw [Ed,Du,qN,aga,agb]
theorem JE {acc:Int->Bool} {s:kR} {p:List (Int × kR)} (h:p.any (fun q=>acc q.1)=false):dA acc s p=(s,p):=by
 cases p with
 | nil=>rfl
 | cons x p=>rw [dA,av (by rw [h];decide)]
theorem akz {acc:Int->Bool} {s t:kR} {p:List (Int × kR)} (h:p.any (fun q=>acc q.1)=true):dA acc s p=dA acc t p:=by
 cases p with
 | nil=>cases h
 | cons x p=>rw [dA,dA,aD h,aD h]
def fP (f g:Int->Bool):Int->Bool:=fun q=>f q || g q
variable {acc rej dM eO fq iD:Int->Bool}
theorem UF (x2:∀ q,eO q=true->fq q=false):∀ (p:List (Int × kR)) (s:kR),p.any (fun q=>dM q.1)=false ->
  dA fq s (p.filter fun x=>!eO x.1)=((dA (fP dM fq) s p).1,(dA (fP dM fq) s p).2.filter fun x=>!eO x.1)
 | [],_,_=>rfl
 | (r,t) :: p,s,h=>by
  rw [List.any_cons,Bool.or_eq_false_iff] at h;obtain ⟨h1,h2⟩:=h;dsimp only at h1;have ihs:=UF x2 p s h2;have iht:=UF x2 p t h2
  have hor:fP dM fq r=fq r:=by unfold fP;rw [h1,Bool.false_or]
  have hany:(p.filter fun x=>!eO x.1).any (fun q=>fq q.1)=p.any fun q=>fP dM fq q.1:=by
   rw [tY,List.any_eq_true,List.any_eq_true]
   constructor
   ·rintro ⟨x,hx,ha⟩;exact ⟨x,(List.mem_filter.1 hx).1,by unfold fP;rw [ha,Bool.or_true]⟩
   rintro ⟨x,hx,ha⟩
   have h3:dM x.1=false:=by
    cases e:dM x.1
    ·rfl
    rw [List.any_eq_false] at h2;exact absurd e (h2 x hx)
   unfold fP at ha
   rw [h3,Bool.false_or] at ha;refine ⟨x,List.mem_filter.2 ⟨hx,?_⟩,ha⟩
   cases e:eO x.1
   ·rfl
   rw [x2 _ e] at ha;cases ha
  by_cases hr:eO r=true
  ·rw [List.filter_cons_of_neg (by simp [hr])];have hac:fq r=false:=x2 _ hr
   by_cases ha:p.any (fun q=>fP dM fq q.1)=true
   ·have e:dA (fP dM fq) s ((r,t) :: p)=dA (fP dM fq) t p:=by rw [dA,aD (by rw [List.any_cons,ha,Bool.or_true])]
    rw [e,akz (t:=t) (by rw [hany];exact ha),iht]
   have ha':p.any (fun q=>fP dM fq q.1)=false:=by rw [Bool.not_eq_true] at ha;exact ha
   have e:dA (fP dM fq) s ((r,t) :: p)=(s,(r,t) :: p):=JE (by rw [List.any_cons,ha',hor,hac];rfl);rw [e,ihs,JE ha'];dsimp only;rw [List.filter_cons_of_neg (by simp [hr])]
  have hr':eO r=false:=by simpa using hr
  rw [List.filter_cons_of_pos (by simp [hr'])]
  have hc:((r,t) :: p.filter fun x=>!eO x.1).any (fun q=>fq q.1)=((r,t) :: p).any fun q=>fP dM fq q.1:=by
   rw [List.any_cons,List.any_cons,hany,hor]
  by_cases ha:((r,t) :: p).any (fun q=>fP dM fq q.1)=true
  ·rw [dA,aD (by rw [hc];exact ha),dA,aD ha,iht]
  rw [dA,av (by rw [hc];exact ha),dA,av ha];dsimp only;rw [List.filter_cons_of_pos (by simp [hr'])]
theorem abG (x2:∀ q,eO q=true->fq q=false):∀ (p:List (Int × kR)) (s:kR),uP fq iD (uP dM eO (s,p))=uP (fP dM fq) (fP eO iD) (s,p)
 | [],_=>rfl
 | (r,t) :: p,s=>by
  by_cases ha:((r,t) :: p).any (fun q=>dM q.1)=true
  ·have ih:=abG x2 p t
   have e1:uP dM eO (s,(r,t) :: p)=uP dM eO (t,p):=by
    unfold uP;dsimp only;rw [dA,aD ha]
   have e2:uP (fP dM fq) (fP eO iD) (s,(r,t) :: p)=uP (fP dM fq) (fP eO iD) (t,p):=by
    unfold uP;dsimp only
    rw [dA,aD];rw [List.any_eq_true] at ha |-;obtain ⟨x,hx,hq⟩:=ha;exact ⟨x,hx,by unfold fP;rw [hq,Bool.true_or]⟩
   rw [e1,e2,ih]
  have ha':((r,t) :: p).any (fun q=>dM q.1)=false:=by rw [Bool.not_eq_true] at ha;exact ha
  unfold uP
  dsimp only;rw [JE ha'];dsimp only;rw [UF x2 _ _ ha'];dsimp only;rw [List.filter_filter];refine cO (Prod.mk _) (List.filter_congr fun x _=>?_)
  unfold fP
  cases eO x.1 <;> cases iD x.1 <;> rfl
theorem YS {props:List aL} {key:Int}:∀ {l:List bZ} {k:Nat},k<=l.length->(qg props key l).getD k (0,false)=yY (l.drop k) (jE props key)
 | [],k,h=>by
  have:k=0:=by simpa using h
  subst this;rfl
 | y :: r,0,_=>rfl
 | y :: r,k+1,h=>by
  have ih:=YS (props:=props) (key:=key) (l:=r) (k:=k) (by simpa using h);rw [xG,<- ih];rfl
theorem afc {props:List aL} {key:Int} {full:List bZ}:∀ (l:List bZ) (k:Nat) (now:kR),full.drop k=l->k<=full.length->(∀ y∈l,y.key=key) ->
  uy rej (qg props key full) l k now=(Ed key now ((qN l (jE props key)).filter fun x=>!rej x.1),Du now ((qN l (jE props key)).filter fun x=>!rej x.1))
 | [],_,now,_,_,_=>by rw [uy,qN];rfl
 | y :: r,k,now,hd,hk,hy=>by
  have hlt:k < full.length:=by
   rcases Nat.lt_or_ge k full.length with h|h
   ·exact h
   rw [List.drop_eq_nil_of_le h] at hd;cases hd
  have hd2:full.drop (k+1)=r:=by rw [<- List.drop_drop,hd];rfl
  have ih:=fun now=>afc (props:=props) r (k+1) now hd2 (by omega) fun z hz=>hy z (gV _ hz);rw [uy,qN]
  by_cases hr:rej y.rev=true
  ·rw [aD hr,ih,List.filter_cons_of_neg (by simp [hr])]
  rw [av hr];dsimp only;rw [ih,List.filter_cons_of_pos (by simpa using hr),YS (by omega),hd2,Ed,Du,hy y fE]
theorem MK:∀ (l:List bZ) (k c:Nat),l.any (fun y=>acc y.rev)=false->iZ acc l k c=c
 | [],_,_,_=>by rw [iZ]
 | y :: r,k,c,h=>by
  rw [List.any_cons,Bool.or_eq_false_iff] at h;rw [iZ,h.1,av (by decide)];exact MK r _ _ h.2
theorem Vx:∀ (l:List bZ) (k c:Nat),l.any (fun y=>acc y.rev)=true->iZ acc l k c=k+iZ acc l 0 0
 | [],_,_,h=>by cases h
 | y :: r,k,c,h=>by
  rw [iZ,iZ]
  by_cases hr:r.any (fun y=>acc y.rev)=true
  ·rw [Vx r (k+1) _ hr,Vx r (0+1) _ hr];omega
  have hr':r.any (fun y=>acc y.rev)=false:=by rw [Bool.not_eq_true] at hr;exact hr
  rw [List.any_cons,hr',Bool.or_false] at h;rw [MK _ _ _ hr',MK _ _ _ hr',aD h,aD h]
theorem SK (now:kR):∀ l:List bZ,(qN l now).any (fun q=>acc q.1)=l.any fun y=>acc y.rev
 | []=>rfl
 | y :: r=>by rw [qN,List.any_cons,List.any_cons,SK now r]
theorem adb (now:kR):∀ l:List bZ,dA acc (yY l now) (qN l now)=(yY (l.drop (iZ acc l 0 0)) now,qN (l.drop (iZ acc l 0 0)) now)
 | []=>rfl
 | y :: r=>by
  have ih:=adb now r
  by_cases hr:r.any (fun y=>acc y.rev)=true
  ·have e:iZ acc (y :: r) 0 0=iZ acc r 0 0+1:=by rw [iZ,Vx _ _ _ hr];omega
   rw [e,xG,<- ih,qN,dA,aD (by rw [List.any_cons,SK,hr,Bool.or_true])]
  have hr':r.any (fun y=>acc y.rev)=false:=by rw [Bool.not_eq_true] at hr;exact hr
  by_cases hy:acc y.rev=true
  ·have e:iZ acc (y :: r) 0 0=1:=by rw [iZ,MK _ _ _ hr',aD hy]
   rw [e,qN,dA,aD (by rw [List.any_cons,hy,Bool.true_or])];rw [JE (by rw [SK];exact hr')]
   rfl
  have e:iZ acc (y :: r) 0 0=0:=by rw [iZ,MK _ _ _ hr',av hy]
  rw [e,wH];exact JE (by rw [SK,List.any_cons,hr',Bool.or_false];simpa using hy)
theorem Qk {props:List aL} {key:Int} {l:List bZ} (h:∀ y∈l,y.key=key) :
  lY acc rej props key l=(Ed key (uP acc rej (yY l (jE props key),qN l (jE props key))).1 (uP acc rej (yY l (jE props key),qN l (jE props key))).2,Du (uP acc rej (yY l (jE props key),qN l (jE props key))).1 (uP acc rej (yY l (jE props key),qN l (jE props key))).2):=by
 have hle:iZ acc l 0 0<=l.length:=by have:=ada acc l 0 0 (eP _);omega
 unfold lY uP
 dsimp only;rw [adb,YS hle,afc _ _ _ rfl hle fun y hy=>h y (List.mem_of_mem_drop hy)]
def Ag (l:List aL):Prop:=l.Pairwise fun x y=>x.key < y.key
theorem get_some {l:List aL} (hs:Ag l) {k v:Int} (h:(⟨k,v⟩:aL)∈l):jE l k=(v,true):=by
 have hh:nT (l.map aL.key) k=true:=by
  rw [J7 (List.pairwise_map.2 (hs.imp fun h=>Int.le_of_lt h)),pF];exact List.mem_map.2 ⟨_,h,rfl⟩
 obtain ⟨h1,h2⟩:=J8 hh
 unfold jE
 rw [aD hh,List.getD_eq_getElem?_getD,eD h1,Option.getD_some];obtain ⟨j,hj,e⟩:=List.getElem_of_mem h
 have hij:gQ (l.map aL.key) k=j:=by
  rcases Nat.lt_trichotomy (gQ (l.map aL.key) k) j with h3|h3|h3
  ·have:=List.pairwise_iff_getElem.1 hs _ _ h1 hj h3;rw [h2,e] at this;exact absurd this (Int.lt_irrefl _)
  ·exact h3
  have:=List.pairwise_iff_getElem.1 hs _ _ hj h1 h3;rw [h2,e] at this;exact absurd this (Int.lt_irrefl _)
 have e2:l[gQ (l.map aL.key) k]=⟨k,v⟩:=by
  rw [<- e];congr 1
 rw [e2]
theorem get_none {l:List aL} (hs:Ag l) {k:Int} (h:∀ p∈l,p.key≠k):jE l k=(0,false):=by
 unfold jE
 rw [av];intro hh;obtain ⟨h1,h2⟩:=J8 hh;exact h _ (lC h1) h2
theorem get_mem {l:List aL} (hs:Ag l) {k v:Int} (h:jE l k=(v,true)):(⟨k,v⟩:aL)∈l:=by
 by_cases hp:∃ p∈l,p.key=k
 ·obtain ⟨⟨k',v'⟩,hm,e⟩:=hp;dsimp only at e;subst e;rw [get_some hs hm] at h
  injection h with h1 h2
  rw [<- h1];exact hm
 rw [get_none hs fun p hpm e=>hp ⟨p,hpm,e⟩] at h
 injection h with _ h2
 cases h2
theorem afZ {l:List aL} (hs:Ag l) (p:aL):p∈l↔jE l p.key=(p.value,true):=⟨fun h=>get_some hs h,fun h=>get_mem hs h⟩
theorem afY {l m:List aL} (hl:Ag l) (hm:Ag m) (h:∀ k,jE l k=jE m k):l=m:=by
 have hmem:∀ p,p∈l↔p∈m:=fun p=>by rw [afZ hl,afZ hm,h]
 clear h
 induction l generalizing m with
 | nil =>
  cases m with
  | nil=>rfl
  | cons y m=>exact absurd ((hmem y).2 fE) (by simp)
 | cons x l ih =>
  cases m with
  | nil=>exact absurd ((hmem x).1 fE) (by simp)
  | cons y m =>
   obtain ⟨l1,l2⟩:=qo.1 hl;obtain ⟨m1,m2⟩:=qo.1 hm
   have e:x=y:=by
    rcases iy.1 ((hmem x).1 fE) with e|hx
    ·exact e
    rcases iy.1 ((hmem y).2 fE) with e|hy
    ·exact e.symm
    have:=m1 x hx;have:=l1 y hy
    omega
   subst e;rw [ih l2 m2 fun p=>?_]
   constructor
   ·intro hp
    rcases iy.1 ((hmem p).1 (gV _ hp)) with rfl|h
    ·exact absurd (l1 p hp) (Int.lt_irrefl _)
    exact h
   intro hp
   rcases iy.1 ((hmem p).2 (gV _ hp)) with rfl|h
   ·exact absurd (m1 p hp) (Int.lt_irrefl _)
   exact h
theorem agS {l:List aL} (hs:Ag l) (k v:Int) (p:aL):p∈Bt l k v↔p=⟨k,v⟩∨(p∈l∧p.key≠k):=by
 unfold Bt
 split
 ·rename_i h
  obtain ⟨h1,h2⟩:=J8 h;rw [List.getD_eq_getElem?_getD,eD h1,Option.getD_some,h2]
  have hne:∀ j (hj:j < l.length),j≠gQ (l.map aL.key) k->l[j].key≠k:=fun j hj hn e=>by
   rcases Nat.lt_or_gt_of_ne hn with h3|h3
   ·have:=List.pairwise_iff_getElem.1 hs _ _ hj h1 h3
    omega
   have:=List.pairwise_iff_getElem.1 hs _ _ h1 hj h3
   omega
  constructor
  ·intro hp;obtain ⟨j,hj,e⟩:=List.getElem_of_mem hp;rw [List.length_set] at hj;rw [List.getElem_set] at e
   split at e
   ·exact .inl e.symm
   rename_i hn
   rw [<- e];exact .inr ⟨lC hj,hne j hj fun e=>hn e.symm⟩
  rintro (rfl|⟨hp,hk⟩)
  ·exact List.mem_set (by exact h1) _
  obtain ⟨j,hj,e⟩:=List.getElem_of_mem hp
  have hn:gQ (l.map aL.key) k≠j:=fun e2=>by subst e2;rw [e] at h2;exact hk h2
  have:(l.set (gQ (l.map aL.key) k) ⟨k,v⟩)[j]'(by rw [List.length_set];exact hj)=p:=by rw [List.getElem_set,av hn,e]
  rw [<- this];exact lC _
 rename_i h
 have hne:∀ p∈l,p.key≠k:=fun p hpm he=>by
  rw [J7 (List.pairwise_map.2 (hs.imp fun h=>Int.le_of_lt h)),pF] at h;exact h (List.mem_map.2 ⟨p,hpm,he⟩)
 rw [jS,iy]
 constructor
 ·rintro (hp|rfl|hp)
  ·exact .inr ⟨List.mem_of_mem_take hp,hne p (List.mem_of_mem_take hp)⟩
  ·exact .inl rfl
  exact .inr ⟨List.mem_of_mem_drop hp,hne p (List.mem_of_mem_drop hp)⟩
 rintro (rfl|⟨hp,-⟩)
 ·exact .inr (.inl rfl)
 rw [<- List.take_append_drop (gQ (l.map aL.key) k) l] at hp
 rcases jS.1 hp with hp|hp
 ·exact .inl hp
 exact .inr (.inr hp)
theorem abl {l:List aL} (hs:Ag l) (k:Int) (p:aL):p∈Aq l k↔p∈l∧p.key≠k:=by
 unfold Aq
 split
 ·rename_i h
  obtain ⟨h1,h2⟩:=J8 h
  have hsp:l=l.take (gQ (l.map aL.key) k)++l[gQ (l.map aL.key) k] :: l.drop (gQ (l.map aL.key) k+1):=by
   rw [List.getElem_cons_drop,List.take_append_drop]
  have hs2:=hs
  unfold Ag at hs2
  rw [hsp,List.pairwise_append,qo] at hs2;obtain ⟨-,⟨b,-⟩,c⟩:=hs2
  constructor
  ·intro hp
   rcases jS.1 hp with hp|hp
   ·have:=c p hp _ fE;exact ⟨List.mem_of_mem_take hp,by omega⟩
   have:=b p hp;exact ⟨List.mem_of_mem_drop hp,by omega⟩
  rintro ⟨hp,hk⟩;rw [hsp] at hp
  rcases jS.1 hp with hp|hp
  ·exact jS.2 (.inl hp)
  rcases iy.1 hp with rfl|hp
  ·exact absurd h2 hk
  exact jS.2 (.inr hp)
 rename_i h
 refine ⟨fun hp=>⟨hp,fun he=>?_⟩,fun hp=>hp.1⟩;rw [J7 (List.pairwise_map.2 (hs.imp fun h=>Int.le_of_lt h)),pF] at h;exact h (List.mem_map.2 ⟨p,hp,he⟩)
theorem aoR {l:List aL} (hs:Ag l) {k:Int} {s:kR} (hw:Ag (vB l k s)) (h0:s.2=false->s.1=0) (k':Int):jE (vB l k s) k'=if k'=k then s else jE l k':=by
 obtain ⟨v,b⟩:=s
 have other:∀ p:aL,p.key≠k->(p∈vB l k (v,b)↔p∈l):=fun p hp=>by
  unfold vB
  split
  ·rw [agS hs];exact ⟨fun h=>h.elim (fun e=>absurd (by rw [e]) hp) fun h=>h.1,fun h=>.inr ⟨h,hp⟩⟩
  rw [abl hs];exact ⟨fun h=>h.1,fun h=>⟨h,hp⟩⟩
 by_cases hk:k'=k
 ·subst hk;rw [aD rfl]
  cases b with
  | true =>
   refine get_some hw ?_
   show _∈Bt l k' v
   rw [agS hs];exact .inl rfl
  | false =>
   have:=h0 rfl;dsimp only at this;subst this;refine get_none hw fun p hp=>?_;have hp:p∈Aq l k':=hp;rw [abl hs] at hp;exact hp.2
 rw [av hk]
 by_cases hp:∃ p∈l,p.key=k'
 ·obtain ⟨⟨k2,v2⟩,hm,e⟩:=hp;dsimp only at e;subst e;rw [get_some hs hm];exact get_some hw ((other _ hk).2 hm)
 rw [get_none hs fun p hpm e=>hp ⟨p,hpm,e⟩];exact get_none hw fun p hpm e=>hp ⟨p,(other p (by rw [e];exact hk)).1 hpm,e⟩
end
section
variable {acc rej dM eO fq iD:Int->Bool}
def lI (k:Int) (l:List bZ):List bZ:=l.filter fun y=>decide (y.key=k)
theorem afj (k:Int) (a b:List bZ):lI k (a++b)=lI k a++lI k b:=List.filter_append ..
theorem afi {k:Int} {l:List bZ} (h:∀ y∈l,y.key=k):lI k l=l:=List.filter_eq_self.2 fun y hy=>by simpa using h y hy
theorem Q8 {k:Int} {l:List bZ} (h:∀ y∈l,y.key≠k):lI k l=[]:=List.filter_eq_nil_iff.2 fun y hy=>by simpa using h y hy
theorem NC {k:Int} {l:List bZ}:∀ y∈lI k l,y.key=k:=fun y hy=>by simpa using (List.mem_filter.1 hy).2
def LD (l:List bZ):Prop:=l.Pairwise fun x y=>x.key<=y.key
theorem aaM {p:Prop} (h:p:=by
 exact List.mem_filter.2 ⟨fE,by simp⟩):p:=h
theorem afk {l m:List bZ} (hl:LD l) (hm:LD m) (h:∀ k,lI k l=lI k m):l=m:=by
 induction l generalizing m with
 | nil =>
  cases m with
  | nil=>rfl
  | cons z m =>
   have:=h z.key
   unfold lI at this
   rw [List.filter_cons_of_pos (by simp)] at this
   cases this
 | cons y l ih =>
  cases m with
  | nil =>
   have:=h y.key
   unfold lI at this
   rw [List.filter_cons_of_pos (by simp)] at this
   cases this
  | cons z m =>
   obtain ⟨l1,l2⟩:=qo.1 hl;obtain ⟨m1,m2⟩:=qo.1 hm;have le1:∀ x∈y :: l,y.key<=x.key:=fun x hx=>(iy.1 hx).elim (fun e=>by rw [e];exact Int.le_refl _) (l1 x);have le2:∀ x∈z :: m,z.key<=x.key:=fun x hx=>(iy.1 hx).elim (fun e=>by rw [e];exact Int.le_refl _) (m1 x)
   have a1:z∈lI z.key (y :: l):=by rw [h];exact aaM
   have a2:y∈lI y.key (z :: m):=by rw [<- h];exact aaM
   have b1:=le1 z (List.mem_filter.1 a1).1;have b2:=le2 y (List.mem_filter.1 a2).1
   have hk:y.key=z.key:=by omega
   have e:=h y.key
   unfold lI at e
   rw [List.filter_cons_of_pos (by simp),List.filter_cons_of_pos (by simp [hk])] at e
   injection e with e1 e2
   subst e1;rw [ih l2 m2 fun k=>?_]
   by_cases hk2:y.key=k
   ·subst hk2;exact e2
   have e3:=h k
   unfold lI at e3
   rwa [List.filter_cons_of_neg (by simpa using hk2),List.filter_cons_of_neg (by simpa using hk2)] at e3
theorem abP {k:Int}:∀ {r:List bZ},(∀ z∈r,k<=z.key)->LD r->∀ z∈r.dropWhile (fun z=>decide (z.key=k)),k < z.key
 | [],_,_,z,h=>by simp at h
 | w :: r,h1,h2,z,h=>by
  obtain ⟨p1,p2⟩:=qo.1 h2;rw [List.dropWhile_cons] at h
  by_cases e:w.key=k
  ·rw [aD (by simpa using e)] at h;exact abP (fun z hz=>h1 z (gV _ hz)) p2 z h
  rw [av (by simpa using e)] at h;have:=h1 w fE
  rcases iy.1 h with rfl|h
  ·omega
  have:=p1 z h;omega
theorem adj:∀ (f:Nat) (l:List bZ),l.length<=f->LD l->(rC f l).Pairwise fun p q=>p.1 < q.1
 | 0,l,h,_=>by
  have:l=[]:=List.eq_nil_of_length_eq_zero (by omega);subst this;exact List.Pairwise.nil
 | f+1,[],_,_=>List.Pairwise.nil
 | f+1,y :: r,h,hs=>by
  obtain ⟨p1,p2⟩:=qo.1 hs
  have h2:(r.dropWhile fun z=>decide (z.key=y.key)).length<=f:=by
   have:=(List.dropWhile_sublist (l:=r) fun z=>decide (z.key=y.key)).length_le
   simp only [lg] at h;omega
  have hs2:LD (r.dropWhile fun z=>decide (z.key=y.key)):=p2.sublist (List.dropWhile_sublist _);have hgt:=abP p1 p2;obtain ⟨e1,e2⟩:=Hl f _ h2;rw [rC];refine qo.2 ⟨fun q hq=>?_,adj f _ h2 hs2⟩;obtain ⟨z,t,hz⟩:=List.exists_cons_of_ne_nil (e2 q hq)
  have hz2:z∈q.2:=by rw [hz];exact fE
  have:=hgt z (by rw [<- e1];exact List.mem_flatMap.2 ⟨q,hq,hz2⟩);rw [ML f _ q hq z hz2] at this;exact this
theorem VA (props:List aL) (k:Int):lY acc rej props k []=([],jE props k):=by
 unfold lY qg
 rw [iZ,List.drop_nil,uy];rfl
theorem aby {C:bC} {e:Int} {props:List aL} (hp:xD C e props) (k:Int):∀ (L:List (Int × List bZ)) (s:List aL × List bZ),L.Pairwise (fun p q=>p.1 < q.1)->xD C e s.1->(∀ q∈L,q.2≠[]∧∀ y∈q.2,y.key=q.1∧F8 C e y) ->
  jE (ug acc rej props L s).1 k=(if k∈L.map Prod.fst then (lY acc rej props k (lI k (L.flatMap Prod.snd))).2 else jE s.1 k) ∧
   lI k (ug acc rej props L s).2=lI k s.2++(lY acc rej props k (lI k (L.flatMap Prod.snd))).1
 | [],s,_,_,_=>by
  rw [ug,List.flatMap_nil,show lI k []=[] from rfl,VA]
  simp
 | (k0,l0) :: r,s,hw,hs,hL=>by
  obtain ⟨w1,w2⟩:=qo.1 hw;obtain ⟨h1,h2⟩:=hL (k0,l0) fE;have hL2:=fun q hq=>hL q (gV _ hq);obtain ⟨a,b⟩:=adk acc rej hp h1 h2;have hws:=ahP hs b;obtain ⟨i1,i2⟩:=aby hp k r (vB s.1 k0 (lY acc rej props k0 l0).2,s.2++(lY acc rej props k0 l0).1) w2 hws hL2;have hg:=aoR hs.2 hws.2 b.2.2 k;rw [ug,i1,i2,List.flatMap_cons,fH];dsimp only;rw [afj,afj,hg]
  by_cases hk:k=k0
  ·subst hk
   have hn:k∉r.map Prod.fst:=fun hm=>by
    obtain ⟨q,hq,e⟩:=List.mem_map.1 hm;have:=w1 q hq;dsimp only at this
    omega
   have hr:lI k (r.flatMap Prod.snd)=[]:=Q8 fun y hy e=>by
    obtain ⟨q,hq,hy2⟩:=List.mem_flatMap.1 hy;refine hn (List.mem_map.2 ⟨q,hq,?_⟩);rw [<- ((hL2 q hq).2 y hy2).1];exact e
   rw [av hn,aD rfl,aD fE,hr,iF,afi (fun y hy=>(h2 y hy).1),afi (fun y hy=>(a y hy).1),VA,iF];exact Gy
  have hl0:lI k l0=[]:=Q8 fun y hy e=>hk (by rw [<- e];exact (h2 y hy).1);have hg0:lI k (lY acc rej props k0 l0).1=[]:=Q8 fun y hy e=>hk (by rw [<- e];exact (a y hy).1);rw [hl0,hg0,nQ,iF,av hk];refine ⟨?_,rfl⟩
  by_cases hm:k∈r.map Prod.fst
  ·rw [aD hm,aD (gV _ hm)]
  rw [av hm,av fun h=>(iy.1 h).elim hk hm]
theorem GN {C:bC} {e:Int} {h:dN} (hh:FX C e h) (k:Int):jE (iH acc rej h).props k=(lY acc rej h.props k (lI k h.marks.layers)).2∧lI k (iH acc rej h).marks.layers=(lY acc rej h.props k (lI k h.marks.layers)).1:=by
 obtain ⟨f1,f2⟩:=Hl h.marks.layers.length h.marks.layers (eP _);obtain ⟨g1,g2⟩:=aby (acc:=acc) (rej:=rej) hh.ps k (rC h.marks.layers.length h.marks.layers) (h.props,[]) (adj _ _ (eP _) hh.ly.2) hh.ps fun q hq=>⟨f2 q hq,fun y hy=>⟨ML _ _ q hq y hy,hh.ly.1 y (by rw [<- f1];exact List.mem_flatMap.2 ⟨q,hq,hy⟩)⟩⟩;rw [f1] at g1 g2;refine ⟨?_,g2⟩;refine g1.trans ?_
 split
 ·rfl
 rename_i hn
 have:lI k h.marks.layers=[]:=Q8 fun y hy e=>by
  rw [<- f1] at hy;obtain ⟨q,hq,hy2⟩:=List.mem_flatMap.1 hy;exact hn (List.mem_map.2 ⟨q,hq,by rw [<- ML _ _ q hq y hy2];exact e⟩)
 rw [this,VA]
theorem adG {a b:dN} (h1:a.props=b.props) (h2:a.marks.ins=b.marks.ins) (h3:a.marks.move=b.marks.move) (h4:a.marks.bJ=b.marks.bJ) (h5:a.marks.layers=b.marks.layers):a=b:=by
 obtain ⟨p,⟨i,m,d,l⟩⟩:=a;obtain ⟨p',⟨i',m',d',l'⟩⟩:=b;dsimp only at h1 h2 h3 h4 h5;subst h1 h2 h3 h4 h5
 rfl
theorem Vy {h:dN} (hg:lG dM eO h):lG (fP dM fq) (fP eO iD) h:=by
 rcases hg with ⟨a,b⟩|⟨x,hx,b⟩
 ·exact .inl ⟨a,by unfold fP;rw [b];rfl⟩
 exact .inr ⟨x,hx,by unfold fP;rw [b];rfl⟩
theorem PS {C:bC} {e:Int} {h:dN} (hh:FX C e h) (x1:∀ q,dM q=true->iD q=false) (x2:∀ q,eO q=true->fq q=false) (hn:¬ lG dM eO h) :
  (lG fq iD (iH dM eO h)↔lG (fP dM fq) (fP eO iD) h)∧iH fq iD (iH dM eO h)=iH (fP dM fq) (fP eO iD) h:=by
 have g1:=(JH dM eO hh).1;have g2:=(JH fq iD g1).1;have g3:=(JH (fP dM fq) (fP eO iD) hh).1;have hi:(iH dM eO h).marks.ins=if jV dM h then 0 else h.marks.ins:=rfl;have hm:(iH dM eO h).marks.move=if jV dM h then 0 else h.marks.move:=rfl;have hd:(iH dM eO h).marks.bJ=h.marks.bJ.filter fun x=>!eO x.rev:=rfl
 have hr1:h.marks.ins≠0->eO h.marks.ins=false:=fun h0=>by
  cases hr:eO h.marks.ins
  ·rfl
  exact absurd (.inl ⟨h0,hr⟩) hn
 have ha1:∀ x∈h.marks.bJ,dM x.rev=false:=fun x hx=>by
  cases hr:dM x.rev
  ·rfl
  exact absurd (.inr ⟨x,hx,hr⟩) hn
 have hins:jV (fP dM fq) h↔jV dM h∨jV fq (iH dM eO h):=by
  unfold jV
  rw [hi]
  by_cases hq:jV dM h
  ·rw [aD hq];exact ⟨fun _=>.inl hq,fun _=>⟨hq.1,by unfold fP;rw [hq.2];rfl⟩⟩
  rw [av hq]
  constructor
  ·rintro ⟨a,b⟩
   unfold fP at b
   rw [Bool.or_eq_true] at b;exact b.elim (fun b=>.inl ⟨a,b⟩) fun b=>.inr ⟨a,b⟩
  rintro (h|⟨a,b⟩)
  ·exact absurd h hq
  exact ⟨a,by unfold fP;rw [b,Bool.or_true]⟩
 constructor
 ·unfold lG
  rw [hi,hd]
  constructor
  ·rintro (⟨a,b⟩|⟨x,hx,b⟩)
   ·by_cases hq:jV dM h
    ·rw [aD hq] at a;exact absurd rfl a
    rw [av hq] at a b;exact .inl ⟨a,by unfold fP;rw [b,Bool.or_true]⟩
   exact .inr ⟨x,(List.mem_filter.1 hx).1,by unfold fP;rw [b,Bool.or_true]⟩
  rintro (⟨a,b⟩|⟨x,hx,b⟩)
  ·unfold fP at b
   rw [hr1 a,Bool.false_or] at b
   have hq:¬ jV dM h:=fun hq=>by rw [x1 _ hq.2] at b;cases b
   rw [av hq];exact .inl ⟨a,b⟩
  unfold fP at b
  rw [ha1 x hx,Bool.false_or] at b;refine .inr ⟨x,List.mem_filter.2 ⟨hx,?_⟩,b⟩
  cases hr:eO x.rev
  ·rfl
  rw [x2 _ hr] at b;cases b
 have hkey:∀ k,lY fq iD (iH dM eO h).props k (lI k (iH dM eO h).marks.layers)=lY (fP dM fq) (fP eO iD) h.props k (lI k h.marks.layers):=fun k=>by
  obtain ⟨k1,k2⟩:=GN (acc:=dM) (rej:=eO) hh k;rw [Qk NC,k1,k2,Qk (acc:=dM) NC,Qk (acc:=fP dM fq) NC];dsimp only;rw [aga,agb,show ∀ q:kR × List (Int × kR),(q.1,q.2)=q from fun _=>rfl,abG x2]
 refine adG (afY g2.ps.2 g3.ps.2 fun k=>?_) ?_ ?_ ?_ (afk g2.ly.2 g3.ly.2 fun k=>?_)
 ·exact (GN g1 k).1.trans ((cO Prod.snd (hkey k)).trans (GN hh k).1.symm)
 ·show (if jV fq (iH dM eO h) then (0:Int) else (iH dM eO h).marks.ins)=if jV (fP dM fq) h then 0 else h.marks.ins
  rw [hi]
  by_cases hq:jV dM h
  ·rw [aD hq,aD (hins.2 (.inl hq)),ite_self]
  rw [av hq]
  by_cases hq2:jV fq (iH dM eO h)
  ·rw [aD hq2,aD (hins.2 (.inr hq2))]
  rw [av hq2,av fun h=>(hins.1 h).elim hq hq2]
 ·show (if jV fq (iH dM eO h) then (0:Int) else (iH dM eO h).marks.move)=if jV (fP dM fq) h then 0 else h.marks.move
  rw [hm]
  by_cases hq:jV dM h
  ·rw [aD hq,aD (hins.2 (.inl hq)),ite_self]
  rw [av hq]
  by_cases hq2:jV fq (iH dM eO h)
  ·rw [aD hq2,aD (hins.2 (.inr hq2))]
  rw [av hq2,av fun h=>(hins.1 h).elim hq hq2]
 ·show (iH dM eO h).marks.bJ.filter (fun x=>!iD x.rev)=h.marks.bJ.filter fun x=>!fP eO iD x.rev
  rw [hd,List.filter_filter];refine List.filter_congr fun x _=>?_
  unfold fP
  cases eO x.rev <;> cases iD x.rev <;> rfl
 exact (GN g1 k).2.trans ((cO Prod.fst (hkey k)).trans (GN hh k).2.symm)
theorem PV {C:bC} {e:Int} {h:dN} (hh:FX C e h):iH (fun _=>false) (fun _=>false) h=h∧¬ lG (fun _=>false) (fun _=>false) h:=by
 have hg:¬ lG (fun _=>false) (fun _=>false) h:=fun hg=>hg.elim (fun h=>by cases h.2) fun ⟨_,_,h⟩=>by cases h
 have g1:=(JH (fun _=>false) (fun _=>false) hh).1
 have hkey:∀ k,lY (fun _=>false) (fun _=>false) h.props k (lI k h.marks.layers)=(lI k h.marks.layers,jE h.props k):=fun k=>by
  rw [Qk NC]
  have e1:uP (fun _=>false) (fun _=>false) (yY (lI k h.marks.layers) (jE h.props k),qN (lI k h.marks.layers) (jE h.props k))=(yY (lI k h.marks.layers) (jE h.props k),qN (lI k h.marks.layers) (jE h.props k)):=by
   unfold uP
   dsimp only;rw [JE (by simp)]
   simp
  rw [e1];dsimp only
  have key:∀ (l:List bZ) (now:kR),(∀ y∈l,y.key=k)->Ed k (yY l now) (qN l now)=l∧Du (yY l now) (qN l now)=now:=by
   intro l
   induction l with
   | nil=>intro now _;exact ⟨rfl,rfl⟩
   | cons y r ih =>
    intro now hy;obtain ⟨i1,i2⟩:=ih now fun z hz=>hy z (gV _ hz);rw [qN,Ed,Du,i1,i2];refine ⟨?_,rfl⟩;have:=hy y fE;obtain ⟨a,b,c,d⟩:=y;dsimp only at this;subst this
    rfl
  obtain ⟨k1,k2⟩:=key (lI k h.marks.layers) (jE h.props k) NC;rw [k1,k2]
 have hi:¬ jV (fun _=>false) h:=fun h=>by cases h.2
 refine ⟨adG (afY g1.ps.2 hh.ps.2 fun k=>?_) (av hi) (av hi) ?_ (afk g1.ly.2 hh.ly.2 fun k=>?_),hg⟩
 ·rw [(GN hh k).1,hkey]
 ·show h.marks.bJ.filter (fun _=>!false)=_
  simp
 rw [(GN hh k).2,hkey]
end
end Go.Proofs.YtdiflmikikiedaaGreat
