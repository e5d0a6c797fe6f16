/-
  What the claim stands on, part 6: Rf0 Dlr Ccl Cst Dcl Nm Nml Nd13 Hg24 Ne13 Npre Rv24 Dx24 Cd24 Wh24 Dn Mw24 Kt Par Pas L14 L14b L14c It Div Nrm L14d L14e Sl Sm16 Kn24 Sn24 Fg24 Vl24 Vm24.
-/
import Derived.Test.YtdiflmikikiedaaGreatWde
namespace Go.Proofs.YtdiflmikikiedaaGreat
open Go.Proofs.Tryz
open Go.RowKit
theorem Zr {C:bO} {e:Int} {h:dM} (hE:iD C e h=0):∀ q∈refs h,q=0∨q∈C.Ai:=by
 have z:=mg hE;have h3:=z (jU C h.marks) (by simp);have h4:=z (kK (uJ C h.marks.bE) h.marks.bE.length) (by simp);have h6:=z (kK (za C e h.marks.layers) h.marks.layers.length) (by simp);intro q hq
 unfold refs at hq
 rcases jS.1 hq with rfl|hq
 ·unfold jU at h3
  by_cases h0:h.marks.ins=0
  ·exact .inl h0
  refine .inr (Classical.byContradiction fun hn=>?_);rw [au ⟨h0,hn⟩] at h3;cases h3
 rcases nH.1 hq with hq|hq
 ·obtain ⟨x,hx,rfl⟩:=List.mem_map.1 hq;obtain ⟨k,hk,rfl⟩:=List.getElem_of_mem hx;have h5:=Fv h4 k hk
  unfold uJ at h5
  rw [eT hk] at h5;dsimp only [uK] at h5;refine .inr (Classical.byContradiction fun hn=>?_);rw [au hn] at h5;cases h5
 obtain ⟨x,hx,rfl⟩:=List.mem_map.1 hq;obtain ⟨k,hk,rfl⟩:=List.getElem_of_mem hx;have h5:=Fv h6 k hk
 unfold za at h5
 rw [eT hk] at h5;dsimp only [xq] at h5;refine .inr (Classical.byContradiction fun hn=>?_);rw [au hn] at h5;cases h5
def pG (C:bO) (L:List dM):Prop:=∀ h∈L,∃ e,iD C e h=0
theorem pG.nil (C:bO):pG C []:=fun _ h=>by cases h
theorem pG.cons {C:bO} {e:Int} {h:dM} {L:List dM} (h1:iD C e h=0) (h2:pG C L):pG C (h :: L):=fun x hx=>by
 rcases jS.1 hx with rfl|hx
 ·exact ⟨e,h1⟩
 exact h2 x hx
theorem pG.app {C:bO} {A B:List dM} (h1:pG C A) (h2:pG C B):pG C (A++B):=fun x hx=>(nH.1 hx).elim (h1 x) (h2 x)
mutual
theorem alI (C:bO) (body note:Bool) (t:Int):∀ (x:ay) (s s':CS),fH C body note t x s=(0,s')→pG C (Km x)
 | .mk k c i tx h f r,s,s',e=>by
  have hf:=NP C false true t f;have hr:=ZR C note (t+1) r;rw [fH] at e;(iterate 2 obtain ⟨-,e⟩:=mI e);obtain ⟨e1,e⟩:=mI e;rw [Km];refine pG.cons e1 ?_
  by_cases h6:k=6
  ·rw [au h6] at e ⊢;rw [ah (show ¬ k=7 by omega),jf];exact hf _ _ e
  rw [ah h6] at e ⊢;rw [mZ]
  by_cases h7:k=7
  ·rw [au h7] at e ⊢;exact hr _ _ (UM e).2
  rw [ah h7];exact pG.nil C
theorem NP (C:bO) (body note:Bool) (t:Int):∀ (l:List ay) (s s':CS),jF C body note t l s=(0,s')→pG C (oU l)
 | [],_,_,_=>by rw [oU];exact pG.nil C
 | x :: r,s,s',e=>by
  rw [jF] at e;obtain ⟨e1,e⟩:=mI e;rw [oU];exact (alI C body note t x s _ (Prod.ext e1 rfl)).app (NP C body note t r _ _ e)
theorem alJ (C:bO) (note:Bool) (t:Int):∀ (x:aW) (s s':CS),zk C note t x s=(0,s')→pG C (Kq x)
 | .mk h cs,s,s',e=>by
  have hc:=ZQ C note t cs;rw [zk] at e;obtain ⟨e1,e⟩:=mI e;rw [Kq];exact pG.cons (mg e1 _ gJ) (hc _ _ e)
theorem ZR (C:bO) (note:Bool) (t:Int):∀ (l:List aW) (s s':CS),iR C note t l s=(0,s')→pG C (Bl l)
 | [],_,_,_=>by rw [Bl];exact pG.nil C
 | x :: r,s,s',e=>by
  rw [iR] at e;obtain ⟨e1,e⟩:=mI e;rw [Bl];exact (alJ C note t x s _ (Prod.ext e1 rfl)).app (ZR C note t r _ _ e)
theorem alH (C:bO) (note:Bool) (t:Int):∀ (x:aX) (s s':CS),cellC C note t x s=(0,s')→pG C (Kg x)
 | .mk i h f,s,s',e=>by
  have hf:=NP C false note t f;rw [cellC] at e;obtain ⟨-,e⟩:=mI e;obtain ⟨e1,e⟩:=mI e;rw [Kg];exact pG.cons e1 (hf _ _ e)
theorem ZQ (C:bO) (note:Bool) (t:Int):∀ (l:List aX) (s s':CS),qp C note t l s=(0,s')→pG C (Cz l)
 | [],_,_,_=>by rw [Cz];exact pG.nil C
 | x :: r,s,s',e=>by
  rw [qp] at e;obtain ⟨e1,e⟩:=mI e;rw [Cz];exact (alH C note t x s _ (Prod.ext e1 rfl)).app (ZQ C note t r _ _ e)
end
theorem abw {d:jG} (hc:jN d=0):∀ q∈UK d,q=0∨q∈d.revs.map dh.id:=by
 have z:=mg hc;have h2:=z (dR [iD d.oO 3 d.fin,dw (sO d.fin.marks) 21]) (by simp);have h3:=z (jF d.oO true false 0 d.flow ⟨0,[]⟩).1 (by simp);have hi:=NP d.oO true false 0 d.flow _ _ (Qz h3);intro q hq
 unfold UK at hq
 rcases nH.1 hq with hq|hq
 ·obtain ⟨h,hh,hq⟩:=List.mem_flatMap.1 hq;obtain ⟨e,he⟩:=hi h hh;exact Zr he q hq
 exact Zr (mg h2 _ gJ) q hq
theorem aby {d:jG} (hc:jN d=0):(d.revs.map dh.id).Pairwise (· < ·)∧∀ q∈d.revs.map dh.id,1≤q∧q≤1073741824:=by
 have h:=mg (mg hc _ gJ) (Fy d.revs) (by simp);have h1:=mg h _ (gJ);have h2:=mg h _ (iQ _ gJ)
 have hl:d.revs.length≤256:=by
  unfold dw at h1
  by_cases hd:256 < (d.revs.length:Int)
  ·rw [au (aG hd)] at h1;cases h1
  omega
 have hi:∀ i (hi:i < d.revs.length),1≤d.revs[i].id∧d.revs[i].id≤1073741824∧(∀ k (hk:k < d.revs.length),k+1=i→d.revs[k].id < d.revs[i].id):=by
  intro i hi;have h3:=Fv h2 i (by omega)
  unfold EH at h3
  rw [eT hi] at h3;have h4:=TU (mg h3 _ gJ);rw [eT hi] at h4;refine ⟨h4.1,h4.2.1,fun k hk e=>?_⟩;subst e;have h5:=h4.2.2 (by omega);rw [Nat.add_sub_cancel,eT hk] at h5;exact h5
 refine ⟨List.pairwise_iff_getElem.2 ?_,fun q hq=>?_⟩
 ·intro i j hi' hj hij;rw [bG] at hi' hj;rw [List.getElem_map,List.getElem_map]
  induction j with
  | zero=>omega
  | succ j ih =>
   have h1:=(hi (j+1) hj).2.2 j (by omega) rfl
   by_cases e:i=j
   ·subst e;exact h1
   exact Int.lt_trans (ih (by omega) (by omega) (by omega)) h1
 obtain ⟨x,hx,rfl⟩:=List.mem_map.1 hq;obtain ⟨k,hk,rfl⟩:=List.getElem_of_mem hx;exact ⟨(hi k hk).1,(hi k hk).2.1⟩
theorem arJ {d:jG} (hc:jN d=0) {q:Int} (h:q∈uY d):1≤q∧q≤1073741824:=by
 unfold uY at h
 rw [List.mem_filter,mH,WM] at h;obtain ⟨h1|h1,h2⟩:=h
 ·cases h1
 exact (aby hc).2 q ((abw hc q h1).resolve_left h2)
theorem arI {d:jG} (hc:jN d=0):(uY d).length≤d.revs.length:=by
 obtain ⟨hi,-⟩:=aby hc
 have hnd:(d.revs.map dh.id).Nodup:=hi.imp fun h=>by omega
 have hu:(uY d).Nodup:=(WO List.nodup_nil).sublist List.filter_sublist
 have hp:=(List.perm_ext_iff_of_nodup (hnd.sublist (List.filter_sublist (p:=fun q=>decide (q∈uY d)))) hu).2 fun q=>by
  rw [List.mem_filter,mH];refine ⟨fun h=>h.2,fun h=>⟨?_,h⟩⟩;have h1:=h
  unfold uY at h1
  rw [List.mem_filter,mH,WM] at h1;obtain ⟨h2|h2,h3⟩:=h1
  ·cases h2
  exact (abw hc q h2).resolve_left h3
 rw [← hp.length_eq];exact Nat.le_trans (List.length_filter_le _ _) (by rw [bG];exact bM _)
theorem agk:∀ args w,(callFunc 113 args).run prog w=.ok (.enter 113 args) w:=enters func113 rfl (by kernel_rfl)
theorem Lg (G:GH) (x:dh):aU G x.dat x.cells:=by
 simp only [dh.dat,dh.cells,aU]
 exact ⟨_,_,rfl,by simp [av,Value.oneCell'],_,_,rfl,by simp [av,Value.oneCell'],_,_,rfl,by simp [av,Value.oneCell'],rfl⟩
def oh (l:List dh):List aj:=(l.map dh.cells).flatten
theorem OI:∀ l:List dh,(oh l).length=l.length*3
 | []=>rfl
 | p :: l=>by
  have:=OI l
  simp only [oh,fK,List.flatten_cons,iI] at this ⊢
  rw [this,show p.cells.length=3 from rfl,kR];omega
theorem UW:∀ {l:List dh} {k:Nat} (h:k < l.length) (j:Nat),j < 3→(oh l)[k*3+j]?=l[k].cells[j]?
 | p :: l,0,_,j,hj=>by
  simp only [oh,fK,List.flatten_cons,Nat.zero_mul,gI,List.getElem_cons_zero]
  rw [yQ (by rw [show p.cells.length=3 from rfl];exact hj)]
 | p :: l,k+1,h,j,hj=>by
  have ih:=UW (l:=l) (k:=k) (by simpa using h) j hj
  simp only [oh,fK,List.flatten_cons,List.getElem_cons_succ] at ih ⊢
  rw [sV (by rw [show p.cells.length=3 from rfl];omega),show p.cells.length=3 from rfl,show (k+1)*3+j - 3=k*3+j by omega];exact ih
theorem UU (l m:List dh):oh (l++m)=oh l++oh m:=by simp [oh]
theorem ape {w0 w:World} {F:Nat→Prop} {G0 G:GH} {L Lo:OL} {e c n:Nat} {A:Option Addr} {l:List dh} (h:bZ e 3 (.slice A n c) n (oh l) Lo) (hn:n=l.length) (H:Hp w0 F G0 G L w) (hsub:∀ x∈Lo,x∈L) {k:Nat} (hk:k < l.length) :
  ∃ b,A=some ⟨b,0,none⟩∧∀ j u,[vi l[k].id,.string l[k].author,vi l[k].time][j]?=some u→w.cell? ⟨b,0+k*3+j,none⟩=some u:=by
 rcases h.2 with ⟨_,h0,_⟩|⟨b,cap,cur,he,hl,h1,h2,h3,h4⟩
 ·omega
 injection he with e1 e2 e3
 refine ⟨b,e1,fun j u hu=>?_⟩
 have hj:j < 3:=by have:=(jB.1 hu).1;simpa using this
 refine H.Dh (c:=cur) (e:=e) (fz:=(0,0)) (hsub _ (by rw [hl];exact List.mem_singleton_self _)) ?_;have h5:=UW hk j hj;rw [← h4,sU,au (by omega),Array.getElem?_toList] at h5;rw [show 0+k*3+j=k*3+j by omega,h5];exact hu
theorem amE {G:GH} {w0:World} {Lo:OL} {v fv:aj} (l:List dh) (p:dh→Bool) (hO:gD G Lo w0) (hrw:bZ 102 3 v l.length (oh l) Lo) (hf:∀ x∈l,pO fv G x.dat (p x)) :
  Calls prog 113 #[v,fv] w0 (fV w0 G Lo fun u G' L'=>L'=Lo∧u=vi (mQ (l.findIdx? p))):=by
 obtain ⟨A,c,rfl,hc1,hc2⟩:=hrw.shape;have hml:maxLen=9223372036854775807:=rfl;refine iX (N:=19) (T:=[(0,_),(1,_)]) func113 rfl ntmps113 rfl rfl hO ?_;intro a H;refine kP H (SR fun _ K1=>ak K1 rfl (SQ fun _ K2=>SR fun _ K3=>Rm rfl (Rl pz rfl (Rm rfl (Kz K3 (SB ?_))))));clear H K1 K3;intro a H;skip;refine eU (ι:=Nat × GH) (Tc:=[(0,_),(1,_),(7,_)]) (Lc:=[]) (fun gh=>[(8,vi gh.1)]) (fun gh=>[]++Lo) (fun gh=>gh.2) (fun gh=>gh.1≤l.length∧(l.take gh.1).findIdx? p=none∧(∀ b o,G b=some o→gh.2 b=some o)) (fun gh=>l.length - gh.1) ((0,G)) (by exact (H).sub ⟨rfl,rfl,rfl,rfl,aC⟩) ?_ ?_
 ·exact ⟨by omega,rfl,fun _ _ h=>h⟩
 clear H;rintro ⟨k,g⟩ a w hI H;dsimp only at hI H;obtain ⟨hk,hno,hgm⟩:=hI;dsimp only [lca,bJ] at H;refine kP H (SR fun _ K4=>Rc rfl (Kz K4 (SQ fun _ K5=>Cd rfl ?_ ?_))) <;> clear H K4
 ·intro h9 a H
  try have p9:=dT h9
  have hk2:k < l.length:=by omega
  obtain ⟨b,rfl,hrow⟩:=ape hrw rfl H.hp (fun x hx=>by first|exact hx|exact iQ _ hx|simpa using hx) hk2;refine kP H (Kc K5 (SQ fun _ K6=>SB (SR fun _ K7=>Rm rfl (ak K7 rfl (SR fun _ K8=>Rm rfl (Rm rfl (Rm rfl (Ri pz oH rfl rfl ?_))))))));clear H K5 K7;intro a H;refine bL oH (cs:=[vi l[k].id,.string l[k].author,vi l[k].time]) H wn rfl rfl hrow rfl ?_;clear H;intro a H;refine ko H wn rfl rfl (hf _ (kS hk2) _ _ _ hgm H.ro (Lg _ l[k])) rfl ?_;clear H;rintro v16 pF a w rfl mM H;refine K8 _ _ ?_;clear K8;refine jD H rfl ?_ ?_
  ·intro h16
   try have p16:=dT h16
   refine kP H (SR fun _ K9=>Rm rfl (ak K9 rfl ?_));clear H K9;intro a H;refine lr H results113 rfl ?_
   first
    | exact H.hp.dx ⟨rfl,by rw [pY hk2 hno h16];rfl⟩
    | exact H.hp.dx ⟨rfl,by rw [show l.take k=l from iC (by omega)] at hno;rw [hno];rfl⟩
  intro h16
  try have p16:=dF h16
  refine kP H (Kc K6 (SC (Rd rfl (Rm rfl ?_))));clear H K6;intro a H;refine aD ?_;refine dD ((k+1,pF)) (by exact (H).sub ⟨rfl,rfl,rfl,rfl,aC⟩) ?_
  (try dsimp only);exact ⟨by omega,Ac hk2 hno h16,fun b o h=>mM b o (hgm b o h)⟩
 intro h9 a H
 try have p9:=dF h9
 refine dV ?_;refine K2 _ _ ?_;clear K2;refine kP H (SR fun _ aR=>ak aR rfl ?_);clear H aR;intro a H;refine lr H results113 rfl ?_
 first
  | exact H.hp.dx ⟨rfl,by rw [pY hk2 hno h16];rfl⟩
  | exact H.hp.dx ⟨rfl,by rw [show l.take k=l from iC (by omega)] at hno;rw [hno];rfl⟩
theorem aoZ {G:GH} {l:List dh} {xs:List aj} (h:bT G 3 (l.map dh.dat) xs):xs=oh l:=by
 obtain ⟨css,rfl,h2,h3⟩:=h;rw [bG] at h2
 have e:css=l.map dh.cells:=by
  apply List.ext_getElem?
  intro j;rw [pQ]
  by_cases hj:j < l.length
  ·have h4:=(h3 j l[j].dat css[j] (by simp [hj]) (eT (by omega))).1;rw [eT hj,eT (by omega),UZ h4];rfl
  rw [List.getElem?_eq_none (by omega),List.getElem?_eq_none (by omega)];rfl
 rw [e];rfl
theorem aoM {l:List dh} {p:dh→Bool} {i:Nat} (h:l.findIdx? p=some i):∃ hi:i < l.length,(l.take (i+1)).filter (fun x=>!p x)=l.take i:=by
 obtain ⟨hi,h1,h2⟩:=List.findIdx?_eq_some_iff_getElem.1 h;refine ⟨hi,?_⟩;rw [iU hi,List.filter_append,List.filter_eq_self.2]
 ·simp [h1]
 intro x hx;obtain ⟨j,hj,rfl⟩:=List.getElem_of_mem hx;rw [List.getElem_take]
 have hj2:j < i:=by rw [List.length_take] at hj;omega
 have:=h2 j hj2
 simpa using this
theorem aoN {l:List dh} {p:dh→Bool} (h:l.findIdx? p=none):l.filter (fun x=>!p x)=l:=by
 rw [List.findIdx?_eq_none_iff] at h
 exact List.filter_eq_self.2 fun x hx=>by rw [h x hx];rfl
theorem aoO {cl:List aj} {i:Nat} {x y z:aj} (h:i*3+3≤cl.length):(setRow cl (0+i*3) [x,y,z]).length=cl.length∧(setRow cl (0+i*3) [x,y,z]).take ((i+1)*3)=cl.take (i*3)++[x,y,z]∧∀ m,(i+1)*3≤m→(setRow cl (0+i*3) [x,y,z])[m]?=cl[m]?:=by
 have e:setRow cl (0+i*3) [x,y,z]=cl.take (i*3)++[x,y,z]++cl.drop (i*3+3):=by
  rw [gI,OU _ _ _ (by simpa using h)];rfl
 have hl:(cl.take (i*3)++[x,y,z]).length=(i+1)*3:=by rw [iI,List.length_take];simp;omega
 refine ⟨U8 ..,?_,fun m hm=>?_⟩
 ·rw [e,← hl,List.take_left]
 rw [e,sV (by omega),hl,List.getElem?_drop];congr 1;omega
theorem aoL {l:List dh} {cl:List aj} {i:Nat} (hi:i < l.length) (h:cl.take (l.length*3)=oh l):cl.take (i*3)=oh (l.take i):=by
 have e:cl.take (i*3)=(cl.take (l.length*3)).take (i*3):=by rw [List.take_take,Nat.min_eq_left (by omega)]
 have h2:oh l=oh (l.take i)++oh (l.drop i):=by rw [← UU,List.take_append_drop]
 have h3:(oh (l.take i)).length=i*3:=by rw [OI,List.length_take];omega
 rw [e,h,h2,← h3,List.take_left]
theorem aoP {l:List dh} {p:dh→Bool} {j:Nat} (hj:j < l.length):(l.take (j+1)).filter (fun x=>!p x)=(l.take j).filter (fun x=>!p x)++if p l[j] then [] else [l[j]]:=by
 rw [iU hj,List.filter_append]
 cases h:p l[j] <;> simp [h]
set_option maxHeartbeats 1000000 in
theorem afN {G:GH} {w0:World} {Lo:OL} {v fv:aj} (l:List dh) (p:dh→Bool) (hO:gD G Lo w0) (hrw:bZ 102 3 v l.length (oh l) Lo) (hf:∀ x∈l,pO fv G x.dat (p x)) :
  Calls prog 59 #[v,fv] w0 (fV w0 G Lo fun u G' L'=>bZ 102 3 u (l.filter fun x=>!p x).length (oh (l.filter fun x=>!p x)) L'):=by
 obtain ⟨A,c,rfl,hc1,hc2⟩:=hrw.shape;have hml:maxLen=9223372036854775807:=rfl;have hdl:=OI l;refine iX (N:=42) (T:=[(0,_),(1,_)]) func59 rfl ntmps59 rfl rfl hO ?_;intro a H;refine kP H (SR fun _ K1=>ak K1 rfl (SR fun _ K2=>Rm rfl (Rm rfl ?_)));clear H K1;intro a H;refine gH agk (Li:=[]) (L:=Lo) H wn rfl (amE l p (Hp.owns (Li:=[]) H.hp) hrw hf) rfl ?_;clear H;rintro v10 Ce L10 a w ⟨rfl,rfl⟩ En H;dsimp only [List.nil_append] at H;obtain ⟨o,ho⟩:∃ o,o=l.findIdx? p:=⟨_,rfl⟩;rw [← ho] at H;refine kH H (ak K2 rfl (SQ fun _ K3=>SR fun _ K4=>Rm rfl (Rc rfl (Kz K4 (Cd rfl ?_ ?_))))) <;> clear H K2 K4
 ·intro h12 a H
  try have qb:=dT h12
  obtain rfl:o=none:=by cases o with|none=>rfl|some i=>first|(simp [mQ] at qb;done)|(simp [mQ] at qb;omega)
  exact kP H (SR fun _ K5=>Rm rfl (ak K5 rfl (LR results59 rfl fun H=>H.hp.dx (by rw [aoN ho.symm];exact hrw))))
 intro h12 a H
 try have qb:=dF h12
 obtain ⟨i0,rfl⟩:∃ i,o=some i:=by cases o with|none=>simp [mQ] at qb|some i=>exact ⟨i,rfl⟩
 obtain ⟨hi0,hinit⟩:=aoM ho.symm
 rcases hrw.2 with ⟨_,h0,_⟩|⟨b,cap,cur,he,rfl,hcap1,hcap2,hsz,htk⟩
 ·omega
 injection he with e1 e2 e3
 subst e1;subst e3;obtain ⟨cl0,rfl⟩:∃ cl:List aj,cur=cl.toArray:=⟨cur.toList,by simp⟩;rw [List.size_toArray] at hsz;dsimp only [mQ] at H;refine kP H (Kc K3 (SQ fun _ K6=>SR fun _ K7=>Rm rfl (Rd rfl (ak K7 rfl (SB ?_)))));clear H K3 K7;intro a H;skip;refine eU (ι:=Nat × Nat × List aj × GH) (Tc:=[(0,_),(1,_)]) (Lc:=[]) (fun gh=>[(5,vi gh.2.1),(6,vi gh.1)]) (fun gh=>[(b,.cells gh.2.2.1.toArray 102 (0,0))]) (fun gh=>gh.2.2.2) (fun gh=>gh.2.1 < gh.1∧gh.1≤l.length∧gh.2.2.1.length=c*3∧gh.2.1=((l.take gh.1).filter fun x=>!p x).length∧gh.2.2.1.take (gh.2.1*3)=oh ((l.take gh.1).filter fun x=>!p x)∧(∀ m,gh.1*3≤m→m < l.length*3→gh.2.2.1[m]?=(oh l)[m]?)∧(∀ b o,G b=some o→gh.2.2.2 b=some o)) (fun gh=>l.length - gh.1) ((i0+1,i0,cl0,Ce)) (by exact (H).sub ⟨rfl,rfl,rfl,rfl,aC⟩) ?_ ?_
 ·exact ⟨Nat.lt_succ_self _,hi0,hsz,by rw [hinit,List.length_take];exact (Nat.min_eq_left (Nat.le_of_lt hi0)).symm,by rw [hinit];exact aoL hi0 htk,fun m h1 h2=>by rw [← htk,sU,au h2],En⟩
 clear H;rintro ⟨j,i,cl,g⟩ a w hI H;dsimp only at hI H;obtain ⟨hij,hj,hcl,hil,hkept,hrest,hgm⟩:=hI;dsimp only [lca,bJ] at H;refine kP H (SQ fun _ K8=>SR fun _ K9=>Rm rfl (Rm rfl (Rl pz rfl (Rc rfl (Kz K9 (Cd rfl ?_ ?_)))))) <;> clear H K9
 ·intro h19 a H
  try have uf:=dT h19
  have hj2:j < l.length:=by omega
  have hjc:∀ q u,[vi l[j].id,.string l[j].author,vi l[j].time][q]?=some u→cl.toArray[0+j*3+q]?=some u:=fun q u hq=>by
   have hq2:q < 3:=by have:=(jB.1 hq).1;simpa using this
   rw [List.getElem?_toArray,gI,hrest _ (by omega) (by omega),UW hj2 q hq2];exact hq
  have hdt:=aoP (p:=p) hj2;refine kP H (Kc K8 (SQ fun _ aR=>SB (SR fun _ bQ=>Rm rfl (Rm rfl (Ri pz oH rfl rfl ?_)))));clear H K8;intro a H;refine bL oH (cs:=[vi l[j].id,.string l[j].author,vi l[j].time]) H wn rfl rfl (fun q u hq=>H.hp.Dh (c:=cl.toArray) gJ (hjc q u hq)) rfl ?_;clear H;intro a H;refine dS oH H wn rfl ?_;clear H;intro b7 a w CO H;refine bD oH 0 (vs:=[_,_,_]) _ H wn rfl rfl rfl rfl rfl rfl rfl rfl ?_;clear H;intro w H;dsimp only [List.set,setRow] at H;refine bQ _ _ ?_;clear bQ;refine kP H (SR fun _ bY=>Rm rfl ?_);clear H;intro a H;refine bL oH (cs:=[_,_,_]) H wn rfl rfl (H.hp.cO 0 rfl rfl) rfl ?_;clear H;intro a H;refine ko H wn rfl rfl (hf _ (kS hj2) _ _ _ hgm H.ro (Lg _ l[j])) rfl ?_;clear H;rintro v28 Mg a w rfl IB H;refine kH H (Rn rfl (Kz bY (Cd rfl ?_ ?_))) <;> clear H bY
  ·intro gN a H
   try have p29:=dT gN
   rw [ah (by simpa using gN)] at hdt;have hds:=aoO (cl:=cl) (i:=i) (x:=vi l[j].id) (y:=.string l[j].author) (z:=vi l[j].time) (by omega);refine kP H (SR fun _ cZ=>Rm rfl (Rm rfl ?_));clear H;intro a H;refine bL oH (cs:=[_,_,_]) H wn rfl rfl (H.hp.cO 0 rfl rfl) rfl ?_;clear H;intro a H;refine kH H (Ri pz oH rfl rfl ?_);clear H;intro a H;refine bD oH 1 (c:=cl) (vs:=[vi l[j].id,.string l[j].author,vi l[j].time]) _ H wn rfl rfl rfl rfl rfl rfl (Nat.ble_eq_true_of_le (by simp only [kR,List.length_nil];omega)) rfl ?_;clear H;intro w H;dsimp only [List.set] at H;refine cZ _ _ ?_;clear cZ;refine kP H (SC (Rm rfl (Rd rfl (bq aR rfl (SC (Rm rfl (Rd rfl (Ra rfl ?_))))))));clear H aR;intro a H;refine aD ?_;refine dD ((j+1,i+1,setRow cl (0+i*3) [vi l[j].id,.string l[j].author,vi l[j].time],Mg)) (by exact (H.dY (Pl:=[_,_]) (dK:=[_]) [1] (by decide) rfl).sub ⟨rfl,rfl,rfl,rfl,aC⟩) ?_
   (try dsimp only);exact ⟨by omega,by omega,by rw [hds.1,hcl],by rw [hdt,iI,← hil];rfl,by rw [hdt,UU,← hkept,hds.2.1];rfl,fun m h1 h2=>by rw [hds.2.2 m (by omega),hrest m (by omega) h2],fun b o h=>IB b o (hgm b o h)⟩
  intro gN a H
  try have p29:=dF gN
  rw [au (by simpa using gN),jf] at hdt;refine kP H (Kc aR (SC (Rm rfl (Rd rfl (Ra rfl ?_)))));clear H aR;intro a H;refine aD ?_;refine dD ((j+1,i,cl,Mg)) (by exact (H.dY (Pl:=[_,_]) (dK:=[_]) [1] (by decide) rfl).sub ⟨rfl,rfl,rfl,rfl,aC⟩) ?_
  (try dsimp only);exact ⟨by omega,by omega,hcl,by rw [hdt];exact hil,by rw [hdt];exact hkept,fun m h1 h2=>hrest m (by omega) h2,fun b o h=>IB b o (hgm b o h)⟩
 intro h19 a H
 try have uf:=dF h19
 refine dV ?_;refine K6 _ _ ?_;clear K6;refine kP H (SR fun _ dG=>Rm rfl (Rm rfl ?_));clear H;intro a H;refine zm pz oH i H wn rfl rfl rfl (by omega) rfl ?_;clear H;intro a H;rw [ah (by omega),rO,add_lit] at H;refine abQ pz oH rfl rfl 0 H wn rfl rfl (by omega) (by omega) ?_;clear H;intro cz w hz1 hz2 H;dsimp only [List.set] at H;refine dG _ _ ?_;clear dG;refine kP H (SR fun _ dZ=>Rm rfl (Rm rfl ?_));clear H;intro a H;refine EL pz oH i H wn rfl rfl rfl (by omega) rfl ?_;clear H;intro a H;refine kH H (ak dZ rfl ?_);clear H dZ;intro a H;refine lr H results59 rfl ?_
 obtain rfl:j=l.length:=by omega
 rw [xL] at hil hkept;exact H.hp.dx ⟨OI _,.inr ⟨b,c,cz.toArray,by rw [← hil],rfl,by omega,hcap2,by rw [List.size_toArray,hz1,hcl],by rw [← hkept,← hil];rw [gI] at hz2;exact hz2⟩⟩
theorem Xr (G:GH) (w0:World) (hO:gD G [] w0) (rows:List (List Dat)) (A:Option Addr) (n c:Nat) (hv:av G (.sl 3 rows) (.slice A n c)) (hz:rows.length≤4294967296) :
  Calls prog 60 #[.slice A n c] w0 (fV w0 G [] fun u G' L'=>∃ xs,bZ 102 3 u rows.length xs L'∧bT G' 3 rows xs):=by
 obtain ⟨hn,hc1,hc2,hnil,hx⟩:=hv.cells;refine iX (N:=8) (T:=[(0,_)]) func60 rfl ntmps60 rfl rfl hO ?_;intro a H;refine kP H (SR fun _ K1=>ak K1 rfl (SQ fun _ K2=>SR fun _ K3=>Rm rfl ?_));clear H K1;intro a H;refine BM pz H wn rfl rfl ?_;clear H;intro a H;refine K3 _ _ ?_;clear K3;refine jD H rfl ?_ ?_
 ·intro h4
  refine kP H (SR fun _ K4=>ak K4 rfl ?_);clear H K4;intro a H;refine lr H results60 rfl ?_;have hr0:=hnil (by simpa using h4);subst hr0;exact H.hp.dx ⟨[],bZ.nil,bT.nil⟩
 intro h4
 try have p4:=dF h4
 refine gU ?_;refine K2 _ _ ?_;clear K2;refine bN (fun _ K5=>?_)
 have hA:¬ A=none:=by intro e;rw [e] at h4;cases h4
 refine pR ?_;refine BK pz oH H wn rfl ?_;clear H;intro b5 a w hb5 H;refine kH H (Rm rfl ?_);clear H;intro a H
 by_cases hr0:rows=[]
 ·have hn0:n=0:=by rw [hn,hr0];rfl
  subst hn0;refine BJ pz oH H wn rfl rfl (bM _) rfl ?_;clear H;intro a H;refine kH H (bq K5 rfl ?_);clear H K5;intro a H;refine lr H results60 rfl ?_;subst hr0;exact H.hp.dx ⟨[],bZ.empty,bT.nil⟩
 obtain ⟨b,o,xs,rfl,hxl,hxc,hx1,dP⟩:=hx hr0;refine nE (Li:=[]) (Lo:=[_]) (news:=xs) pz oH rfl rfl H wn rfl rfl bZ.empty hxl (fun j u hj=>H.hp.aI (hxc j u hj)) hx1 (by omega) (by omega) rfl ?_;clear H;intro v7 Lo a w hrow H;dsimp only [List.nil_append] at H;exact kH H (bq K5 rfl (LR results60 rfl fun H=>H.hp.dx ⟨_,by rw [gI,hn] at hrow;exact hrow,dP⟩))
theorem afm (G:GH) (w0:World) (hO:gD G [] w0) (rows:List (List Dat)) (A:Option Addr) (n c:Nat) (hv:av G (.sl 6 rows) (.slice A n c)) (hz:rows.length≤4294967296) :
  Calls prog 175 #[.slice A n c] w0 (fV w0 G [] fun u G' L'=>∃ xs,bZ 192 6 u rows.length xs L'∧bT G' 6 rows xs):=by
 obtain ⟨hn,hc1,hc2,hnil,hx⟩:=hv.cells;refine iX (N:=8) (T:=[(0,_)]) func175 rfl ntmps175 rfl rfl hO ?_;intro a H;refine kP H (SR fun _ K1=>ak K1 rfl (SQ fun _ K2=>SR fun _ K3=>Rm rfl ?_));clear H K1;intro a H;refine BM lV H wn rfl rfl ?_;clear H;intro a H;refine K3 _ _ ?_;clear K3;refine jD H rfl ?_ ?_
 ·intro h4
  refine kP H (SR fun _ K4=>ak K4 rfl ?_);clear H K4;intro a H;refine lr H results175 rfl ?_;have hr0:=hnil (by simpa using h4);subst hr0;exact H.hp.dx ⟨[],bZ.nil,bT.nil⟩
 intro h4
 try have p4:=dF h4
 refine gU ?_;refine K2 _ _ ?_;clear K2;refine bN (fun _ K5=>?_)
 have hA:¬ A=none:=by intro e;rw [e] at h4;cases h4
 refine pR ?_;refine BK lV kr H wn rfl ?_;clear H;intro b5 a w hb5 H;refine kH H (Rm rfl ?_);clear H;intro a H
 by_cases hr0:rows=[]
 ·have hn0:n=0:=by rw [hn,hr0];rfl
  subst hn0;refine BJ lV kr H wn rfl rfl (bM _) rfl ?_;clear H;intro a H;refine kH H (bq K5 rfl ?_);clear H K5;intro a H;refine lr H results175 rfl ?_;subst hr0;exact H.hp.dx ⟨[],bZ.empty,bT.nil⟩
 obtain ⟨b,o,xs,rfl,hxl,hxc,hx1,dP⟩:=hx hr0;refine nE (Li:=[]) (Lo:=[_]) (news:=xs) lV kr rfl rfl H wn rfl rfl bZ.empty hxl (fun j u hj=>H.hp.aI (hxc j u hj)) hx1 (by omega) (by omega) rfl ?_;clear H;intro v7 Lo a w hrow H;dsimp only [List.nil_append] at H;exact kH H (bq K5 rfl (LR results175 rfl fun H=>H.hp.dx ⟨_,by rw [gI,hn] at hrow;exact hrow,dP⟩))
theorem afl (G:GH) (w0:World) (hO:gD G [] w0) (rows:List (List Dat)) (A:Option Addr) (n c:Nat) (hv:av G (.sl 2 rows) (.slice A n c)) (hz:rows.length≤4294967296) :
  Calls prog 176 #[.slice A n c] w0 (fV w0 G [] fun u G' L'=>∃ xs,bZ 93 2 u rows.length xs L'∧bT G' 2 rows xs):=by
 obtain ⟨hn,hc1,hc2,hnil,hx⟩:=hv.cells;refine iX (N:=8) (T:=[(0,_)]) func176 rfl ntmps176 rfl rfl hO ?_;intro a H;refine kP H (SR fun _ K1=>ak K1 rfl (SQ fun _ K2=>SR fun _ K3=>Rm rfl ?_));clear H K1;intro a H;refine BM xH H wn rfl rfl ?_;clear H;intro a H;refine K3 _ _ ?_;clear K3;refine jD H rfl ?_ ?_
 ·intro h4
  refine kP H (SR fun _ K4=>ak K4 rfl ?_);clear H K4;intro a H;refine lr H results176 rfl ?_;have hr0:=hnil (by simpa using h4);subst hr0;exact H.hp.dx ⟨[],bZ.nil,bT.nil⟩
 intro h4
 try have p4:=dF h4
 refine gU ?_;refine K2 _ _ ?_;clear K2;refine bN (fun _ K5=>?_)
 have hA:¬ A=none:=by intro e;rw [e] at h4;cases h4
 refine pR ?_;refine BK xH Au H wn rfl ?_;clear H;intro b5 a w hb5 H;refine kH H (Rm rfl ?_);clear H;intro a H
 by_cases hr0:rows=[]
 ·have hn0:n=0:=by rw [hn,hr0];rfl
  subst hn0;refine BJ xH Au H wn rfl rfl (bM _) rfl ?_;clear H;intro a H;refine kH H (bq K5 rfl ?_);clear H K5;intro a H;refine lr H results176 rfl ?_;subst hr0;exact H.hp.dx ⟨[],bZ.empty,bT.nil⟩
 obtain ⟨b,o,xs,rfl,hxl,hxc,hx1,dP⟩:=hx hr0;refine nE (Li:=[]) (Lo:=[_]) (news:=xs) xH Au rfl rfl H wn rfl rfl bZ.empty hxl (fun j u hj=>H.hp.aI (hxc j u hj)) hx1 (by omega) (by omega) rfl ?_;clear H;intro v7 Lo a w hrow H;dsimp only [List.nil_append] at H;exact kH H (bq K5 rfl (LR results176 rfl fun H=>H.hp.dx ⟨_,by rw [gI,hn] at hrow;exact hrow,dP⟩))
theorem afj (G:GH) (w0:World) (hO:gD G [] w0) (rows:List (List Dat)) (A:Option Addr) (n c:Nat) (hv:av G (.sl 6 rows) (.slice A n c)) (hz:rows.length≤4294967296) :
  Calls prog 177 #[.slice A n c] w0 (fV w0 G [] fun u G' L'=>∃ xs,bZ 107 6 u rows.length xs L'∧bT G' 6 rows xs):=by
 obtain ⟨hn,hc1,hc2,hnil,hx⟩:=hv.cells;refine iX (N:=8) (T:=[(0,_)]) func177 rfl ntmps177 rfl rfl hO ?_;intro a H;refine kP H (SR fun _ K1=>ak K1 rfl (SQ fun _ K2=>SR fun _ K3=>Rm rfl ?_));clear H K1;intro a H;refine BM zw H wn rfl rfl ?_;clear H;intro a H;refine K3 _ _ ?_;clear K3;refine jD H rfl ?_ ?_
 ·intro h4
  refine kP H (SR fun _ K4=>ak K4 rfl ?_);clear H K4;intro a H;refine lr H results177 rfl ?_;have hr0:=hnil (by simpa using h4);subst hr0;exact H.hp.dx ⟨[],bZ.nil,bT.nil⟩
 intro h4
 try have p4:=dF h4
 refine gU ?_;refine K2 _ _ ?_;clear K2;refine bN (fun _ K5=>?_)
 have hA:¬ A=none:=by intro e;rw [e] at h4;cases h4
 refine pR ?_;refine BK zw Am H wn rfl ?_;clear H;intro b5 a w hb5 H;refine kH H (Rm rfl ?_);clear H;intro a H
 by_cases hr0:rows=[]
 ·have hn0:n=0:=by rw [hn,hr0];rfl
  subst hn0;refine BJ zw Am H wn rfl rfl (bM _) rfl ?_;clear H;intro a H;refine kH H (bq K5 rfl ?_);clear H K5;intro a H;refine lr H results177 rfl ?_;subst hr0;exact H.hp.dx ⟨[],bZ.empty,bT.nil⟩
 obtain ⟨b,o,xs,rfl,hxl,hxc,hx1,dP⟩:=hx hr0;refine nE (Li:=[]) (Lo:=[_]) (news:=xs) zw Am rfl rfl H wn rfl rfl bZ.empty hxl (fun j u hj=>H.hp.aI (hxc j u hj)) hx1 (by omega) (by omega) rfl ?_;clear H;intro v7 Lo a w hrow H;dsimp only [List.nil_append] at H;exact kH H (bq K5 rfl (LR results177 rfl fun H=>H.hp.dx ⟨_,by rw [gI,hn] at hrow;exact hrow,dP⟩))
theorem afe (G:GH) (w0:World) (hG:Hold G w0) (rows:List (List Dat)) (A:Option Addr) (n c:Nat) (hv:av G (.sl 6 rows) (.slice A n c)) (hz:rows.length≤4294967296) :
  Calls prog 177 #[.slice A n c] w0 (aZ w0 G fun u G'=>av G' (.sl 6 rows) u):=Ia hG (afj G w0 (yC hG) rows A n c hv hz) rfl
theorem afn (G:GH) (w0:World) (hO:gD G [] w0) (rows:List (List Dat)) (A:Option Addr) (n c:Nat) (hv:av G (.sl 2 rows) (.slice A n c)) (hz:rows.length≤4294967296) :
  Calls prog 178 #[.slice A n c] w0 (fV w0 G [] fun u G' L'=>∃ xs,bZ 110 2 u rows.length xs L'∧bT G' 2 rows xs):=by
 obtain ⟨hn,hc1,hc2,hnil,hx⟩:=hv.cells;refine iX (N:=8) (T:=[(0,_)]) func178 rfl ntmps178 rfl rfl hO ?_;intro a H;refine kP H (SR fun _ K1=>ak K1 rfl (SQ fun _ K2=>SR fun _ K3=>Rm rfl ?_));clear H K1;intro a H;refine BM wE H wn rfl rfl ?_;clear H;intro a H;refine K3 _ _ ?_;clear K3;refine jD H rfl ?_ ?_
 ·intro h4
  refine kP H (SR fun _ K4=>ak K4 rfl ?_);clear H K4;intro a H;refine lr H results178 rfl ?_;have hr0:=hnil (by simpa using h4);subst hr0;exact H.hp.dx ⟨[],bZ.nil,bT.nil⟩
 intro h4
 try have p4:=dF h4
 refine gU ?_;refine K2 _ _ ?_;clear K2;refine bN (fun _ K5=>?_)
 have hA:¬ A=none:=by intro e;rw [e] at h4;cases h4
 refine pR ?_;refine BK wE Ao H wn rfl ?_;clear H;intro b5 a w hb5 H;refine kH H (Rm rfl ?_);clear H;intro a H
 by_cases hr0:rows=[]
 ·have hn0:n=0:=by rw [hn,hr0];rfl
  subst hn0;refine BJ wE Ao H wn rfl rfl (bM _) rfl ?_;clear H;intro a H;refine kH H (bq K5 rfl ?_);clear H K5;intro a H;refine lr H results178 rfl ?_;subst hr0;exact H.hp.dx ⟨[],bZ.empty,bT.nil⟩
 obtain ⟨b,o,xs,rfl,hxl,hxc,hx1,dP⟩:=hx hr0;refine nE (Li:=[]) (Lo:=[_]) (news:=xs) wE Ao rfl rfl H wn rfl rfl bZ.empty hxl (fun j u hj=>H.hp.aI (hxc j u hj)) hx1 (by omega) (by omega) rfl ?_;clear H;intro v7 Lo a w hrow H;dsimp only [List.nil_append] at H;exact kH H (bq K5 rfl (LR results178 rfl fun H=>H.hp.dx ⟨_,by rw [gI,hn] at hrow;exact hrow,dP⟩))
theorem afg (G:GH) (w0:World) (hG:Hold G w0) (rows:List (List Dat)) (A:Option Addr) (n c:Nat) (hv:av G (.sl 2 rows) (.slice A n c)) (hz:rows.length≤4294967296) :
  Calls prog 178 #[.slice A n c] w0 (aZ w0 G fun u G'=>av G' (.sl 2 rows) u):=Ia hG (afn G w0 (yC hG) rows A n c hv hz) rfl
theorem afk (G:GH) (w0:World) (hO:gD G [] w0) (rows:List (List Dat)) (A:Option Addr) (n c:Nat) (hv:av G (.sl 4 rows) (.slice A n c)) (hz:rows.length≤4294967296) :
  Calls prog 179 #[.slice A n c] w0 (fV w0 G [] fun u G' L'=>∃ xs,bZ 96 4 u rows.length xs L'∧bT G' 4 rows xs):=by
 obtain ⟨hn,hc1,hc2,hnil,hx⟩:=hv.cells;refine iX (N:=8) (T:=[(0,_)]) func179 rfl ntmps179 rfl rfl hO ?_;intro a H;refine kP H (SR fun _ K1=>ak K1 rfl (SQ fun _ K2=>SR fun _ K3=>Rm rfl ?_));clear H K1;intro a H;refine BM ER H wn rfl rfl ?_;clear H;intro a H;refine K3 _ _ ?_;clear K3;refine jD H rfl ?_ ?_
 ·intro h4
  refine kP H (SR fun _ K4=>ak K4 rfl ?_);clear H K4;intro a H;refine lr H results179 rfl ?_;have hr0:=hnil (by simpa using h4);subst hr0;exact H.hp.dx ⟨[],bZ.nil,bT.nil⟩
 intro h4
 try have p4:=dF h4
 refine gU ?_;refine K2 _ _ ?_;clear K2;refine bN (fun _ K5=>?_)
 have hA:¬ A=none:=by intro e;rw [e] at h4;cases h4
 refine pR ?_;refine BK ER GV H wn rfl ?_;clear H;intro b5 a w hb5 H;refine kH H (Rm rfl ?_);clear H;intro a H
 by_cases hr0:rows=[]
 ·have hn0:n=0:=by rw [hn,hr0];rfl
  subst hn0;refine BJ ER GV H wn rfl rfl (bM _) rfl ?_;clear H;intro a H;refine kH H (bq K5 rfl ?_);clear H K5;intro a H;refine lr H results179 rfl ?_;subst hr0;exact H.hp.dx ⟨[],bZ.empty,bT.nil⟩
 obtain ⟨b,o,xs,rfl,hxl,hxc,hx1,dP⟩:=hx hr0;refine nE (Li:=[]) (Lo:=[_]) (news:=xs) ER GV rfl rfl H wn rfl rfl bZ.empty hxl (fun j u hj=>H.hp.aI (hxc j u hj)) hx1 (by omega) (by omega) rfl ?_;clear H;intro v7 Lo a w hrow H;dsimp only [List.nil_append] at H;exact kH H (bq K5 rfl (LR results179 rfl fun H=>H.hp.dx ⟨_,by rw [gI,hn] at hrow;exact hrow,dP⟩))
theorem aff (G:GH) (w0:World) (hG:Hold G w0) (rows:List (List Dat)) (A:Option Addr) (n c:Nat) (hv:av G (.sl 4 rows) (.slice A n c)) (hz:rows.length≤4294967296) :
  Calls prog 179 #[.slice A n c] w0 (aZ w0 G fun u G'=>av G' (.sl 4 rows) u):=Ia hG (afk G w0 (yC hG) rows A n c hv hz) rfl
theorem agZ:∀ args w,(callFunc 175 args).run prog w=.ok (.enter 175 args) w:=enters func175 rfl (by kernel_rfl)
theorem aha:∀ args w,(callFunc 176 args).run prog w=.ok (.enter 176 args) w:=enters func176 rfl (by kernel_rfl)
theorem ahb:∀ args w,(callFunc 177 args).run prog w=.ok (.enter 177 args) w:=enters func177 rfl (by kernel_rfl)
theorem ahc:∀ args w,(callFunc 178 args).run prog w=.ok (.enter 178 args) w:=enters func178 rfl (by kernel_rfl)
theorem aqW:pK prog 36 [(0,1),(1,1),(2,1),(3,1)] [.slice none 0 0,.slice none 0 0,.slice none 0 0,.slice none 0 0]:=⟨by kernel_rfl,by kernel_rfl⟩
theorem ahd:∀ args w,(callFunc 179 args).run prog w=.ok (.enter 179 args) w:=enters func179 rfl (by kernel_rfl)
theorem aU.setAt {G:GH}:∀ {r:List Dat} {cs:List aj} {k:Nat} {d:Dat} {v:aj},aU G r cs→r[k]?=some d→av G d v→aU G r (cs.set k v)
 | [],_,_,_,_,_,h,_=>by simp at h
 | e :: r,cs,k,d,v,h,hk,hv=>by
  simp only [aU] at h ⊢
  obtain ⟨x,vs,rfl,h1,h2⟩:=h
  cases k with
  | zero =>
   simp only [AX,oq] at hk
   subst hk;exact ⟨v,vs,rfl,hv,h2⟩
  | succ k=>exact ⟨x,vs.set k v,rfl,h1,aU.setAt h2 (by simpa using hk) hv⟩
theorem bT.setAt {G:GH} {sz:Nat}:∀ {rows:List (List Dat)} {xs:List aj} {i k:Nat} {r:List Dat} {d:Dat} {v:aj},bT G sz rows xs→rows[i]?=some r→r[k]?=some d→k < sz→av G d v→bT G sz rows (xs.set (i*sz+k) v)
 | [],_,_,_,_,_,_,_,h,_,_,_=>by simp at h
 | q :: rows,xs,i,k,r,d,v,h,hr,hk,hs,hv=>by
  obtain ⟨css,rfl,h2,h3⟩:=h
  cases css with
  | nil=>simp at h2
  | cons c css =>
   obtain ⟨h4,h5⟩:=h3 0 q c rfl rfl;have h6:bT G sz rows css.flatten:=⟨css,rfl,by simpa using h2,fun j r' cs hr' hc=>h3 (j+1) r' cs (by simpa using hr') (by simpa using hc)⟩
   have h7:∀ {c' x':List aj},aU G q c'→c'.length=sz→bT G sz rows x'→bT G sz (q :: rows) (c'++x'):=fun a b e=>by
    have h8:=((bT.nil (G:=G) (sz:=sz)).snoc a b).append e
    simpa using h8
   rw [List.flatten_cons]
   cases i with
   | zero =>
    simp only [AX,oq] at hr
    subst hr;rw [Nat.zero_mul,gI,List.set_append_left _ _ (by omega)];exact h7 (h4.setAt hk hv) (by rw [List.length_set];exact h5) h6
   | succ i =>
    rw [List.set_append_right _ _ (by rw [h5,Nat.succ_mul];omega),h5,show (i+1)*sz+k - sz=i*sz+k by rw [Nat.succ_mul];omega];exact h7 h4 h5 (bT.setAt h6 (by simpa using hr) hk hs hv)
theorem ara {G:GH} {l:List bV} {xs:List aj} {k:Nat} (h:bT G 6 (l.map bV.dat) xs) (hk:k < l.length):∃ A c,xs[k*6+5]?=some (.slice A l[k].props.length c)∧av G (.sl 2 (l[k].props.map aO.dat)) (.slice A l[k].props.length c):=by
 obtain ⟨cs,hcl,hcx,hcr⟩:=h.at (k:=k) (r:=l[k].dat) (by simp [hk]);obtain ⟨A,c,rfl,hp⟩:=OX hcr;exact ⟨A,c,hcx 5 _ rfl,hp⟩
theorem ana {G:GH} {l:List fI} {xs:List aj} {k:Nat} (h:bT G 2 (l.map fI.dat) xs) (hk:k < l.length):∃ A n c,xs[k*2+1]?=some (.slice A n c)∧av G (.sl 4 (l[k].levels.map oM.dat)) (.slice A n c):=by
 obtain ⟨cs,hcl,hcx,hcr⟩:=h.at (k:=k) (r:=l[k].dat) (by simp [hk]);obtain ⟨v1,vs,rfl,-,v2,vs2,rfl,h2,-⟩:=hcr;obtain ⟨A,n,c,rfl⟩:=av.form h2;exact ⟨A,n,c,hcx 1 _ rfl,h2⟩
set_option maxHeartbeats 2000000 in
theorem afr (G:GH) (w0:World) (hG:Hold G w0) (s:AU) (a1 JI c1 d1:aj) (hR:zF G s a1 JI c1 d1) (z1:s.styles.length≤4294967296) (z2:s.lists.length≤4294967296) (z3:s.comments.length≤4294967296) (z4:s.vars.length≤4294967296) (z5:∀ x∈s.styles,x.props.length≤4294967296) (z6:∀ x∈s.lists,x.levels.length≤4294967296) :
  Calls prog 116 #[.agg #[a1,JI,c1,d1]] w0 (aZ w0 G fun u G'=>∃ a' b' c' d',u=.agg #[a',b',c',d']∧zF G' s a' b' c' d'):=by
 have hml:maxLen=9223372036854775807:=rfl;obtain ⟨aA,an,ac,rfl⟩:=hR.st.form;obtain ⟨bA,bn,bc,rfl⟩:=hR.li.form;obtain ⟨cA,cn,cc,rfl⟩:=hR.cm.form;obtain ⟨dA,dn,dc,rfl⟩:=hR.va.form;obtain ⟨hs1,hs2,hs3,hs4⟩:=hR;refine eN [(0,_)] func116 rfl ntmps116 rfl rfl hG ?_;intro a H;refine cu (fun _ K1=>?_);refine dQ (cs:=[_,_,_,_]) H wn rfl rfl rfl ?_;clear H;intro b1 a w hb1 H;refine dS Ar H wn rfl ?_;clear H;intro b2 a w hb2 H;refine K1 _ _ ?_;clear K1;refine bN (fun _ K2=>?_);have H:=H.dY (Pl:=[_,_]) (dK:=[_,_]) [1,0] (by decide) rfl;obtain ⟨Ga,hma,hb1',H⟩:=H.eH;have hga:=fun j v hj=>vO hb1' 0 [.slice aA an ac,.slice bA bn bc,.slice cA cn cc,.slice dA dn dc] rfl j v hj;replace hs1:=hs1.mono hma;replace hs2:=hs2.mono hma;replace hs3:=hs3.mono hma;replace hs4:=hs4.mono hma
 have dN:P6 (fun (aN:Nat→aj × OL) (dB:Nat) (v:aj) (G:GH)=>match dB with|0=>v=(aK b1 0)|1=>v=.slice aA an ac|2=>v=(aN 2).1∧∃ xs,bZ 192 6 v s.styles.length xs (aN 2).2∧bT G 6 (s.styles.map bV.dat) xs|3=>v=(aK b1 1)|4=>v=.slice bA bn bc|5=>v=(aN 5).1∧∃ xs,bZ 93 2 v s.lists.length xs (aN 5).2∧bT G 2 (s.lists.map fI.dat) xs|6=>v=(aK b1 2)|7=>v=.slice cA cn cc|8=>av G (.sl 6 (s.comments.map iT.dat)) v|9=>v=(aK b1 3)|10=>v=.slice dA dn dc|11=>av G (.sl 2 (s.vars.map lX.dat)) v|12=>∃ c' d',v=.agg #[(aN 2).1,(aN 5).1,c',d']∧av G (.sl 6 (s.comments.map iT.dat)) c'∧av G (.sl 2 (s.vars.map lX.dat)) d'|13=>∃ b,v=(aK b 0)∧aN 13=((aK b 0),[(b,.cells #[.slice none 0 0,.slice none 0 0,.slice none 0 0,.slice none 0 0] 36 (0,0))])|_=>True):=by intro aN dB v G G' hm h;(iterate 15 (rcases dB with _|dB;(first|exact h|exact let ⟨h1,xs,h2,h3⟩:=h;⟨h1,xs,h2,h3.mono hm⟩|exact av.mono hm h|exact let ⟨c',d',h1,h2,h3⟩:=h;⟨c',d',h1,h2.mono hm,h3.mono hm⟩)));exact trivial
 refine Qm [2,5,13] (hmx) [[],[0],[0,1],[],[3],(ra 0 5),[],[6],(ra 0 8),[],[9],(ra 0 11),(ra 0 12),[],(ra 0 14)] [14] (by kernel_rfl) (by kernel_rfl) (by decide) (by kernel_rfl) (fun (aN:Nat→aj × OL) (dB:Nat) (v:aj) (G:GH)=>match dB with|0=>v=(aK b1 0)|1=>v=.slice aA an ac|2=>v=(aN 2).1∧∃ xs,bZ 192 6 v s.styles.length xs (aN 2).2∧bT G 6 (s.styles.map bV.dat) xs|3=>v=(aK b1 1)|4=>v=.slice bA bn bc|5=>v=(aN 5).1∧∃ xs,bZ 93 2 v s.lists.length xs (aN 5).2∧bT G 2 (s.lists.map fI.dat) xs|6=>v=(aK b1 2)|7=>v=.slice cA cn cc|8=>av G (.sl 6 (s.comments.map iT.dat)) v|9=>v=(aK b1 3)|10=>v=.slice dA dn dc|11=>av G (.sl 2 (s.vars.map lX.dat)) v|12=>∃ c' d',v=.agg #[(aN 2).1,(aN 5).1,c',d']∧av G (.sl 6 (s.comments.map iT.dat)) c'∧av G (.sl 2 (s.vars.map lX.dat)) d'|13=>∃ b,v=(aK b 0)∧aN 13=((aK b 0),[(b,.cells #[.slice none 0 0,.slice none 0 0,.slice none 0 0,.slice none 0 0] 36 (0,0))])|_=>True) (fun m hm x y i v G hi hc h=>by
  have hm:m=2∨m=5∨m=13:=by simpa using hm
  rcases hm with rfl|rfl|rfl
  ·(iterate 15 (rcases i with _|i;(first|exact h|exact absurd hi (by decide)|exact absurd hc (by decide))));exact trivial
  ·(iterate 15 (rcases i with _|i;(first|exact h|exact absurd hi (by decide)|exact absurd hc (by decide))));exact trivial
  ·(iterate 15 (rcases i with _|i;(first|exact h|exact absurd hi (by decide)|exact absurd hc (by decide))));exact trivial
  ) H ?_ ?_ ?_
 ·clear H;refine aF ?_ ?_ ?_ ?_ (aF ?_ ?_ ?_ ?_ (aF ?_ ?_ ?_ ?_ (bR ?_ (bR ?_ (bR ?_ dz)))))
  ·intro aN fJ bB a w G1 gu _ _ aP hc hG HT hv;have H:=HT;clear aP;have Hb:=H.full;have H:=Hb;clear hc;refine kH H (Rf FH rfl ?_);clear H;intro a H;refine aD ⟨rfl,?_⟩;exact fF (by kernel_rfl) (dN aN) rfl rfl HT Hb hG hv (fun _ _ h=>h) (rfl) H
  ·intro aN fJ bB a w G1 gu _ _ aP hc hG HT hv;have H:=HT;clear aP;have H:=H.aM (hv 0 6 (hc 0 (by decide)) rfl) rfl;have Hb:=H.full;have H:=Hb;clear hc;refine kH H (Rg rE rfl (aJ hG (hga 0 _ rfl)) ?_);clear H;intro a H;refine aD ⟨rfl,?_⟩;exact fF (by kernel_rfl) (dN aN) rfl rfl HT Hb hG hv (fun _ _ h=>h) (rfl) H
  ·intro _ _ _ _ _ _ _ _ hB;exact absurd hB (by decide)
  ·intro aN fJ bB a w G1 gu _ _ aP hc hG HT hv;have H:=HT;clear aP;have Hb:=H.full;have H:=Hb;clear hc;refine kH H (Rf FI rfl ?_);clear H;intro a H;refine aD ⟨rfl,?_⟩;exact fF (by kernel_rfl) (dN aN) rfl rfl HT Hb hG hv (fun _ _ h=>h) (rfl) H
  ·intro aN fJ bB a w G1 gu _ _ aP hc hG HT hv;have H:=HT;clear aP;have H:=H.aM (hv 3 9 (hc 3 (by decide)) rfl) rfl;have Hb:=H.full;have H:=Hb;clear hc;refine kH H (Rg Aq rfl (aJ hG (hga 1 _ rfl)) ?_);clear H;intro a H;refine aD ⟨rfl,?_⟩;exact fF (by kernel_rfl) (dN aN) rfl rfl HT Hb hG hv (fun _ _ h=>h) (rfl) H
  ·intro _ _ _ _ _ _ _ _ hB;exact absurd hB (by decide)
  ·intro aN fJ bB a w G1 gu _ _ aP hc hG HT hv;have H:=HT;clear aP;have Hb:=H.full;have H:=Hb;clear hc;refine kH H (Rf Rb rfl ?_);clear H;intro a H;refine aD ⟨rfl,?_⟩;exact fF (by kernel_rfl) (dN aN) rfl rfl HT Hb hG hv (fun _ _ h=>h) (rfl) H
  ·intro aN fJ bB a w G1 gu _ _ aP hc hG HT hv;have H:=HT;clear aP;have H:=H.aM (hv 6 12 (hc 6 (by decide)) rfl) rfl;have Hb:=H.full;have H:=Hb;clear hc;refine kH H (Rg EP rfl (aJ hG (hga 2 _ rfl)) ?_);clear H;intro a H;refine aD ⟨rfl,?_⟩;exact fF (by kernel_rfl) (dN aN) rfl rfl HT Hb hG hv (fun _ _ h=>h) (rfl) H
  ·intro aN fJ bB a w G1 gu _ _ aP hc hG HT hv;have H:=HT;clear aP;have H:=H.aM (hv 7 13 (hc 7 (by decide)) rfl) rfl;have Hb:=H.full;have H:=Hb;clear hc;refine s_call ahb H wn rfl (afe _ _ H.ro _ _ _ _ (hs3.mono hG) (by simpa using z3)) rfl ?_;clear H;rintro v14 Aw a w rX CB H;refine aD ⟨rfl,?_⟩;exact fF (by kernel_rfl) (dN aN) rfl rfl HT Hb hG hv CB (rX) H
  ·intro aN fJ bB a w G1 gu _ _ aP hc hG HT hv;have H:=HT;clear aP;have Hb:=H.full;have H:=Hb;clear hc;refine kH H (Rf Rh rfl ?_);clear H;intro a H;refine aD ⟨rfl,?_⟩;exact fF (by kernel_rfl) (dN aN) rfl rfl HT Hb hG hv (fun _ _ h=>h) (rfl) H
  ·intro aN fJ bB a w G1 gu _ _ aP hc hG HT hv;have H:=HT;clear aP;have H:=H.aM (hv 9 15 (hc 9 (by decide)) rfl) rfl;have Hb:=H.full;have H:=Hb;clear hc;refine kH H (Rg yK rfl (aJ hG (hga 3 _ rfl)) ?_);clear H;intro a H;refine aD ⟨rfl,?_⟩;exact fF (by kernel_rfl) (dN aN) rfl rfl HT Hb hG hv (fun _ _ h=>h) (rfl) H
  ·intro aN fJ bB a w G1 gu _ _ aP hc hG HT hv;have H:=HT;clear aP;have H:=H.aM (hv 10 16 (hc 10 (by decide)) rfl) rfl;have Hb:=H.full;have H:=Hb;clear hc;refine s_call ahc H wn rfl (afg _ _ H.ro _ _ _ _ (hs4.mono hG) (by simpa using z4)) rfl ?_;clear H;rintro v17 vg a w Ew ajQ H;refine aD ⟨rfl,?_⟩;exact fF (by kernel_rfl) (dN aN) rfl rfl HT Hb hG hv ajQ (Ew) H
  ·intro aN fJ bB a w G1 gu _ _ aP hc hG HT hv;have H:=HT;clear aP;obtain ⟨u8,Aa,mO⟩:=hv 2 8 (hc 2 (by decide)) rfl;(try dsimp only at mO);obtain ⟨h8,Pj,Db,Nu⟩:=mO;obtain ⟨sA,sc,rfl,-,-⟩:=Db.shape;have H:=H.jR Aa;obtain ⟨Vp,F8,tT⟩:=hv 5 11 (hc 5 (by decide)) rfl;(try dsimp only at tT);obtain ⟨h11,Jt,vX,Iu⟩:=tT;obtain ⟨lA,lc,rfl,-,-⟩:=vX.shape;have H:=H.jR F8;obtain ⟨u14,KT,rX⟩:=hv 8 14 (hc 8 (by decide)) rfl;(try dsimp only at rX);obtain ⟨Pw,n14,c14,rfl⟩:=rX.form;have H:=H.jR KT;obtain ⟨u17,amn,Ew⟩:=hv 11 17 (hc 11 (by decide)) rfl;(try dsimp only at Ew);obtain ⟨Px,n17,c17,rfl⟩:=Ew.form;have H:=H.jR amn;have Hb:=H.full;have H:=Hb;clear hc;refine jm aqW [_,_,_,_] H wn rfl rfl rfl rfl ?_;clear H;intro a H;refine aD ⟨rfl,?_⟩;exact fF (by kernel_rfl) (dN aN) rfl rfl HT Hb hG hv (fun _ _ h=>h) (⟨_,_,by rw [← h8,← h11],rX,Ew⟩) H
  ·intro _ _ _ _ _ _ _ _ hB;exact absurd hB (by decide)
  intro _ _ _ _ _ _ _ hB;exact absurd hB (by decide)
 ·clear H;refine aF ?_ ?_ ?_ ?_ (aF ?_ ?_ ?_ ?_ (aF ?_ ?_ ?_ ?_ (bR ?_ (bR ?_ (bR ?_ dz)))))
  ·intro hB;exact absurd hB (by decide)
  ·intro hB;exact absurd hB (by decide)
  ·intro _ aN fJ bB a w G1 gu _ hc hG HT hv;have H:=HT;have H:=H.aM (hv (.bool false,[]) 1 7 (by decide) (hc 1 (by decide)) rfl) rfl;have Hb:=H.full;have H:=Hb;clear hc;refine gH agZ (Li:=fJ) (L:=[]) (H.cast (jf _).symm) wn rfl (afm _ _ (yC H.ro) _ _ _ _ (hs1.mono hG) (by simpa using z1)) rfl ?_;clear H;rintro v8 G8 L8 a w ⟨Pj,Db,Nu⟩ pV H;rw [bG] at Db;have H:=H.perm vw;refine aD ⟨rfl,(v8,L8),?_⟩;exact FC (by kernel_rfl) (dN (xI aN 2 (v8,L8))) rfl HT Hb hG (fun j e h1 h2 h3=>hv (v8,L8) j e h1 h2 h3) pV (⟨rfl,Pj,Db,Nu⟩) H
  ·intro hB;exact absurd hB (by decide)
  ·intro hB;exact absurd hB (by decide)
  ·intro _ aN fJ bB a w G1 gu _ hc hG HT hv;have H:=HT;have H:=H.aM (hv (.bool false,[]) 4 10 (by decide) (hc 4 (by decide)) rfl) rfl;have Hb:=H.full;have H:=Hb;clear hc;refine gH aha (Li:=fJ) (L:=[]) (H.cast (jf _).symm) wn rfl (afl _ _ (yC H.ro) _ _ _ _ (hs2.mono hG) (by simpa using z2)) rfl ?_;clear H;rintro v11 sw Fe a w ⟨Jt,vX,Iu⟩ lQ H;rw [bG] at vX;have H:=H.perm vw;refine aD ⟨rfl,(v11,Fe),?_⟩;exact FC (by kernel_rfl) (dN (xI aN 5 (v11,Fe))) rfl HT Hb hG (fun j e h1 h2 h3=>hv (v11,Fe) j e h1 h2 h3) lQ (⟨rfl,Jt,vX,Iu⟩) H
  ·intro hB;exact absurd hB (by decide)
  ·intro hB;exact absurd hB (by decide)
  ·intro hB;exact absurd hB (by decide)
  ·intro hB;exact absurd hB (by decide)
  ·intro hB;exact absurd hB (by decide)
  ·intro hB;exact absurd hB (by decide)
  ·intro hB;exact absurd hB (by decide)
  ·intro _ aN fJ bB a w G1 gu _ hc hG HT hv;have H:=HT;have Hb:=H.full;have H:=Hb;clear hc;refine dS Ar H wn rfl ?_;clear H;intro b3 a w hb3 H;refine aD ⟨rfl,((aK b3 0),[(b3,.cells #[.slice none 0 0,.slice none 0 0,.slice none 0 0,.slice none 0 0] 36 (0,0))]),?_⟩;exact FC (by kernel_rfl) (dN (xI aN 13 ((aK b3 0),[(b3,.cells #[.slice none 0 0,.slice none 0 0,.slice none 0 0,.slice none 0 0] 36 (0,0))]))) rfl HT Hb hG (fun j e h1 h2 h3=>hv ((aK b3 0),[(b3,.cells #[.slice none 0 0,.slice none 0 0,.slice none 0 0,.slice none 0 0] 36 (0,0))]) j e h1 h2 h3) (fun _ _ h=>h) (⟨b3,rfl,rfl⟩) H
  intro hB;exact absurd hB (by decide)
 clear H;intro aN a w G nu H hv
 simp only [qy,List.flatMap_cons,List.flatMap_nil,cond_true,jf,iW] at H
 obtain ⟨u3,hu3,hp3⟩:=hv 13 3 (by decide) rfl;(try dsimp only at hp3);obtain ⟨b3,rfl,e13⟩:=hp3;have H:=H.jR hu3;obtain ⟨u8,Aa,mO⟩:=hv 2 8 (by decide) rfl;(try dsimp only at mO);obtain ⟨h8,Pj,Db,Nu⟩:=mO;obtain ⟨sA,sc,rfl,-,-⟩:=Db.shape;have H:=H.jR Aa;obtain ⟨Vp,F8,tT⟩:=hv 5 11 (by decide) rfl;(try dsimp only at tT);obtain ⟨h11,Jt,vX,Iu⟩:=tT;obtain ⟨lA,lc,rfl,-,-⟩:=vX.shape;have H:=H.jR F8;obtain ⟨u18,TF,CY⟩:=hv 12 18 (by decide) rfl;(try dsimp only at CY);obtain ⟨atZ,aua,rfl,hc18,Zo⟩:=CY;obtain ⟨eA,en,ec,rfl⟩:=hc18.form;obtain ⟨fA,fn,fc,rfl⟩:=Zo.form;have H:=H.jR TF;clear hv;obtain ⟨⟨vS,LS⟩,eS⟩:∃ y,y=aN 2:=⟨_,rfl⟩;obtain ⟨⟨vL,LL⟩,eL⟩:∃ y,y=aN 5:=⟨_,rfl⟩;rw [← eS,← eL,e13] at H;rw [← eS] at Db h8;rw [← eL] at vX h11;dsimp only at H Db vX h8 h11;subst h8;subst h11;rw [← iW] at H;have H:=H.perm (vw (l₁:=LS++LL) (l₂:=[_,_]));dsimp only [lca,bJ] at H;refine bD Ar 0 (vs:=[_,_,_,_]) _ H wn rfl rfl rfl rfl rfl rfl rfl rfl ?_;clear H;intro w H;dsimp only [List.set,setRow] at H;refine aD ⟨rfl,?_⟩;refine K2 _ _ ?_;clear K2;refine kP H (SQ fun _ K3=>SR fun _ K4=>aY FH rE 0 rfl rfl (Rl lV rfl (Rm rfl (Kz K4 (SB ?_)))));clear H K4;intro a H;skip;refine eU (ι:=Nat × List aj × OL × GH) (Tc:=[(2,_),(3,_),(21,_)]) (Lc:=[(_,_),(_,_)]) (fun gh=>[(22,vi gh.1)]) (fun gh=>[]++(gh.2.2.1++LL)) (fun gh=>gh.2.2.2) (fun gh=>gh.1≤s.styles.length∧bZ 192 6 (.slice sA s.styles.length sc) s.styles.length gh.2.1 gh.2.2.1∧bT gh.2.2.2 6 (s.styles.map bV.dat) gh.2.1∧(∀ b o,G b=some o→gh.2.2.2 b=some o)) (fun gh=>s.styles.length - gh.1) ((0,Pj,LS,G)) (by exact (H).sub ⟨rfl,rfl,rfl,rfl,aC⟩) ?_ ?_
 ·exact ⟨gW _,Db,Nu,fun _ _ h=>h⟩
 clear H;rintro ⟨k,xs,Lo,g⟩ a w hI H;dsimp only at hI H;obtain ⟨hk,hrw,dP,hgm⟩:=hI;dsimp only [lca,bJ] at H;refine kP H (SR fun _ K5=>Rc rfl (Kz K5 (SQ fun _ K6=>Cd rfl ?_ ?_))) <;> clear H K5
 ·intro h23 a H
  try have BI:=dT h23
  have hk2:k < s.styles.length:=by omega
  obtain ⟨bs,rfl⟩:=hrw.ptr (by omega);obtain ⟨pA,pc,hpx,hpr⟩:=ara dP hk2;obtain ⟨cur,-,rfl,hcur,hset⟩:=hrw.set1;have hpz:=z5 _ (kS hk2);refine kP H (Kc K6 (SQ fun _ K7=>SB (SR fun _ K8=>Rm rfl (ak K8 rfl ?_))));clear H K6 K8;intro a H
  have zY:Ch (fun (dB:Nat) (v:aj) (G:GH)=>match dB with|0=>v=(aK b3 0)|1=>v=.slice (some ⟨bs,0,none⟩) s.styles.length sc|2=>v=vi k|3=>v=(aK b3 0)|4=>v=.slice (some ⟨bs,0,none⟩) s.styles.length sc|5=>v=vi k|6=>v=(aK bs (0+k*6))|7=>v=(aK bs (0+k*6+5))|8=>v=.slice pA s.styles[k].props.length pc|9=>av G (.sl 2 (s.styles[k].props.map aO.dat)) v|_=>True):=by intro dB v G G' hm h;(iterate 13 (rcases dB with _|dB;(first|exact h|exact av.mono hm h)));exact trivial
  refine Bb (hmx) [[],[0],[],[],[3],[],[3,4,5],(ra 3 4),(ra 3 5),(ra 3 6),(ra 0 10),(ra 0 11),(ra 0 12)] [10,11,12] (by kernel_rfl) (by kernel_rfl) _ zY H ?_ ?_
  ·clear H;refine aF ?_ ?_ ?_ ?_ (aF ?_ ?_ ?_ ?_ (aF ?_ ?_ (bS rfl) (bS rfl) (bR (bS rfl) dz)))
   ·refine dX [] rfl trivial (by kernel_rfl) zY rfl rfl ?_;intro bB a w G1 hG HT H fin;exact kH H (Rf FH rfl fun _ H=>fin H iJ rfl)
   ·refine dX [(0,25,_)] rfl ⟨fun _ _ h=>h,aC⟩ (by kernel_rfl) zY rfl rfl ?_;intro bB a w G1 hG HT H fin;exact kH H (Ro rE 0 rfl fun _ H=>fin H iJ rfl)
   ·refine dX [] rfl trivial (by kernel_rfl) zY rfl rfl ?_;intro bB a w G1 hG HT H fin;exact kH H (Rm rfl fun _ H=>fin H iJ rfl)
   ·refine dX [] rfl trivial (by kernel_rfl) zY rfl rfl ?_;intro bB a w G1 hG HT H fin;exact kH H (Rf FH rfl fun _ H=>fin H iJ rfl)
   ·refine dX [(3,28,_)] rfl ⟨fun _ _ h=>h,aC⟩ (by kernel_rfl) zY rfl rfl ?_;intro bB a w G1 hG HT H fin;exact kH H (Ro rE 0 rfl fun _ H=>fin H iJ rfl)
   ·refine dX [] rfl trivial (by kernel_rfl) zY rfl rfl ?_;intro bB a w G1 hG HT H fin;exact kH H (Rm rfl fun _ H=>fin H iJ rfl)
   ·refine dX [(4,29,_),(5,30,_)] rfl ⟨fun _ _ h=>h,fun _ _ h=>h,aC⟩ (by kernel_rfl) zY rfl rfl ?_;intro bB a w G1 hG HT H fin;exact kH H (Ri lV kr rfl rfl fun _ H=>fin H iJ rfl)
   ·refine dX [(6,31,_)] rfl ⟨fun _ _ h=>h,aC⟩ (by kernel_rfl) zY rfl rfl ?_;intro bB a w G1 hG HT H fin;exact kH H (Rf Na rfl fun _ H=>fin H iJ rfl)
   ·refine dX [(7,32,_)] rfl ⟨fun _ _ h=>h,aC⟩ (by kernel_rfl) zY rfl rfl ?_;intro bB a w G1 hG HT H fin;refine rC um H wn rfl (hrw.at H.hp (fun x hx=>iQ _ (iQ _ (List.mem_append_left _ hx))) (by rw [gI];exact hpx)) rfl ?_;clear H;intro a H;exact fin H iJ rfl
   refine dX [(8,33,_)] rfl ⟨fun _ _ h=>h,aC⟩ (by kernel_rfl) zY rfl rfl ?_;intro bB a w G1 hG HT H fin;refine s_call MZ H wn rfl (Qu _ _ H.ro _ _ _ _ (hpr.mono hG) (by simpa using hpz)) rfl ?_;clear H;rintro v34 Mh a w Ey ajW H;exact fin H ajW (Ey)
  clear H;intro a w G mK H hv;have H:=H.aM (hv 1 26 rfl rfl) rfl;have H:=H.aM (hv 2 27 rfl rfl) rfl;obtain ⟨u34,amo,Ey⟩:=hv 9 34 (by decide) rfl;(try dsimp only at Ey);obtain ⟨DJ,n34,c34,rfl⟩:=Ey.form;have H:=H.jR amo;clear hv;refine kH H (Ri lV kr rfl rfl (Rf Na rfl ?_));clear H;intro a H;refine bD um 2 (c:=cur) (vs:=[.slice DJ n34 c34]) (cur.set (k*6+5) (.slice DJ n34 c34)) H wn rfl rfl rfl rfl rfl rfl (by simp;omega) (by rw [gI];rfl) ?_;clear H;intro w H;dsimp only [List.set,List.cons_append,List.nil_append] at H;have hrwn:=hset (k*6+5) (.slice DJ n34 c34);have akJ:=(dP.mono mK).setAt (i:=k) (k:=5) (r:=s.styles[k].dat) (v:=.slice DJ n34 c34) (by simp [hk2]) rfl (by decide) Ey;refine aD ⟨rfl,?_⟩;refine K7 _ _ ?_;clear K7;refine kP H (SC (Rd rfl (Rm rfl ?_)));clear H;intro a H;refine aD ?_;refine dD ((k+1,xs.set (k*6+5) (.slice DJ n34 c34),[(bs,.cells (cur.set (k*6+5) (.slice DJ n34 c34)).toArray 192 (0,0))],_)) (by exact (H).sub ⟨rfl,rfl,rfl,rfl,aC⟩) ?_
  (try dsimp only);exact ⟨by omega,hrwn,akJ,fun b o h=>mK b o (hgm b o h)⟩
 intro h23 a H
 try have BI:=dF h23
 obtain rfl:k=s.styles.length:=by omega
 refine dV ?_;refine K3 _ _ ?_;clear K3;refine kP H (SQ fun _ K9=>SR fun _ aR=>aY FI Aq 0 rfl rfl (Rl xH rfl (Rm rfl (Kz aR (SB ?_)))));clear H aR;intro a H;skip;refine eU (ι:=Nat × List aj × OL × GH) (Tc:=[(2,_),(3,_),(40,_)]) (Lc:=[(_,_),(_,_)]) (fun gh=>[(41,vi gh.1)]) (fun gh=>[]++(Lo++gh.2.2.1)) (fun gh=>gh.2.2.2) (fun gh=>gh.1≤s.lists.length∧bZ 93 2 (.slice lA s.lists.length lc) s.lists.length gh.2.1 gh.2.2.1∧bT gh.2.2.2 2 (s.lists.map fI.dat) gh.2.1∧(∀ b o,g b=some o→gh.2.2.2 b=some o)) (fun gh=>s.lists.length - gh.1) ((0,Jt,LL,g)) (by exact (H).sub ⟨rfl,rfl,rfl,rfl,aC⟩) ?_ ?_
 ·exact ⟨gW _,vX,Iu.mono hgm,fun _ _ h=>h⟩
 clear H;rintro ⟨k2,xs2,PW,g2⟩ a w hI H;dsimp only at hI H;obtain ⟨hk2,hrw2,vT,iM⟩:=hI;dsimp only [lca,bJ] at H;refine kP H (SR fun _ bQ=>Rc rfl (Kz bQ (SQ fun _ bY=>Cd rfl ?_ ?_))) <;> clear H bQ
 ·intro jw a H
  try have p42:=dT jw
  have hk3:k2 < s.lists.length:=by omega
  obtain ⟨bl,rfl⟩:=hrw2.ptr (by omega);obtain ⟨qA,qn,qc,hqx,hqr⟩:=ana vT hk3;obtain ⟨Ea,-,rfl,ati,ame⟩:=hrw2.set1;have hqz:=z6 _ (kS hk3);refine kP H (Kc bY (SQ fun _ cZ=>SB (SR fun _ dG=>Rm rfl (ak dG rfl ?_))));clear H bY dG;intro a H
  have zX:Ch (fun (dB:Nat) (v:aj) (G:GH)=>match dB with|0=>v=(aK b3 1)|1=>v=.slice (some ⟨bl,0,none⟩) s.lists.length lc|2=>v=vi k2|3=>v=(aK b3 1)|4=>v=.slice (some ⟨bl,0,none⟩) s.lists.length lc|5=>v=vi k2|6=>v=(aK bl (0+k2*2))|7=>v=(aK bl (0+k2*2+1))|8=>v=.slice qA qn qc|9=>av G (.sl 4 (s.lists[k2].levels.map oM.dat)) v|_=>True):=by intro dB v G G' hm h;(iterate 13 (rcases dB with _|dB;(first|exact h|exact av.mono hm h)));exact trivial
  refine Bb (hmx) [[],[0],[],[],[3],[],[3,4,5],(ra 3 4),(ra 3 5),(ra 3 6),(ra 0 10),(ra 0 11),(ra 0 12)] [10,11,12] (by kernel_rfl) (by kernel_rfl) _ zX H ?_ ?_
  ·clear H;refine aF ?_ ?_ ?_ ?_ (aF ?_ ?_ ?_ ?_ (aF ?_ ?_ (bS rfl) (bS rfl) (bR (bS rfl) dz)))
   ·refine dX [] rfl trivial (by kernel_rfl) zX rfl rfl ?_;intro bB a w G1 hG HT H fin;exact kH H (Rf FI rfl fun _ H=>fin H iJ rfl)
   ·refine dX [(0,44,_)] rfl ⟨fun _ _ h=>h,aC⟩ (by kernel_rfl) zX rfl rfl ?_;intro bB a w G1 hG HT H fin;exact kH H (Ro Aq 0 rfl fun _ H=>fin H iJ rfl)
   ·refine dX [] rfl trivial (by kernel_rfl) zX rfl rfl ?_;intro bB a w G1 hG HT H fin;exact kH H (Rm rfl fun _ H=>fin H iJ rfl)
   ·refine dX [] rfl trivial (by kernel_rfl) zX rfl rfl ?_;intro bB a w G1 hG HT H fin;exact kH H (Rf FI rfl fun _ H=>fin H iJ rfl)
   ·refine dX [(3,47,_)] rfl ⟨fun _ _ h=>h,aC⟩ (by kernel_rfl) zX rfl rfl ?_;intro bB a w G1 hG HT H fin;exact kH H (Ro Aq 0 rfl fun _ H=>fin H iJ rfl)
   ·refine dX [] rfl trivial (by kernel_rfl) zX rfl rfl ?_;intro bB a w G1 hG HT H fin;exact kH H (Rm rfl fun _ H=>fin H iJ rfl)
   ·refine dX [(4,48,_),(5,49,_)] rfl ⟨fun _ _ h=>h,fun _ _ h=>h,aC⟩ (by kernel_rfl) zX rfl rfl ?_;intro bB a w G1 hG HT H fin;exact kH H (Ri xH Au rfl rfl fun _ H=>fin H iJ rfl)
   ·refine dX [(6,50,_)] rfl ⟨fun _ _ h=>h,aC⟩ (by kernel_rfl) zX rfl rfl ?_;intro bB a w G1 hG HT H fin;exact kH H (Rf Rj rfl fun _ H=>fin H iJ rfl)
   ·refine dX [(7,51,_)] rfl ⟨fun _ _ h=>h,aC⟩ (by kernel_rfl) zX rfl rfl ?_;intro bB a w G1 hG HT H fin;refine rC Vo H wn rfl (hrw2.at H.hp (fun x hx=>iQ _ (iQ _ (List.mem_append_right _ hx))) (by rw [gI];exact hqx)) rfl ?_;clear H;intro a H;exact fin H iJ rfl
   refine dX [(8,52,_)] rfl ⟨fun _ _ h=>h,aC⟩ (by kernel_rfl) zX rfl rfl ?_;intro bB a w G1 hG HT H fin;refine s_call ahd H wn rfl (aff _ _ H.ro _ _ _ _ (hqr.mono hG) (by simpa using hqz)) rfl ?_;clear H;rintro v53 V3 a w Bw Kk H;exact fin H Kk (Bw)
  clear H;intro a w G qU H hv;have H:=H.aM (hv 1 45 rfl rfl) rfl;have H:=H.aM (hv 2 46 rfl rfl) rfl;obtain ⟨u53,TG,Bw⟩:=hv 9 53 (by decide) rfl;(try dsimp only at Bw);obtain ⟨zC,n53,c53,rfl⟩:=Bw.form;have H:=H.jR TG;clear hv;refine kH H (Ri xH Au rfl rfl (Rf Rj rfl ?_));clear H;intro a H;refine bD Vo (2+Lo.length) (c:=Ea) (vs:=[.slice zC n53 c53]) (Ea.set (k2*2+1) (.slice zC n53 c53)) H wn rfl (amx [_,_] Lo _) rfl rfl rfl rfl (by simp;omega) (by rw [gI];rfl) ?_;clear H;intro w H;have H:=H.cast (aqk [_,_] Lo _ _);have amd:=ame (k2*2+1) (.slice zC n53 c53);have akK:=(vT.mono qU).setAt (i:=k2) (k:=1) (r:=s.lists[k2].dat) (v:=.slice zC n53 c53) (by simp [hk3]) rfl (by decide) Bw;refine aD ⟨rfl,?_⟩;refine cZ _ _ ?_;clear cZ;refine kP H (SC (Rd rfl (Rm rfl ?_)));clear H;intro a H;refine aD ?_;refine dD ((k2+1,xs2.set (k2*2+1) (.slice zC n53 c53),[(bl,.cells (Ea.set (k2*2+1) (.slice zC n53 c53)).toArray 93 (0,0))],_)) (by exact (H).sub ⟨rfl,rfl,rfl,rfl,aC⟩) ?_
  (try dsimp only);exact ⟨by omega,amd,akK,fun b o h=>qU b o (iM b o h)⟩
 intro jw a H
 try have p42:=dF jw
 obtain rfl:k2=s.lists.length:=by omega
 refine dV ?_;refine K9 _ _ ?_;clear K9;refine cu (fun _ dZ=>?_);refine bL Ar (cs:=[_,_,_,_]) H wn rfl rfl (H.hp.cO 0 rfl rfl) rfl ?_;clear H;intro a H;refine bD Ar 1 (vs:=[_,_,_,_]) _ H wn rfl rfl rfl rfl rfl rfl rfl rfl ?_;clear H;intro w H;dsimp only [List.set,setRow] at H;refine dZ _ _ ?_;clear dZ;refine bW ?_;have H:=H.un (A:=[_,_]);obtain ⟨Gr,hmr,yu,H⟩:=St.nW (Li:=[_,_]++Lo) H hrw2 (rows:=s.lists.map fI.dat) (by simp) vT;obtain ⟨Gs,hms,alQ,H⟩:=St.nW (Li:=[_,_]) H hrw (rows:=s.styles.map bV.dat) (by simp) ((dP.mono iM).mono hmr);refine (leave1 H results116 (.cons (nQ Ar (cs:=[_,_,_,_]) H rfl rfl (H.hp.cO 1 rfl rfl)) .nil) ?_).1;exact H.rt ⟨_,_,_,_,rfl,alQ,yu.mono hms,(((hc18.mono hgm).mono iM).mono hmr).mono hms,(((Zo.mono hgm).mono iM).mono hmr).mono hms⟩
theorem Yo:∀ args w,(callFunc 60 args).run prog w=.ok (.enter 60 args) w:=enters func60 rfl (by kernel_rfl)
theorem agn:∀ args w,(callFunc 116 args).run prog w=.ok (.enter 116 args) w:=enters func116 rfl (by kernel_rfl)
theorem acj:pK prog 38 [(0,1),(1,5),(6,1),(7,4)] [.slice none 0 0,.slice none 0 0,.int .i64 0,.int .i64 0,.slice none 0 0,.slice none 0 0,.slice none 0 0,.slice none 0 0,.slice none 0 0,.slice none 0 0,.slice none 0 0]:=⟨by kernel_rfl,by kernel_rfl⟩
theorem afh (G:GH) (w0:World) (hO:gD G [] w0) (l:List ay) (v:aj) (hv:av G (.sl 11 (l.map ay.dat)) v) (hz:bK l≤4294967296) :
  Calls prog 80 #[v] w0 (fV w0 G [] fun u G' L'=>∃ xs,bZ 68 11 u l.length xs L'∧bT G' 11 (l.map ay.dat) xs):=by
 have ih:=MN 4294967297 (by omega);have hl:=DI l;refine iX (N:=5) (T:=[(0,_)]) func80 rfl ntmps80 rfl rfl hO ?_;intro a H;refine kP H (SR fun _ K1=>ak K1 rfl (SR fun _ K2=>Rm rfl ?_));clear H K1;intro a H;refine gH X5 (Li:=[]) (L:=[]) H wn rfl (XR (fun x=>x) _ _ (yC H.ro) l _ _ hv (by omega) (fun y hy=>Xq (n:=4294967296) (MN 4294967296 (by omega)) (by omega) y (by have:=VA hy;omega))) rfl ?_;clear H;rintro v4 G4 L4 a w ⟨xs4,alW,akG⟩ Bu H;dsimp only [List.nil_append] at H;exact kH H (ak K2 rfl (LR results80 rfl fun H=>H.hp.dx ⟨xs4,alW,akG⟩))
def adw (G:GH) (D:jV) (d:jG) (L:OL):Prop :=
 ∃ xf Lf xr Lr,L=Lf++Lr∧bZ 68 11 (cB D.f) d.flow.length xf Lf∧bT G 11 (d.flow.map ay.dat) xf∧bZ 102 3 (cB D.r) d.revs.length xr Lr∧bT G 3 (d.revs.map dh.dat) xr ∧
  jd G d.fin (cB D.p) (cB D.d) (cB D.y)∧D.ins=d.fin.marks.ins∧D.move=d.fin.marks.move∧zF G d.lI (cB D.s1) (cB D.s2) (cB D.s3) (cB D.s4)
set_option maxHeartbeats 2000000 in
theorem afQ (G:GH) (w0:World) (hO:gD G [] w0) (D:jV) (d:jG) (hR:oK G D d) (hz:Cb d) :
  Calls prog 63 #[D.val] w0 (fV w0 G [] fun u G' L'=>∃ D':jV,u=D'.val∧adw G' D' d L'):=by
 obtain ⟨hfl,hhd,hins,hmv,oV,hst⟩:=hR;obtain ⟨zf,zh,zr,zt,zs,GZ⟩:=hz;refine iX (N:=16) (T:=[(0,_)]) func63 rfl ntmps63 rfl rfl hO ?_;intro a H;refine cu (fun _ K1=>?_);refine dQ (cs:=[_,_,_,_,_,_,_,_,_,_,_]) H wn rfl rfl rfl ?_;clear H;intro b1 a w hb1 H;refine dS kG H wn rfl ?_;clear H;intro b2 a w hb2 H;refine K1 _ _ ?_;clear K1;refine bN (fun _ K2=>?_);have H:=H.dY (Pl:=[_,_]) (dK:=[_,_]) [1,0] (by decide) rfl;obtain ⟨Ga,hma,hb1',H⟩:=H.eH;have hga:=fun j v hj=>vO hb1' 0 D.cells rfl j v hj;replace hfl:=hfl.mono hma;replace hhd:=hhd.mono hma;replace oV:=oV.mono hma;replace hst:=hst.mono hma
 have dN:P6 (fun (aN:Nat→aj × OL) (dB:Nat) (v:aj) (G:GH)=>match dB with|0=>v=(aK b1 0)|1=>v=cB D.f|2=>v=(aN 2).1∧∃ xs,bZ 68 11 v d.flow.length xs (aN 2).2∧bT G 11 (d.flow.map ay.dat) xs|3=>v=(aK b1 1)|4=>v=qV d.fin (cB D.p) (cB D.d) (cB D.y)|5=>∃ p y z,v=.agg #[p,vi d.fin.marks.ins,vi d.fin.marks.move,y,z]∧jd G d.fin p y z|6=>v=(aK b1 6)|7=>v=cB D.r|8=>v=(aN 8).1∧∃ xs,bZ 102 3 v d.revs.length xs (aN 8).2∧bT G 3 (d.revs.map dh.dat) xs|9=>v=(aK b1 7)|10=>v=.agg #[cB D.s1,cB D.s2,cB D.s3,cB D.s4]|11=>∃ a' b' c' d',v=.agg #[a',b',c',d']∧zF G d.lI a' b' c' d'|_=>True):=by intro aN dB v G G' hm h;(iterate 14 (rcases dB with _|dB;(first|exact h|exact let ⟨h1,xs,h2,h3⟩:=h;⟨h1,xs,h2,h3.mono hm⟩|exact let ⟨p,y,z,h1,h2⟩:=h;⟨p,y,z,h1,h2.mono hm⟩|exact let ⟨p,q,y,z,h1,h2⟩:=h;⟨p,q,y,z,h1,h2.mono hm⟩)));exact trivial
 refine Qm [2,8] (hmx) [[],[0],[0,1],[],[3],(ra 0 5),[],[6],(ra 0 8),[],[9],(ra 0 11),(ra 0 12),(ra 0 13)] [12,13] (by kernel_rfl) (by kernel_rfl) (by decide) (by kernel_rfl) (fun (aN:Nat→aj × OL) (dB:Nat) (v:aj) (G:GH)=>match dB with|0=>v=(aK b1 0)|1=>v=cB D.f|2=>v=(aN 2).1∧∃ xs,bZ 68 11 v d.flow.length xs (aN 2).2∧bT G 11 (d.flow.map ay.dat) xs|3=>v=(aK b1 1)|4=>v=qV d.fin (cB D.p) (cB D.d) (cB D.y)|5=>∃ p y z,v=.agg #[p,vi d.fin.marks.ins,vi d.fin.marks.move,y,z]∧jd G d.fin p y z|6=>v=(aK b1 6)|7=>v=cB D.r|8=>v=(aN 8).1∧∃ xs,bZ 102 3 v d.revs.length xs (aN 8).2∧bT G 3 (d.revs.map dh.dat) xs|9=>v=(aK b1 7)|10=>v=.agg #[cB D.s1,cB D.s2,cB D.s3,cB D.s4]|11=>∃ a' b' c' d',v=.agg #[a',b',c',d']∧zF G d.lI a' b' c' d'|_=>True) (fun m hm x y i v G hi hc h=>by
  have hm:m=2∨m=8:=by simpa using hm
  rcases hm with rfl|rfl
  ·(iterate 14 (rcases i with _|i;(first|exact h|exact absurd hi (by decide)|exact absurd hc (by decide))));exact trivial
  ·(iterate 14 (rcases i with _|i;(first|exact h|exact absurd hi (by decide)|exact absurd hc (by decide))));exact trivial
  ) H ?_ ?_ ?_
 ·clear H;refine aF ?_ ?_ ?_ ?_ (aF ?_ ?_ ?_ ?_ (aF ?_ ?_ ?_ ?_ (bR ?_ (bR ?_ dz))))
  ·intro aN fJ bB a w G1 gu _ _ aP hc hG HT hv;have H:=HT;clear aP;have Hb:=H.full;have H:=Hb;clear hc;refine kH H (Rf vG rfl ?_);clear H;intro a H;refine aD ⟨rfl,?_⟩;exact fF (by kernel_rfl) (dN aN) rfl rfl HT Hb hG hv (fun _ _ h=>h) (rfl) H
  ·intro aN fJ bB a w G1 gu _ _ aP hc hG HT hv;have H:=HT;clear aP;have H:=H.aM (hv 0 3 (hc 0 (by decide)) rfl) rfl;have Hb:=H.full;have H:=Hb;clear hc;refine kH H (Rg jc rfl (aJ hG (hga 0 _ rfl)) ?_);clear H;intro a H;refine aD ⟨rfl,?_⟩;exact fF (by kernel_rfl) (dN aN) rfl rfl HT Hb hG hv (fun _ _ h=>h) (rfl) H
  ·intro _ _ _ _ _ _ _ _ hB;exact absurd hB (by decide)
  ·intro aN fJ bB a w G1 gu _ _ aP hc hG HT hv;have H:=HT;clear aP;have Hb:=H.full;have H:=Hb;clear hc;refine kH H (Rf Ed rfl ?_);clear H;intro a H;refine aD ⟨rfl,?_⟩;exact fF (by kernel_rfl) (dN aN) rfl rfl HT Hb hG hv (fun _ _ h=>h) (rfl) H
  ·intro aN fJ bB a w G1 gu _ _ aP hc hG HT hv;have H:=HT;clear aP;have H:=H.aM (hv 3 6 (hc 3 (by decide)) rfl) rfl;have Hb:=H.full;have H:=Hb;clear hc;refine bL eu (cs:=[cB D.p,vi d.fin.marks.ins,vi d.fin.marks.move,cB D.d,cB D.y]) H wn rfl rfl (fun j v hj=>H.hp.aI (aJ hG (by rw [← hins,← hmv] at hj;exact vO hb1' 1 _ rfl j v hj))) rfl ?_;clear H;intro a H;refine aD ⟨rfl,?_⟩;exact fF (by kernel_rfl) (dN aN) rfl rfl HT Hb hG hv (fun _ _ h=>h) (rfl) H
  ·intro aN fJ bB a w G1 gu _ _ aP hc hG HT hv;have H:=HT;clear aP;have H:=H.aM (hv 4 7 (hc 4 (by decide)) rfl) rfl;have Hb:=H.full;have H:=Hb;clear hc;refine s_call FD H wn rfl (Fz _ _ H.ro d.fin _ _ _ _ _ _ _ _ _ (hhd.mono hG) zh) rfl ?_;clear H;rintro v8 G8 a w mO pV H;refine aD ⟨rfl,?_⟩;exact fF (by kernel_rfl) (dN aN) rfl rfl HT Hb hG hv pV (mO) H
  ·intro aN fJ bB a w G1 gu _ _ aP hc hG HT hv;have H:=HT;clear aP;have Hb:=H.full;have H:=Hb;clear hc;refine kH H (Rf Ee rfl ?_);clear H;intro a H;refine aD ⟨rfl,?_⟩;exact fF (by kernel_rfl) (dN aN) rfl rfl HT Hb hG hv (fun _ _ h=>h) (rfl) H
  ·intro aN fJ bB a w G1 gu _ _ aP hc hG HT hv;have H:=HT;clear aP;have H:=H.aM (hv 6 9 (hc 6 (by decide)) rfl) rfl;have Hb:=H.full;have H:=Hb;clear hc;refine kH H (Rg yJ rfl (aJ hG (hga 6 _ rfl)) ?_);clear H;intro a H;refine aD ⟨rfl,?_⟩;exact fF (by kernel_rfl) (dN aN) rfl rfl HT Hb hG hv (fun _ _ h=>h) (rfl) H
  ·intro _ _ _ _ _ _ _ _ hB;exact absurd hB (by decide)
  ·intro aN fJ bB a w G1 gu _ _ aP hc hG HT hv;have H:=HT;clear aP;have Hb:=H.full;have H:=Hb;clear hc;refine kH H (Rf J6 rfl ?_);clear H;intro a H;refine aD ⟨rfl,?_⟩;exact fF (by kernel_rfl) (dN aN) rfl rfl HT Hb hG hv (fun _ _ h=>h) (rfl) H
  ·intro aN fJ bB a w G1 gu _ _ aP hc hG HT hv;have H:=HT;clear aP;have H:=H.aM (hv 9 12 (hc 9 (by decide)) rfl) rfl;have Hb:=H.full;have H:=Hb;clear hc;refine bL Ar (cs:=[cB D.s1,cB D.s2,cB D.s3,cB D.s4]) H wn rfl rfl (fun j v hj=>H.hp.aI (aJ hG (vO hb1' 7 _ rfl j v hj))) rfl ?_;clear H;intro a H;refine aD ⟨rfl,?_⟩;exact fF (by kernel_rfl) (dN aN) rfl rfl HT Hb hG hv (fun _ _ h=>h) (rfl) H
  ·intro aN fJ bB a w G1 gu _ _ aP hc hG HT hv;have H:=HT;clear aP;have H:=H.aM (hv 10 13 (hc 10 (by decide)) rfl) rfl;have Hb:=H.full;have H:=Hb;clear hc;refine s_call agn H wn rfl (afr _ _ H.ro d.lI _ _ _ _ (hst.mono hG) zs GZ.ln GZ.cn GZ.vn GZ.pl GZ.ll) rfl ?_;clear H;rintro v14 Aw a w rX CB H;refine aD ⟨rfl,?_⟩;exact fF (by kernel_rfl) (dN aN) rfl rfl HT Hb hG hv CB (rX) H
  ·intro _ _ _ _ _ _ _ hB;exact absurd hB (by decide)
  intro _ _ _ _ _ _ _ hB;exact absurd hB (by decide)
 ·clear H;refine aF ?_ ?_ ?_ ?_ (aF ?_ ?_ ?_ ?_ (aF ?_ ?_ ?_ ?_ (bR ?_ (bR ?_ dz))))
  ·intro hB;exact absurd hB (by decide)
  ·intro hB;exact absurd hB (by decide)
  ·intro _ aN fJ bB a w G1 gu _ hc hG HT hv;have H:=HT;have H:=H.aM (hv (.bool false,[]) 1 4 (by decide) (hc 1 (by decide)) rfl) rfl;have Hb:=H.full;have H:=Hb;clear hc;refine gH M4 (Li:=fJ) (L:=[]) (H.cast (jf _).symm) wn rfl (afh _ _ (yC H.ro) d.flow _ (hfl.mono hG) (by omega)) rfl ?_;clear H;rintro v5 G5 L5 a w ⟨xs5,alX,akH⟩ mK H;have H:=H.perm vw;refine aD ⟨rfl,(v5,L5),?_⟩;exact FC (by kernel_rfl) (dN (xI aN 2 (v5,L5))) rfl HT Hb hG (fun j e h1 h2 h3=>hv (v5,L5) j e h1 h2 h3) mK (⟨rfl,xs5,alX,akH⟩) H
  ·intro hB;exact absurd hB (by decide)
  ·intro hB;exact absurd hB (by decide)
  ·intro hB;exact absurd hB (by decide)
  ·intro hB;exact absurd hB (by decide)
  ·intro hB;exact absurd hB (by decide)
  ·intro _ aN fJ bB a w G1 gu _ hc hG HT hv;have H:=HT;have H:=H.aM (hv (.bool false,[]) 7 10 (by decide) (hc 7 (by decide)) rfl) rfl;have Hb:=H.full;have H:=Hb;clear hc;refine gH Yo (Li:=fJ) (L:=[]) (H.cast (jf _).symm) wn rfl (Xr _ _ (yC H.ro) _ _ _ _ (oV.mono hG) (by simpa using zr)) rfl ?_;clear H;rintro v11 sw Fe a w ⟨Jt,vX,Iu⟩ lQ H;rw [bG] at vX;have H:=H.perm vw;refine aD ⟨rfl,(v11,Fe),?_⟩;exact FC (by kernel_rfl) (dN (xI aN 8 (v11,Fe))) rfl HT Hb hG (fun j e h1 h2 h3=>hv (v11,Fe) j e h1 h2 h3) lQ (⟨rfl,Jt,vX,Iu⟩) H
  ·intro hB;exact absurd hB (by decide)
  ·intro hB;exact absurd hB (by decide)
  ·intro hB;exact absurd hB (by decide)
  ·intro hB;exact absurd hB (by decide)
  intro hB;exact absurd hB (by decide)
 clear H;intro aN a w G nu H hv
 simp only [qy,List.flatMap_cons,List.flatMap_nil,cond_true,jf,iW] at H
 obtain ⟨u5,F9,qX⟩:=hv 2 5 (by decide) rfl;(try dsimp only at qX);obtain ⟨h5,xf,IQ,SI⟩:=qX;obtain ⟨fA,fc,rfl,-,-⟩:=IQ.shape;have H:=H.jR F9;obtain ⟨u8,Aa,mO⟩:=hv 5 8 (by decide) rfl;(try dsimp only at mO);obtain ⟨p8,y8,z8,rfl,NC⟩:=mO;obtain ⟨a1,a2,a3,rfl⟩:=NC.props.form;obtain ⟨a4,a5,a6,rfl⟩:=NC.bE.form;obtain ⟨a7,a8,a9,rfl⟩:=NC.layers.form;have H:=H.jR Aa;obtain ⟨Vp,F8,tT⟩:=hv 8 11 (by decide) rfl;(try dsimp only at tT);obtain ⟨h11,xr,IU,SK⟩:=tT;obtain ⟨rA,rc,rfl,-,-⟩:=IU.shape;have H:=H.jR F8;obtain ⟨u14,KT,rX⟩:=hv 11 14 (by decide) rfl;(try dsimp only at rX);obtain ⟨sP,q14,y14,z14,rfl,KR⟩:=rX;obtain ⟨c1,c2,c3,rfl⟩:=KR.st.form;obtain ⟨c4,c5,c6,rfl⟩:=KR.li.form;obtain ⟨c7,c8,c9,rfl⟩:=KR.cm.form;obtain ⟨d1,d2,d3,rfl⟩:=KR.va.form;have H:=H.jR KT;clear hv;obtain ⟨⟨vF,LF⟩,eF⟩:∃ y,y=aN 2:=⟨_,rfl⟩;obtain ⟨⟨vR,LR⟩,eR⟩:∃ y,y=aN 8:=⟨_,rfl⟩;rw [← eF,← eR] at H;rw [← eF] at IQ h5;rw [← eR] at IU h11;dsimp only at H IQ IU h5 h11;subst h5;subst h11;rw [← iW] at H;have H:=H.perm (vw (l₁:=LF++LR) (l₂:=[_]));dsimp only [lca,bJ] at H;refine jm acj [_,_,_,_,_,_,_,_,_,_,_] H wn rfl rfl rfl rfl ?_;clear H;intro a H;refine bD kG 0 (vs:=[_,_,_,_,_,_,_,_,_,_,_]) _ H wn rfl rfl rfl rfl rfl rfl rfl rfl ?_;clear H;intro w H;dsimp only [List.set,setRow] at H;refine aD ⟨rfl,?_⟩;refine K2 _ _ ?_;clear K2;refine bW ?_;refine (leave1 H results63 (.cons (nQ kG (cs:=[_,_,_,_,_,_,_,_,_,_,_]) H rfl rfl (H.hp.cO 0 rfl rfl)) .nil) ?_).1;exact H.hp.iq (L':=LF++LR) (AY _ _) ⟨⟨(fA,d.flow.length,fc),(a1,a2,a3),(a4,a5,a6),(a7,a8,a9),(rA,d.revs.length,rc),(c1,c2,c3),(c4,c5,c6),(c7,c8,c9),(d1,d2,d3),d.fin.marks.ins,d.fin.marks.move⟩,rfl,xf,LF,xr,LR,rfl,IQ,SI,IU,SK,NC,rfl,rfl,KR⟩
theorem QX:∀ args w,(callFunc 58 args).run prog w=.ok (.enter 58 args) w:=enters func58 rfl (by kernel_rfl)
theorem agh:∀ args w,(callFunc 109 args).run prog w=.ok (.enter 109 args) w:=enters func109 rfl (by kernel_rfl)
theorem Yn:∀ args w,(callFunc 52 args).run prog w=.ok (.enter 52 args) w:=enters func52 rfl (by kernel_rfl)
theorem agj:∀ args w,(callFunc 112 args).run prog w=.ok (.enter 112 args) w:=enters func112 rfl (by kernel_rfl)
theorem agY:∀ args w,(callFunc 173 args).run prog w=.ok (.enter 173 args) w:=enters func173 rfl (by kernel_rfl)
theorem agi:∀ args w,(callFunc 111 args).run prog w=.ok (.enter 111 args) w:=enters func111 rfl (by kernel_rfl)
theorem anP {G:GH} (r:aW):pO (.func (.func 112) #[] #[]) G r.dat (decide (r.cells.length=0)):=by
 intro G1 w0 cs hm hG hr;refine jI (caps:=[]) agj ?_;obtain ⟨pA,pn,pc,dA,dn,dc,yA,yn,yc,fA,fn,fc,rfl,-,hf⟩:=hr.row;have hn:=hf.len;rw [bG] at hn;subst hn;refine eN [(0,_)] func112 rfl ntmps112 rfl rfl hG ?_;intro a H;refine cu (fun _ K1=>?_);refine dQ (cs:=[_,_,_,_,_,_]) H wn rfl rfl rfl ?_;clear H;intro b1 a w hb1 H;exact kH H (ak K1 rfl (SR fun _ K2=>aY vJ wD 0 rfl rfl (Rl om rfl (Rc rfl (ak K2 rfl (LR results112 rfl fun H=>H.rt (dL (decide_eq_decide.2 (by omega)))))))))
theorem afM (G:GH) (w0:World) (hG:Hold G w0) (l:List aW) (v:aj) (hv:av G (.sl 6 (l.map aW.dat)) v) (hne:∀ r∈l,r.cells≠[]) :
  Calls prog 109 #[v,.func (.func 112) #[] #[]] w0 (aZ w0 G fun u G'=>av G' (.sl 6 (l.map aW.dat)) u):=by
 obtain ⟨A,n,c,rfl⟩:=hv.form
 have hno:l.findIdx? (fun r=>decide (r.cells.length=0))=none:=by
  rw [List.findIdx?_eq_none_iff];intro r hr;exact jY fun h=>hne r hr (List.length_eq_zero_iff.1 h)
 refine eN [(0,_),(1,_)] func109 rfl ntmps109 rfl rfl hG ?_;intro a H;refine kP H (SR fun _ K1=>ak K1 rfl (SR fun _ K2=>Rm rfl (Rm rfl ?_)));clear H K1;intro a H;refine s_call X7 H wn rfl (aat _ _ H.ro l (fun r=>decide (r.cells.length=0)) _ _ hv (fun r _=>anP r)) rfl ?_;clear H;rintro v10 Ce a w rfl En H;rw [hno] at H;refine kH H (ak K2 rfl (SQ fun _ K3=>SR fun _ K4=>Rm rfl (Rc rfl (Kz K4 (Cd rfl ?_ ?_))))) <;> clear H K2 K4
 ·intro h12 a H
  exact kP H (SR fun _ K5=>Rm rfl (ak K5 rfl (LR results109 rfl fun H=>H.rt (hv.mono En))))
 intro h12 a H
 try have qb:=dF h12
 exact absurd rfl qb
def Fp (n:Nat):Prop:=∀ (G:GH) (w0:World),Hold G w0→∀ (l:List ay) (v:aj),av G (.sl 11 (l.map ay.dat)) v→wz l→bK l < n →
 Calls prog 58 #[v] w0 (aZ w0 G fun u G'=>av G' (.sl 11 ((og l).map ay.dat)) u)
theorem anK {n:Nat} (ih:Fp n) (hn:n≤4294967296) (G:GH) (w0:World) (hG:Hold G w0) (x:aX) (cs:List aj) (hv:aU G x.dat cs) (hne:ED x) (hz:bX x.dat < n+1) :
  Calls prog 173 #[.agg cs.toArray] w0 (aZ w0 G fun u G'=>∃ cs',u=.agg cs'.toArray∧aU G' (nC x).dat cs'):=by
 have he:=BU x;obtain ⟨pA,pn,pc,dA,dn,dc,yA,yn,yc,fA,fn,fc,rfl,hh,hf⟩:=hv.cell;rw [anA] at hne;refine eN [(0,_)] func173 rfl ntmps173 rfl rfl hG ?_;intro a H;refine cu (fun _ K1=>?_);refine dQ (cs:=[_,_,_,_,_,_,_]) H wn rfl rfl rfl ?_;clear H;intro b1 a w hb1 H;refine dS kI H wn rfl ?_;clear H;intro b2 a w hb2 H;refine K1 _ _ ?_;clear K1;refine bN (fun _ K2=>?_)
 have dN:Ch (fun (dB:Nat) (v:aj) (G:GH)=>match dB with|0=>v=(aK b1 0)|1=>v=vi x.id|2=>v=(aK b1 1)|3=>v=.agg #[.slice pA pn pc,vi x.head.marks.ins,vi x.head.marks.move,.slice dA dn dc,.slice yA yn yc]|4=>∃ p d l,v=.agg #[p,vi x.head.marks.ins,vi x.head.marks.move,d,l]∧jd G x.head p d l|5=>v=(aK b1 6)|6=>v=.slice fA fn fc|7=>av G (.sl 11 ((og x.flow).map ay.dat)) v|_=>True):=by intro dB v G G' hm h;(iterate 10 (rcases dB with _|dB;(first|exact h|exact let ⟨p,d,l,h1,h2⟩:=h;⟨p,d,l,h1,h2.mono hm⟩|exact av.mono hm h)));exact trivial
 refine Bb (hmx) [[],[0],[],[2],[2,3],[],[5],(ra 2 5),(ra 0 8),(ra 0 9)] [8,9] (by kernel_rfl) (by kernel_rfl) _ dN H ?_ ?_
 ·clear H;refine aF ?_ ?_ ?_ ?_ (aF ?_ ?_ ?_ ?_ (bR (bS rfl) (bR (bS rfl) dz)))
  ·refine dX [] rfl trivial (by kernel_rfl) dN rfl rfl ?_;intro bB a w G1 hG HT H fin;exact kH H (Rf J9 rfl fun _ H=>fin H iJ rfl)
  ·refine dX [(0,3,_)] rfl ⟨fun _ _ h=>h,aC⟩ (by kernel_rfl) dN rfl rfl ?_;intro bB a w G1 hG HT H fin;exact kH H (Ro aH 1 rfl fun _ H=>fin H iJ rfl)
  ·refine dX [] rfl trivial (by kernel_rfl) dN rfl rfl ?_;intro bB a w G1 hG HT H fin;exact kH H (Rf FK rfl fun _ H=>fin H iJ rfl)
  ·refine dX [(2,5,_)] rfl ⟨fun _ _ h=>h,aC⟩ (by kernel_rfl) dN rfl rfl ?_;intro bB a w G1 hG HT H fin;refine bL eu (cs:=[_,_,_,_,_]) H wn rfl rfl (H.hp.cO 1 rfl rfl) rfl ?_;clear H;intro a H;exact fin H iJ rfl
  ·refine dX [(3,6,_)] rfl ⟨fun _ _ h=>h,aC⟩ (by kernel_rfl) dN rfl rfl ?_;intro bB a w G1 hG HT H fin;refine s_call FD H wn rfl (Fz _ _ H.ro x.head _ _ _ _ _ _ _ _ _ (hh.mono hG) (by omega)) rfl ?_;clear H;rintro v7 G7 a w CZ Kl H;exact fin H Kl (CZ)
  ·refine dX [] rfl trivial (by kernel_rfl) dN rfl rfl ?_;intro bB a w G1 hG HT H fin;exact kH H (Rf FL rfl fun _ H=>fin H iJ rfl)
  ·refine dX [(5,8,_)] rfl ⟨fun _ _ h=>h,aC⟩ (by kernel_rfl) dN rfl rfl ?_;intro bB a w G1 hG HT H fin;exact kH H (Ro jc 1 rfl fun _ H=>fin H iJ rfl)
  refine dX [(6,9,_)] rfl ⟨fun _ _ h=>h,aC⟩ (by kernel_rfl) dN rfl rfl ?_;intro bB a w G1 hG HT H fin;refine s_call QX H wn rfl (ih _ _ H.ro x.flow _ (hf.mono hG) hne (by omega)) rfl ?_;clear H;rintro v10 Ce a w tQ qU H;exact fin H qU (tQ)
 clear H;intro a w G nu H hv;have H:=H.aM (hv 1 4 rfl rfl) rfl;obtain ⟨u7,TH,CZ⟩:=hv 4 7 (by decide) rfl;(try dsimp only at CZ);obtain ⟨p7,d7,l7,rfl,CQ⟩:=CZ;obtain ⟨a1,a2,a3,rfl⟩:=CQ.props.form;obtain ⟨a4,a5,a6,rfl⟩:=CQ.bE.form;obtain ⟨a7,a8,a9,rfl⟩:=CQ.layers.form;have H:=H.jR TH;obtain ⟨u10,KS,tQ⟩:=hv 7 10 (by decide) rfl;(try dsimp only at tQ);obtain ⟨VE,n10,c10,rfl⟩:=tQ.form;have H:=H.jR KS;clear hv;refine jm Ve [_,_,_,_,_,_,_] H wn rfl rfl rfl rfl ?_;clear H;intro a H;refine bD kI 0 (vs:=[_,_,_,_,_,_,_]) _ H wn rfl rfl rfl rfl rfl rfl rfl rfl ?_;clear H;intro w H;dsimp only [List.set,setRow] at H;refine aD ⟨rfl,?_⟩;refine K2 _ _ ?_;clear K2;refine bW ?_;refine (leave1 H results173 (.cons (nQ kI (cs:=[_,_,_,_,_,_,_]) H rfl rfl (H.hp.cO 0 rfl rfl)) .nil) ?_).1;exact H.rt ⟨_,rfl,by rw [anv];exact aU.Oe (x:=.mk x.id x.head (og x.flow)) CQ tQ⟩
theorem anL {n:Nat} (ih:Fp n) (hn:n≤4294967296) {G:GH} {w0:World} (x:aX) (hne:ED x) (hz:bX x.dat < n+1):Ca (.func (.func 173) #[] #[]) w0 G x.dat (nC x).dat:=by
 intro G1 w1 cs hm1 hG1 hr;have h:=anK ih hn _ _ hG1 x cs hr hne hz;have h2:=jI (P:=prog) (caps:=[]) (args:=[.agg cs.toArray]) agY h;exact h2
theorem anM {n:Nat} (ih:Fp n) (hn:n≤4294967296) (G:GH) (w0:World) (hG:Hold G w0) (x:aW) (cs:List aj) (hv:aU G x.dat cs) (hne:EG x) (hz:bX x.dat < n+1) :
  Calls prog 111 #[.agg cs.toArray] w0 (aZ w0 G fun u G'=>∃ cs',u=.agg cs'.toArray∧aU G' (nR x).dat cs'):=by
 have he:=BX x;have hl:=Ju x.cells;obtain ⟨pA,pn,pc,dA,dn,dc,yA,yn,yc,fA,fn,fc,rfl,hh,hf⟩:=hv.row;rw [aaX] at hne;refine eN [(0,_)] func111 rfl ntmps111 rfl rfl hG ?_;intro a H;refine cu (fun _ K1=>?_);refine dQ (cs:=[_,_,_,_,_,_]) H wn rfl rfl rfl ?_;clear H;intro b1 a w hb1 H;refine dS jP H wn rfl ?_;clear H;intro b2 a w hb2 H;refine K1 _ _ ?_;clear K1;refine bN (fun _ K2=>?_)
 have dN:Ch (fun (dB:Nat) (v:aj) (G:GH)=>match dB with|0=>v=(aK b1 0)|1=>v=.agg #[.slice pA pn pc,vi x.head.marks.ins,vi x.head.marks.move,.slice dA dn dc,.slice yA yn yc]|2=>∃ p d l,v=.agg #[p,vi x.head.marks.ins,vi x.head.marks.move,d,l]∧jd G x.head p d l|3=>v=(aK b1 5)|4=>v=.slice fA fn fc|5=>av G (.sl 7 (x.cells.map fun y=>(nC y).dat)) v|_=>True):=by intro dB v G G' hm h;(iterate 8 (rcases dB with _|dB;(first|exact h|exact let ⟨p,d,l,h1,h2⟩:=h;⟨p,d,l,h1,h2.mono hm⟩|exact av.mono hm h)));exact trivial
 refine Bb (hmx) [[],[0],[0,1],[],[3],(ra 0 5),(ra 0 6),(ra 0 7)] [6,7] (by kernel_rfl) (by kernel_rfl) _ dN H ?_ ?_
 ·clear H;refine aF ?_ ?_ ?_ ?_ (aF ?_ ?_ (bS rfl) (bS rfl) dz)
  ·refine dX [] rfl trivial (by kernel_rfl) dN rfl rfl ?_;intro bB a w G1 hG HT H fin;exact kH H (Rf FJ rfl fun _ H=>fin H iJ rfl)
  ·refine dX [(0,3,_)] rfl ⟨fun _ _ h=>h,aC⟩ (by kernel_rfl) dN rfl rfl ?_;intro bB a w G1 hG HT H fin;refine bL eu (cs:=[_,_,_,_,_]) H wn rfl rfl (H.hp.cO 1 rfl rfl) rfl ?_;clear H;intro a H;exact fin H iJ rfl
  ·refine dX [(1,4,_)] rfl ⟨fun _ _ h=>h,aC⟩ (by kernel_rfl) dN rfl rfl ?_;intro bB a w G1 hG HT H fin;refine s_call FD H wn rfl (Fz _ _ H.ro x.head _ _ _ _ _ _ _ _ _ (hh.mono hG) (by omega)) rfl ?_;clear H;rintro v5 G5 a w qX mK H;exact fin H mK (qX)
  ·refine dX [] rfl trivial (by kernel_rfl) dN rfl rfl ?_;intro bB a w G1 hG HT H fin;exact kH H (Rf vJ rfl fun _ H=>fin H iJ rfl)
  ·refine dX [(3,6,_)] rfl ⟨fun _ _ h=>h,aC⟩ (by kernel_rfl) dN rfl rfl ?_;intro bB a w G1 hG HT H fin;exact kH H (Ro wD 1 rfl fun _ H=>fin H iJ rfl)
  refine dX [(4,7,_)] rfl ⟨fun _ _ h=>h,aC⟩ (by kernel_rfl) dN rfl rfl ?_;intro bB a w G1 hG HT H fin;refine s_call X8 H wn rfl (XT nC _ _ H.ro x.cells _ _ (hf.mono hG) (by omega) (fun y hy=>anL ih hn y (aaV hne.2 y hy) (by have:=adk hy;omega))) rfl ?_;clear H;rintro v8 G8 a w mO pV H;exact fin H pV (mO)
 clear H;intro a w G nu H hv;obtain ⟨u5,F9,qX⟩:=hv 2 5 (by decide) rfl;(try dsimp only at qX);obtain ⟨p5,d5,l5,rfl,sM⟩:=qX;obtain ⟨a1,a2,a3,rfl⟩:=sM.props.form;obtain ⟨a4,a5,a6,rfl⟩:=sM.bE.form;obtain ⟨a7,a8,a9,rfl⟩:=sM.layers.form;have H:=H.jR F9;obtain ⟨u8,Aa,mO⟩:=hv 5 8 (by decide) rfl;(try dsimp only at mO);obtain ⟨A8,n8,c8,rfl⟩:=mO.form;have H:=H.jR Aa;clear hv;refine jm Vd [_,_,_,_,_,_] H wn rfl rfl rfl rfl ?_;clear H;intro a H;refine bD jP 0 (vs:=[_,_,_,_,_,_]) _ H wn rfl rfl rfl rfl rfl rfl rfl rfl ?_;clear H;intro w H;dsimp only [List.set,setRow] at H;refine aD ⟨rfl,?_⟩;refine K2 _ _ ?_;clear K2;refine bW ?_;refine (leave1 H results111 (.cons (nQ jP (cs:=[_,_,_,_,_,_]) H rfl rfl (H.hp.cO 0 rfl rfl)) .nil) ?_).1;exact H.rt ⟨_,rfl,by rw [aaR];exact aU.Og (x:=.mk x.head (x.cells.map nC)) sM (by show av _ (.sl 7 ((x.cells.map nC).map aX.dat)) _;rw [List.map_map];exact mO)⟩
theorem anN {n:Nat} (ih:Fp n) (hn:n≤4294967296) {G:GH} {w0:World} (x:aW) (hne:EG x) (hz:bX x.dat < n+1):Ca (.func (.func 111) #[] #[]) w0 G x.dat (nR x).dat:=by
 intro G1 w1 cs hm1 hG1 hr;have h:=anM ih hn _ _ hG1 x cs hr hne hz;have h2:=jI (P:=prog) (caps:=[]) (args:=[.agg cs.toArray]) agi h;exact h2
theorem joined {G:GH} {o:List ay} {z y:ay} {x0:List aj} {s p d q f r:aj} (hc:bT G 11 (o.map ay.dat) x0) (hl:x0.length=o.length*11) (hh:jd G z.head p d q) (hf:av G (.sl 11 (z.flow.map ay.dat)) f) (hr:av G (.sl 6 (z.rows.map aW.dat)) r) (hs:s=.string (z.text++y.text)) :
  bT G 11 ((o++[qZ z y]).map ay.dat) ((x0++[vi z.kind,vi z.code,vi z.id,.string z.text,p,vi z.head.marks.ins,vi z.head.marks.move,d,q,f,r]).set (((o++[z]).length - 1)*11+3) s):=by
 rw [lY,iI,List.length_singleton,Nat.add_sub_cancel,List.set_append_right _ _ (by omega),hl,Cj];refine hc.snoc ?_ rfl;rw [hs];exact aU.mkItem (x:=qZ z y) hh hf hr
theorem MG {s:ByteArray} {k:Int} {n:Nat} (hk:k=1):(s.toList == (⟨#[]⟩:ByteArray).toList)=true↔(k=7∧n=0)∨(k=1∧s.size=0):=by
 rw [beq_iff_eq,ByteArray.toList_eq,ByteArray.toList_eq]
 constructor
 ·intro h;refine .inr ⟨hk,?_⟩;have:=aB List.length h
  simpa using this
 rintro (⟨h,-⟩|⟨-,h⟩)
 ·omega
 have:s.data.toList.length=0:=by simpa using h
 rw [List.length_eq_zero_iff.1 this]
set_option maxHeartbeats 4000000 in
theorem anO {n:Nat} (ih:Fp n) (hn:n≤1073741824):Fp (n+1):=by
  intro G w0 hG l v hv hne hz;obtain ⟨A,c,rfl,hc1,hc2,hg⟩:=hv.slice
  have hml:4294967297≤maxLen:=by decide
  have htl:lU l≤bK l:=Vk l;have hll:l.length≤lU l:=Oa l;rw [bG] at *;refine eN [(0,_)] func58 rfl ntmps58 rfl rfl hG ?_;intro a H;refine kP H (SR fun _ K1=>ak K1 rfl (SR fun _ K2=>ak K2 rfl (SQ fun _ K3=>SR fun _ K4=>Rm rfl (Rl iF rfl (Rm rfl (Kz K4 (SB ?_)))))));clear H K1 K2 K4;intro a H;skip;refine eU (ι:=Nat × aj × List aj × OL × GH) (Tc:=[(7,_),(8,_)]) (Lc:=[]) (fun gh=>[(3,gh.2.1),(9,vi gh.1)]) (fun gh=>[]++gh.2.2.2.1) (fun gh=>gh.2.2.2.2) (fun gh=>gh.1≤l.length∧bZ 68 11 gh.2.1 (tZ l gh.1).length gh.2.2.1 gh.2.2.2.1∧bT gh.2.2.2.2 11 ((tZ l gh.1).map ay.dat) gh.2.2.1∧(∀ b o,G b=some o→gh.2.2.2.2 b=some o)) (fun gh=>l.length - gh.1) ((0,.slice none 0 0,[],[],G)) (by exact (H).sub ⟨rfl,rfl,rfl,rfl,aC⟩) ?_ ?_
  · exact ⟨by omega,bZ.nil,bT.nil,fun _ _ h=>h⟩
  clear H;rintro ⟨k,v,xs,Lo,g⟩ a w hI H;dsimp only at hI H;obtain ⟨hk,hrw,dP,hgm⟩:=hI;have hol:=aoa hk;obtain ⟨out,hout⟩:∃ o,o=tZ l k:=⟨_,rfl⟩;rw [← hout] at hrw dP hol;dsimp only [lca,bJ] at H;refine kP H (SR fun _ K5=>Rc rfl (Kz K5 (SQ fun _ K6=>Cd rfl ?_ ?_))) <;> clear H K5
  · intro h10 a H
    try have kV:=dT h10
    have hk2:k < l.length:=by omega
    have hos:=abj hk2;have hot:=Ux (l:=l) (k:=k) (by omega);have htt:=Vl l (k+1);rw [iU hk2,GU] at htt
    simp only [lU] at htt
    rw [← hout] at hos hot;obtain ⟨vA,vc,rfl,-,-⟩:=hrw.shape;obtain ⟨b,o,pA,pn,pc,dA,dn,dc,yA,yn,yc,fA,fn,fc,rA,rn,rc,rfl,hrow,hhd,hfl,hrs⟩:=Bh hk2 hg;replace hrow:=fun j u hj=>aJ hgm (hrow j u hj);have hnx:=aaW hne _ (kS hk2);rw [anB] at hnx;obtain ⟨hnf,hnr⟩:=hnx;have hzi:=Pm hk2;have hze:=xJ l[k];have hrl:=Jv l[k].rows
    have alR:∀ r∈l[k].rows.map nR,r.cells≠[]:=fun r hr=>by
      obtain ⟨x,hx,rfl⟩:=List.mem_map.1 hr;have h1:=Ut hnr x hx;rw [aaX] at h1;rw [aaR];exact fun e=>h1.1 (List.map_eq_nil_iff.1 e)
    refine kP H (Kc K6 (SQ fun _ K7=>SB (SR fun _ K8=>Ri iF fG rfl rfl ?_)));clear H K6;intro a H;refine bL fG (cs:=[_,_,_,_,_,_,_,_,_,_,_]) H wn rfl rfl (fun j v hj=>H.hp.aI (hrow j v hj)) rfl ?_;clear H;intro a H;refine dS fG H wn rfl ?_;clear H;intro b5 a w hb5 H;refine bD fG 0 (vs:=[_,_,_,_,_,_,_,_,_,_,_]) _ H wn rfl rfl rfl rfl rfl rfl rfl rfl ?_;clear H;intro w H;dsimp only [List.set,setRow] at H;refine K8 _ _ ?_;clear K8;refine kP H (SR fun _ K9=>Rf vI rfl ?_);clear H;intro a H;refine bL eu (cs:=[_,_,_,_,_]) H wn rfl rfl (H.hp.cO 0 rfl rfl) rfl ?_;clear H;intro a H;refine s_call FD H wn rfl (Fz _ _ H.ro _ _ _ _ _ _ _ _ _ _ (hhd.mono hgm) (by omega)) rfl ?_;clear H;rintro v15 EY a w ⟨qd,d15,l15,rfl,Iy⟩ CV H;obtain ⟨a1,a2,a3,rfl⟩:=Iy.props.form;obtain ⟨a4,a5,a6,rfl⟩:=Iy.bE.form;obtain ⟨a7,a8,a9,rfl⟩:=Iy.layers.form;refine kH H (Rf vI rfl ?_);clear H;intro a H;refine bD eu 0 (vs:=[_,_,_,_,_]) _ H wn rfl rfl rfl rfl rfl rfl rfl rfl ?_;clear H;intro w H;dsimp only [List.set,setRow] at H;refine K9 _ _ ?_;clear K9;refine kP H (SR fun _ aR=>aY zK jc 0 rfl rfl ?_);clear H;intro a H;refine s_call QX H wn rfl (ih _ _ H.ro l[k].flow _ (hfl.mono fun b o h=>CV b o (hgm b o h)) hnf (by omega)) rfl ?_;clear H;rintro v19 Hl a w KJ rW H;obtain ⟨He,n19,c19,rfl⟩:=KJ.form;refine kH H (Rf zK rfl ?_);clear H;intro a H;refine bD jc 0 (vs:=[_]) _ H wn rfl rfl rfl rfl rfl rfl rfl rfl ?_;clear H;intro w H;dsimp only [List.set,setRow] at H;refine aR _ _ ?_;clear aR;refine kP H (SR fun _ bQ=>aY qP rF 0 rfl rfl ?_);clear H;intro a H;refine s_call XW H wn rfl (XU nR _ _ H.ro l[k].rows _ _ (hrs.mono fun b o h=>rW b o (CV b o (hgm b o h))) (by omega) (fun x hx=>anN ih (by omega) x (Ut hnr x hx) (by have:=adq hx;omega))) rfl ?_;clear H;rintro v23 VQ a w Tq Eo H;rw [show (l[k].rows.map fun x=>(nR x).dat)=(l[k].rows.map nR).map aW.dat by rw [List.map_map];rfl] at Tq;obtain ⟨A23,n23,c23,rfl⟩:=Tq.form;refine s_call agh H wn rfl (afM _ _ H.ro (l[k].rows.map nR) _ Tq alR) rfl ?_;clear H;rintro v24 DN a w Tt F3 H;obtain ⟨Py,n24,c24,rfl⟩:=Tt.form;have ZL:=Tt.len;rw [bG,bG] at ZL;subst ZL;refine kH H (Rf qP rfl ?_);clear H;intro a H;refine bD rF 0 (vs:=[_]) _ H wn rfl rfl rfl rfl rfl rfl rfl rfl ?_;clear H;intro w H;dsimp only [List.set,setRow] at H;refine bQ _ _ ?_;clear bQ;refine bN (fun _ bY=>?_);obtain ⟨y,hy⟩:∃ y,y=nI l[k]:=⟨_,rfl⟩;have hye:=hy.trans (aaQ l[k])
    have hyk:y.kind=l[k].kind:=by rw [hye];rfl
    have KV:y.text=l[k].text:=by rw [hye];rfl
    have IV:y.head=l[k].head:=by rw [hye];rfl
    have NZ:y.rows.length=l[k].rows.length:=by rw [hye];simp [ay.rows]
    rw [← hy] at hos;obtain ⟨QA,Nv⟩:∃ x,x=[vi l[k].kind,vi l[k].code,vi l[k].id,.string l[k].text,.slice a1 a2 a3,vi l[k].head.marks.ins,vi l[k].head.marks.move,.slice a4 a5 a6,.slice a7 a8 a9,.slice He n19 c19,.slice Py l[k].rows.length c24]:=⟨_,rfl⟩
    have Z5:aU DN y.dat QA:=by
      rw [Nv,hye];exact aU.mkItem (x:=.mk l[k].kind l[k].code l[k].id l[k].text l[k].head (og l[k].flow) (l[k].rows.map nR)) (Iy.mono fun b o h=>F3 b o (Eo b o (rW b o h))) (KJ.mono fun b o h=>F3 b o (Eo b o h)) Tt
    have Nt:=dP.mono fun b o h=>F3 b o (Eo b o (rW b o (CV b o h)));have Zw:∀ b o,G b=some o→DN b=some o:=fun b o h=>F3 b o (Eo b o (rW b o (CV b o (hgm b o h))));refine kP H (SC (Rm rfl (Rl iF rfl (bq bY rfl (SB ?_)))));clear H bY;intro a H;refine sW (ι:=Bool) (Tc:=[(3,_),(5,_),(6,_),(7,_),(8,_),(9,_)]) (Lc:=[]) (fun gh=>[(32,.bool gh)]) (fun gh=>[(b5,.cells [vi l[k].kind,vi l[k].code,vi l[k].id,.string l[k].text,.slice a1 a2 a3,vi l[k].head.marks.ins,vi l[k].head.marks.move,.slice a4 a5 a6,.slice a7 a8 a9,.slice He n19 c19,.slice Py l[k].rows.length c24].toArray 68 (0,0))]++Lo) (fun gh=>DN) (fun gh=>gh=true↔vD y) (by exact (H).sub ⟨rfl,rfl,rfl,rfl,rfl,rfl,aC⟩) ?_ ?_
    · skip;refine kP H (SC (aY jZ aH 0 rfl rfl (Rc rfl (Rm rfl (Sp 36 rfl ?_ ?_))))) <;> clear H
      · intro vP a H
        try have p36:=dT vP
        refine kH H (YF qP vP rfl (YO rF 0 vP rfl (YL mX vP rfl (YC vP rfl (Pt vP rfl (Rm rfl (Sp 42 rfl ?_ ?_))))))) <;> clear H
        · intro jw a H
          try have p42:=dT jw
          refine kH H (aQ jw rfl (aQ jw rfl (Ku rfl (Ku rfl (Ku rfl (Ks jw rfl (Pt jw rfl (Ra rfl ?_))))))));clear H;intro a H;refine aD ?_;refine ⟨_,by exact (H).sub ⟨rfl,rfl,rfl,rfl,rfl,rfl,rfl,aC⟩,?_⟩;rw [vD,hyk,NZ,KV]
          first
            | exact ⟨fun _=>.inl ⟨p36,by omega⟩,fun _=>by first|rfl|exact jM p42⟩
            | exact ⟨fun h=>(by cases h),fun h=>(by exfalso;omega)⟩
            | exact MG p46
            | fail
        intro jw a H
        try have p42:=dF jw
        refine kH H (YF jZ jw rfl (YO aH 0 jw rfl (YC jw rfl (YM jw rfl (Sp 46 rfl ?_ ?_))))) <;> clear H
        · intro h46 a H
          try have p46:=dT h46
          exfalso;omega
        intro h46 a H
        try have p46:=dF h46
        refine kH H (bF h46 rfl (PF jw h46 rfl (Pf jw rfl (Ra rfl ?_))));clear H;intro a H;refine aD ?_;refine ⟨_,by exact (H).sub ⟨rfl,rfl,rfl,rfl,rfl,rfl,rfl,aC⟩,?_⟩;rw [vD,hyk,NZ,KV]
        first
          | exact ⟨fun _=>.inl ⟨p36,by omega⟩,fun _=>by first|rfl|exact jM p42⟩
          | exact ⟨fun h=>(by cases h),fun h=>(by exfalso;omega)⟩
          | exact MG p46
          | fail
      intro vP a H
      try have p36:=dF vP
      refine kH H (aQ vP rfl (aQ vP rfl (Pf vP rfl (Rm rfl ?_))));clear H;intro a H;refine Je jZ H (wg H rfl rfl rfl) rfl rfl ?_;clear H;intro a H;refine rC aH H (wg H rfl rfl rfl) rfl (H.hp.oW 0 rfl rfl) rfl ?_;clear H;intro a H;refine Jd H (wg H rfl rfl rfl) rfl rfl rfl rfl ?_;clear H;intro a H;refine Jf H (wg H rfl rfl rfl) rfl rfl ?_;clear H;intro a H;refine U4 H 46 rfl ?_ ?_
      · intro h46
        try have p46:=dT h46
        refine kH H (YF vH h46 rfl (YO iN 0 h46 rfl ?_));clear H;intro a H;refine EJ H (wg H rfl rfl h46) rfl rfl rfl ?_;clear H;intro a H;refine Ll H (wg H rfl rfl rfl) rfl h46 rfl rfl ?_;clear H;intro a H;refine kH H (Pf rfl rfl (Ra rfl ?_));clear H;intro a H;refine aD ?_;refine ⟨_,by exact (H).sub ⟨rfl,rfl,rfl,rfl,rfl,rfl,rfl,aC⟩,?_⟩;rw [vD,hyk,NZ,KV]
        first
          | exact ⟨fun _=>.inl ⟨p36,by omega⟩,fun _=>by first|rfl|exact jM p42⟩
          | exact ⟨fun h=>(by cases h),fun h=>(by exfalso;omega)⟩
          | exact MG p46
          | fail
      intro h46
      try have p46:=dF h46
      refine kH H (bF h46 rfl ?_);clear H;intro a H;refine OQ H (wg H rfl rfl rfl) rfl h46 rfl rfl ?_;clear H;intro a H;refine kH H (Pf rfl rfl (Ra rfl ?_));clear H;intro a H;refine aD ?_;refine ⟨_,by exact (H).sub ⟨rfl,rfl,rfl,rfl,rfl,rfl,rfl,aC⟩,?_⟩;rw [vD,hyk,NZ,KV]
      first
        | exact ⟨fun _=>.inl ⟨p36,by omega⟩,fun _=>by first|rfl|exact jM p42⟩
        | exact ⟨fun h=>(by cases h),fun h=>(by exfalso;omega)⟩
        | exact MG p46
        | fail
    clear H;intro db a w hI H;skip;dsimp only [lca,bJ] at H;refine jD H rfl ?_ ?_
    · intro h32
      try have p32:=dT h32
      have hdp:=hI.1 (by assumption);rw [Qe hdp] at hos;refine kP H (Kc K7 (SC (Rd rfl (Rm rfl ?_))));clear H K7;intro a H;refine aD ?_;refine dD ((k+1,_,xs,Lo,_)) (by exact (H.dY (Pl:=[_]) (dK:=[]) [] (by decide) rfl).sub ⟨rfl,rfl,rfl,rfl,aC⟩) ?_
      (try dsimp only);exact ⟨by omega,by rw [hos];exact hrw,by rw [hos];exact Nt,Zw⟩
    intro h32
    try have p32:=dF h32
    have hnd:¬ vD y:=fun h=>by have:=hI.2 h;simp_all
    obtain ⟨bo,pk,pt,pp,pd,pl,xg⟩:∃ (bo:Nat) (pk:dM × Int) (pt:ByteArray) (pp pd pl:aj),0 < (out.length:Int)→∃ (o:List ay) (z:ay) (x0:List aj) (f r:aj),out=o++[z]∧vA=some ⟨bo,0,none⟩∧pk=(z.head,z.kind)∧pt=z.text ∧
        xs=x0++[vi z.kind,vi z.code,vi z.id,.string z.text,pp,vi z.head.marks.ins,vi z.head.marks.move,pd,pl,f,r]∧x0.length=o.length*11∧bT DN 11 (o.map ay.dat) x0∧jd DN z.head pp pd pl∧av DN (.sl 11 (z.flow.map ay.dat)) f∧av DN (.sl 6 (z.rows.map aW.dat)) r ∧
        ∀ j u,[vi pk.2,vi z.code,vi z.id,.string pt,pp,vi pk.1.marks.ins,vi pk.1.marks.move,pd,pl][j]?=some u→xs[(out.length - 1)*11+j]?=some u:=by
      by_cases h0:0 < out.length
      · obtain ⟨bo,hbo⟩:=hrw.ptr h0;obtain ⟨o,z,e⟩:∃ o z,out=o++[z]:=⟨_,_,(List.dropLast_concat_getLast (fun e=>by rw [e] at h0;simp at h0)).symm⟩;rw [e,lY] at Nt;obtain ⟨x0,cs,hxs,hc0,hrz,hcl,hxl⟩:=Nt.aqL;obtain ⟨qA,qn,qc,sA,sn,sc,tA,tn,tc,fA2,fn2,fc2,rA2,rn2,rc2,rfl,hh,hf2,hr2⟩:=hrz.item;rw [bG] at hxl;refine ⟨bo,(z.head,z.kind),z.text,.slice qA qn qc,.slice sA sn sc,.slice tA tn tc,fun _=>⟨o,z,x0,_,_,e,hbo,rfl,rfl,hxs,hxl,hc0,hh,hf2,hr2,fun j u hj=>?_⟩⟩;rw [hxs,e,iI,List.length_singleton,Nat.add_sub_cancel,sV (by omega),hxl,Cj];rw [← hj]
        match j,hj with
        | 0,hj=>rfl
        | 1,hj=>rfl
        | 2,hj=>rfl
        | 3,hj=>rfl
        | 4,hj=>rfl
        | 5,hj=>rfl
        | 6,hj=>rfl
        | 7,hj=>rfl
        | 8,hj=>rfl
        | _+9,hj=>simp at hj
      exact ⟨0,(⟨[],⟨0,0,[],[]⟩⟩,0),⟨#[]⟩,.slice none 0 0,.slice none 0 0,.slice none 0 0,fun h=>by omega⟩
    have KU:0 < (out.length:Int)→vA=some ⟨bo,0,none⟩:=fun h=>by obtain ⟨_,_,_,_,_,_,e,_⟩:=xg h;exact e
    refine sW (ι:=Bool × GH) (Tc:=[(3,_),(5,_),(6,_),(7,_),(8,_),(9,_)]) (Lc:=[]) (fun gh=>[(52,.bool gh.1)]) (fun gh=>[(b5,.cells [vi l[k].kind,vi l[k].code,vi l[k].id,.string l[k].text,.slice a1 a2 a3,vi l[k].head.marks.ins,vi l[k].head.marks.move,.slice a4 a5 a6,.slice a7 a8 a9,.slice He n19 c19,.slice Py l[k].rows.length c24].toArray 68 (0,0))]++Lo) (fun gh=>gh.2) (fun gh=>(gh.1=true→(l[k].kind=1∧0 < (out.length:Int)∧pk.2=1∧pk.1=l[k].head))∧(gh.1=false→tZ l (k+1)=out++[y])∧(∀ b o,DN b=some o→gh.2 b=some o)) (by exact (H).sub ⟨rfl,rfl,rfl,rfl,rfl,rfl,aC⟩) ?_ ?_
    · skip
      by_cases c1:l[k].kind=1
      · skip
        by_cases c2:0 < (out.length:Int)
        · skip
          by_cases c3:pk.2=1
          · skip
            by_cases c4:pk.1=l[k].head
            · skip;refine dI hmx [[],[0],[0,1],[0,1,2],(ra 0 4),(ra 0 5),(ra 0 6),(ra 0 7),(ra 0 8),(ra 0 8),(ra 0 8++[9]),(ra 0 11),(ra 0 12),(ra 0 13),(ra 0 14),(ra 0 15),(ra 0 16),(ra 0 17),(ra 0 17),(ra 0 17++[18]),(ra 0 20),(ra 0 21),(ra 0 22),(ra 0 17),(ra 0 17++[23]),(ra 0 25),(ra 0 26),(ra 0 27)] [] (by kernel_rfl) [_,vi l[k].kind,_,_,_,_,_,_,.slice (some ⟨bo,0,none⟩) out.length vc,_,vi ((out.length - 1:Nat):Int),_,_,vi pk.2,_,_,_,.slice (some ⟨bo,0,none⟩) out.length vc,_,vi ((out.length - 1:Nat):Int),_,_,qV pk.1 pp pd pl,_,qV l[k].head (.slice a1 a2 a3) (.slice a4 a5 a6) (.slice a7 a8 a9),.bool (decide (pk.1=l[k].head)),_,_] H (aF (Z0 rfl (Rf jZ rfl)) (Z1 0 53 rfl (Ro aH 0 rfl)) (Z1 1 54 rfl (Rc rfl)) (Z1 2 55 rfl (Rm rfl)) (aF (Z1 3 56 rfl (YM (aG c1) rfl)) (Z2 4 57 3 56 rfl (YC (aG c1) rfl)) (Z2 3 56 5 58 rfl (Pt (aG c1) rfl)) (Z1 6 59 rfl (Rm rfl)) (aF ?_ (Z1 7 60 rfl (YM (aG c2) rfl)) ?_ (Z3 8 61 10 63 7 60 rfl (YI iF fG (aG c2) rfl rfl)) (aF (Z2 11 64 7 60 rfl (YF jZ (aG c2) rfl)) ?_ (Z2 13 66 7 60 rfl (YC (aG c2) rfl)) (Z2 7 60 14 67 rfl (Pt (aG c2) rfl)) (aF (Z1 15 68 rfl (Rm rfl)) ?_ (Z1 16 69 rfl (YM (aG c3) rfl)) ?_ (aF (Z3 17 70 19 72 16 69 rfl (YI iF fG (aG c3) rfl rfl)) (Z2 20 73 16 69 rfl (YF vI (aG c3) rfl)) ?_ (Z1 16 69 rfl (YF vI (aG c3) rfl)) (aF ?_ ?_ (Z2 16 69 25 78 rfl (Pt (aG c3) rfl)) (Z1 26 79 rfl (Ra rfl)) dz))))))) ?_
              · refine fq 7 60 rfl rfl fun _ a w G1 hG HT H fin=>?_;refine kH H (YM (aG c2) rfl ?_);clear H;intro a H;exact fin H iJ (by show _=_;first|rfl|exact aB (fun A=>Value.slice A out.length vc) (KU c2))
              · refine dJ 9 62 7 60 rfl rfl fun _ a w G1 hG HT H fin=>?_;refine nS _ H (wg H rfl rfl (aG c2)) rfl rfl rfl (by omega) (by omega) rfl ?_;clear H;intro a H;exact fin H iJ (by show _=_;first|rfl|exact aB vi (by omega))
              · refine dJ 12 65 7 60 rfl rfl fun _ a w G1 hG HT H fin=>?_;obtain ⟨_,_,_,_,_,_,rfl,_,_,_,_,_,_,_,_,hx⟩:=xg c2;refine rC aH H (wg H rfl rfl (aG c2)) rfl (hrw.at H.hp (fun x hx=>iQ _ hx) (by rw [gI];exact hx 0 _ rfl)) rfl ?_;clear H;intro a H;exact fin H iJ rfl
              · refine fq 16 69 rfl rfl fun _ a w G1 hG HT H fin=>?_;refine kH H (YM (aG c3) rfl ?_);clear H;intro a H;exact fin H iJ (by show _=_;first|rfl|exact aB (fun A=>Value.slice A out.length vc) (KU c2))
              · refine dJ 18 71 16 69 rfl rfl fun _ a w G1 hG HT H fin=>?_;refine nS _ H (wg H rfl rfl (aG c3)) rfl rfl rfl (by omega) (by omega) rfl ?_;clear H;intro a H;exact fin H iJ (by show _=_;first|rfl|exact aB vi (by omega))
              · refine dJ 21 74 16 69 rfl rfl fun _ a w G1 hG HT H fin=>?_;obtain ⟨_,_,_,_,_,_,rfl,_,_,_,_,_,_,_,_,hx⟩:=xg c2
                refine bL eu (cs:=[pp,vi pk.1.marks.ins,vi pk.1.marks.move,pd,pl]) H (wg H rfl rfl (aG c3)) rfl rfl (fun j u hj=>hrw.at H.hp (fun x hx=>iQ _ hx) (by
                    rw [gI,Nat.add_assoc];refine hx (4+j) u ?_
                    match j,hj with
                    | 0,hj=>exact hj
                    | 1,hj=>exact hj
                    | 2,hj=>exact hj
                    | 3,hj=>exact hj
                    | 4,hj=>exact hj)) rfl ?_;clear H;intro a H
                exact fin H iJ rfl
              · refine dJ 23 76 16 69 rfl rfl fun _ a w G1 hG HT H fin=>?_;refine bL eu (cs:=[_,_,_,_,_]) H (wg H rfl rfl (aG c3)) rfl rfl (H.hp.cO 0 rfl rfl) rfl ?_;clear H;intro a H;exact fin H iJ rfl
              · refine yN 22 75 24 77 16 69 rfl rfl fun _ a w G1 hG HT H fin=>?_;refine s_call Yn H (wg H rfl rfl (aG c3)) rfl (Yt _ _ H.ro pk.1 l[k].head _ _ _ _ _ _ (by obtain ⟨_,_,_,_,_,_,_,e,_,_,_,_,hh,_⟩:=xg c2;rw [e];exact hh.mono hG) (Iy.mono fun b o h=>hG b o (F3 b o (Eo b o (rW b o h))))) rfl ?_;clear H;rintro v78 G78 a w rfl Sk H;exact fin H Sk (rfl)
              clear H;intro a w G lQ H hv;have H:=H.aM (hv 27 52 rfl rfl) rfl;clear hv;refine aD ⟨rfl,?_⟩;refine ⟨(_,_),by exact (H).sub ⟨rfl,rfl,rfl,rfl,rfl,rfl,rfl,aC⟩,?_⟩;(try dsimp only);refine ⟨fun h=>by first|exact absurd h (by decide)|exact ⟨c1,c2,c3,nK h⟩,fun h=>?_,lQ⟩
              first
                | exact absurd ((aG c4).symm.trans h) (by decide)
                | (rw [hos]
                   refine D6 hnd fun o2 z2 e2 hj=>?_;rw [tV,hyk,IV] at hj;obtain ⟨j1,j2,j3⟩:=hj
                   first
                     | exact c1 j1
                     | (have c2':0 < (out.length:Int):=by rw [e2,iI,List.length_singleton];omega
                        obtain ⟨o,z,_,_,_,e,_,wR,_⟩:=xg c2';obtain ⟨-,ez⟩:=List.append_inj' (e2.symm.trans e) rfl
                        injection ez with ez
                        subst ez
                        first
                          | exact c2 c2'
                          | exact c3 (by rw [wR];exact j2)
                          | exact c4 (by rw [wR];exact j3)))
            skip;refine dI hmx [[],[0],[0,1],[0,1,2],(ra 0 4),(ra 0 5),(ra 0 6),(ra 0 7),(ra 0 8),(ra 0 8),(ra 0 8++[9]),(ra 0 11),(ra 0 12),(ra 0 13),(ra 0 14),(ra 0 15),(ra 0 16),(ra 0 17),(ra 0 17),(ra 0 17++[18]),(ra 0 20),(ra 0 21),(ra 0 22),(ra 0 17),(ra 0 17++[23]),(ra 0 25),(ra 0 26),(ra 0 27)] [] (by kernel_rfl) [_,vi l[k].kind,_,_,_,_,_,_,.slice (some ⟨bo,0,none⟩) out.length vc,_,vi ((out.length - 1:Nat):Int),_,_,vi pk.2,_,_,_,.slice (some ⟨bo,0,none⟩) out.length vc,_,vi ((out.length - 1:Nat):Int),_,_,qV pk.1 pp pd pl,_,qV l[k].head (.slice a1 a2 a3) (.slice a4 a5 a6) (.slice a7 a8 a9),.bool (decide (pk.1=l[k].head)),_,_] H (aF (Z0 rfl (Rf jZ rfl)) (Z1 0 53 rfl (Ro aH 0 rfl)) (Z1 1 54 rfl (Rc rfl)) (Z1 2 55 rfl (Rm rfl)) (aF (Z1 3 56 rfl (YM (aG c1) rfl)) (Z2 4 57 3 56 rfl (YC (aG c1) rfl)) (Z2 3 56 5 58 rfl (Pt (aG c1) rfl)) (Z1 6 59 rfl (Rm rfl)) (aF ?_ (Z1 7 60 rfl (YM (aG c2) rfl)) ?_ (Z3 8 61 10 63 7 60 rfl (YI iF fG (aG c2) rfl rfl)) (aF (Z2 11 64 7 60 rfl (YF jZ (aG c2) rfl)) ?_ (Z2 13 66 7 60 rfl (YC (aG c2) rfl)) (Z2 7 60 14 67 rfl (Pt (aG c2) rfl)) (aF (Z1 15 68 rfl (Rm rfl)) ?_ (Z1 16 69 rfl (YM (aG c3) rfl)) ?_ (aF (Z3 17 70 19 72 16 69 rfl (YI iF fG (aG c3) rfl rfl)) (Z2 20 73 16 69 rfl (YF vI (aG c3) rfl)) ?_ (Z1 16 69 rfl (YF vI (aG c3) rfl)) (aF ?_ ?_ (Z2 16 69 25 78 rfl (Pt (aG c3) rfl)) (Z1 26 79 rfl (Ra rfl)) dz))))))) ?_
            · refine fq 7 60 rfl rfl fun _ a w G1 hG HT H fin=>?_;refine kH H (YM (aG c2) rfl ?_);clear H;intro a H;exact fin H iJ (by show _=_;first|rfl|exact aB (fun A=>Value.slice A out.length vc) (KU c2))
            · refine dJ 9 62 7 60 rfl rfl fun _ a w G1 hG HT H fin=>?_;refine nS _ H (wg H rfl rfl (aG c2)) rfl rfl rfl (by omega) (by omega) rfl ?_;clear H;intro a H;exact fin H iJ (by show _=_;first|rfl|exact aB vi (by omega))
            · refine dJ 12 65 7 60 rfl rfl fun _ a w G1 hG HT H fin=>?_;obtain ⟨_,_,_,_,_,_,rfl,_,_,_,_,_,_,_,_,hx⟩:=xg c2;refine rC aH H (wg H rfl rfl (aG c2)) rfl (hrw.at H.hp (fun x hx=>iQ _ hx) (by rw [gI];exact hx 0 _ rfl)) rfl ?_;clear H;intro a H;exact fin H iJ rfl
            · refine fq 16 69 rfl rfl fun _ a w G1 hG HT H fin=>?_;refine kH H (YM (aG c3) rfl ?_);clear H;intro a H;exact fin H iJ (by show _=_;first|rfl|exact aB (fun A=>Value.slice A out.length vc) (KU c2))
            · refine dJ 18 71 16 69 rfl rfl fun _ a w G1 hG HT H fin=>?_;refine nS _ H (wg H rfl rfl (aG c3)) rfl rfl rfl (by omega) (by omega) rfl ?_;clear H;intro a H;exact fin H iJ (by show _=_;first|rfl|exact aB vi (by omega))
            · refine dJ 21 74 16 69 rfl rfl fun _ a w G1 hG HT H fin=>?_;obtain ⟨_,_,_,_,_,_,rfl,_,_,_,_,_,_,_,_,hx⟩:=xg c2
              refine bL eu (cs:=[pp,vi pk.1.marks.ins,vi pk.1.marks.move,pd,pl]) H (wg H rfl rfl (aG c3)) rfl rfl (fun j u hj=>hrw.at H.hp (fun x hx=>iQ _ hx) (by
                  rw [gI,Nat.add_assoc];refine hx (4+j) u ?_
                  match j,hj with
                  | 0,hj=>exact hj
                  | 1,hj=>exact hj
                  | 2,hj=>exact hj
                  | 3,hj=>exact hj
                  | 4,hj=>exact hj)) rfl ?_;clear H;intro a H
              exact fin H iJ rfl
            · refine dJ 23 76 16 69 rfl rfl fun _ a w G1 hG HT H fin=>?_;refine bL eu (cs:=[_,_,_,_,_]) H (wg H rfl rfl (aG c3)) rfl rfl (H.hp.cO 0 rfl rfl) rfl ?_;clear H;intro a H;exact fin H iJ rfl
            · refine yN 22 75 24 77 16 69 rfl rfl fun _ a w G1 hG HT H fin=>?_;refine s_call Yn H (wg H rfl rfl (aG c3)) rfl (Yt _ _ H.ro pk.1 l[k].head _ _ _ _ _ _ (by obtain ⟨_,_,_,_,_,_,_,e,_,_,_,_,hh,_⟩:=xg c2;rw [e];exact hh.mono hG) (Iy.mono fun b o h=>hG b o (F3 b o (Eo b o (rW b o h))))) rfl ?_;clear H;rintro v78 G78 a w rfl Sk H;exact fin H Sk (rfl)
            clear H;intro a w G lQ H hv;have H:=H.aM (hv 27 52 rfl rfl) rfl;clear hv;refine aD ⟨rfl,?_⟩;refine ⟨(_,_),by exact (H).sub ⟨rfl,rfl,rfl,rfl,rfl,rfl,rfl,aC⟩,?_⟩;(try dsimp only);refine ⟨fun h=>by first|exact absurd h (by decide)|exact ⟨c1,c2,c3,nK h⟩,fun h=>?_,lQ⟩
            first
              | exact absurd ((aG c4).symm.trans h) (by decide)
              | (rw [hos]
                 refine D6 hnd fun o2 z2 e2 hj=>?_;rw [tV,hyk,IV] at hj;obtain ⟨j1,j2,j3⟩:=hj
                 first
                   | exact c1 j1
                   | (have c2':0 < (out.length:Int):=by rw [e2,iI,List.length_singleton];omega
                      obtain ⟨o,z,_,_,_,e,_,wR,_⟩:=xg c2';obtain ⟨-,ez⟩:=List.append_inj' (e2.symm.trans e) rfl
                      injection ez with ez
                      subst ez
                      first
                        | exact c2 c2'
                        | exact c3 (by rw [wR];exact j2)
                        | exact c4 (by rw [wR];exact j3)))
          skip;refine dI hmx [[],[0],[0,1],[0,1,2],(ra 0 4),(ra 0 5),(ra 0 6),(ra 0 7),(ra 0 8),(ra 0 8),(ra 0 8++[9]),(ra 0 11),(ra 0 12),(ra 0 13),(ra 0 14),(ra 0 15),(ra 0 16),(ra 0 17),(ra 0 17),(ra 0 17++[18]),(ra 0 20),(ra 0 21),(ra 0 22),(ra 0 17),(ra 0 17++[23]),(ra 0 25),(ra 0 26),(ra 0 27)] [] (by kernel_rfl) [_,vi l[k].kind,_,_,_,_,_,_,.slice (some ⟨bo,0,none⟩) out.length vc,_,vi ((out.length - 1:Nat):Int),_,_,vi pk.2,_,_,_,undef,undef,undef,undef,undef,undef,undef,undef,undef,_,_] H (aF (Z0 rfl (Rf jZ rfl)) (Z1 0 53 rfl (Ro aH 0 rfl)) (Z1 1 54 rfl (Rc rfl)) (Z1 2 55 rfl (Rm rfl)) (aF (Z1 3 56 rfl (YM (aG c1) rfl)) (Z2 4 57 3 56 rfl (YC (aG c1) rfl)) (Z2 3 56 5 58 rfl (Pt (aG c1) rfl)) (Z1 6 59 rfl (Rm rfl)) (aF ?_ (Z1 7 60 rfl (YM (aG c2) rfl)) ?_ (Z3 8 61 10 63 7 60 rfl (YI iF fG (aG c2) rfl rfl)) (aF (Z2 11 64 7 60 rfl (YF jZ (aG c2) rfl)) ?_ (Z2 13 66 7 60 rfl (YC (aG c2) rfl)) (Z2 7 60 14 67 rfl (Pt (aG c2) rfl)) (aF (Z1 15 68 rfl (Rm rfl)) (aV 16 (aS c3) rfl rfl) (aV 16 (aS c3) rfl rfl) (aV 16 (aS c3) rfl rfl) (aF (aV 16 (aS c3) rfl rfl) (aV 16 (aS c3) rfl rfl) (aV 16 (aS c3) rfl rfl) (aV 16 (aS c3) rfl rfl) (aF (aV 16 (aS c3) rfl rfl) (aV 16 (aS c3) rfl rfl) (Z2 16 69 25 78 rfl (Pf (aS c3) rfl)) (Z1 26 79 rfl (Ra rfl)) dz))))))) ?_
          · refine fq 7 60 rfl rfl fun _ a w G1 hG HT H fin=>?_;refine kH H (YM (aG c2) rfl ?_);clear H;intro a H;exact fin H iJ (by show _=_;first|rfl|exact aB (fun A=>Value.slice A out.length vc) (KU c2))
          · refine dJ 9 62 7 60 rfl rfl fun _ a w G1 hG HT H fin=>?_;refine nS _ H (wg H rfl rfl (aG c2)) rfl rfl rfl (by omega) (by omega) rfl ?_;clear H;intro a H;exact fin H iJ (by show _=_;first|rfl|exact aB vi (by omega))
          · refine dJ 12 65 7 60 rfl rfl fun _ a w G1 hG HT H fin=>?_;obtain ⟨_,_,_,_,_,_,rfl,_,_,_,_,_,_,_,_,hx⟩:=xg c2;refine rC aH H (wg H rfl rfl (aG c2)) rfl (hrw.at H.hp (fun x hx=>iQ _ hx) (by rw [gI];exact hx 0 _ rfl)) rfl ?_;clear H;intro a H;exact fin H iJ rfl
          clear H;intro a w G lQ H hv;have H:=H.aM (hv 27 52 rfl rfl) rfl;clear hv;refine aD ⟨rfl,?_⟩;refine ⟨(_,_),by exact (H).sub ⟨rfl,rfl,rfl,rfl,rfl,rfl,rfl,aC⟩,?_⟩;(try dsimp only);refine ⟨fun h=>by first|exact absurd h (by decide)|exact ⟨c1,c2,c3,nK h⟩,fun h=>?_,lQ⟩
          first
            | exact absurd ((aG c4).symm.trans h) (by decide)
            | (rw [hos]
               refine D6 hnd fun o2 z2 e2 hj=>?_;rw [tV,hyk,IV] at hj;obtain ⟨j1,j2,j3⟩:=hj
               first
                 | exact c1 j1
                 | (have c2':0 < (out.length:Int):=by rw [e2,iI,List.length_singleton];omega
                    obtain ⟨o,z,_,_,_,e,_,wR,_⟩:=xg c2';obtain ⟨-,ez⟩:=List.append_inj' (e2.symm.trans e) rfl
                    injection ez with ez
                    subst ez
                    first
                      | exact c2 c2'
                      | exact c3 (by rw [wR];exact j2)
                      | exact c4 (by rw [wR];exact j3)))
        skip;refine dI hmx [[],[0],[0,1],[0,1,2],(ra 0 4),(ra 0 5),(ra 0 6),(ra 0 7),(ra 0 8),(ra 0 8),(ra 0 8++[9]),(ra 0 11),(ra 0 12),(ra 0 13),(ra 0 14),(ra 0 15),(ra 0 16),(ra 0 17),(ra 0 17),(ra 0 17++[18]),(ra 0 20),(ra 0 21),(ra 0 22),(ra 0 17),(ra 0 17++[23]),(ra 0 25),(ra 0 26),(ra 0 27)] [] (by kernel_rfl) [_,vi l[k].kind,_,_,_,_,_,_,undef,undef,undef,undef,undef,undef,undef,_,_,undef,undef,undef,undef,undef,undef,undef,undef,undef,_,_] H (aF (Z0 rfl (Rf jZ rfl)) (Z1 0 53 rfl (Ro aH 0 rfl)) (Z1 1 54 rfl (Rc rfl)) (Z1 2 55 rfl (Rm rfl)) (aF (Z1 3 56 rfl (YM (aG c1) rfl)) (Z2 4 57 3 56 rfl (YC (aG c1) rfl)) (Z2 3 56 5 58 rfl (Pt (aG c1) rfl)) (Z1 6 59 rfl (Rm rfl)) (aF (aV 7 (aS c2) rfl rfl) (aV 7 (aS c2) rfl rfl) (aV 7 (aS c2) rfl rfl) (aV 7 (aS c2) rfl rfl) (aF (aV 7 (aS c2) rfl rfl) (aV 7 (aS c2) rfl rfl) (aV 7 (aS c2) rfl rfl) (Z2 7 60 14 67 rfl (Pf (aS c2) rfl)) (aF (Z1 15 68 rfl (Rm rfl)) (aV 16 rfl rfl rfl) (aV 16 rfl rfl rfl) (aV 16 rfl rfl rfl) (aF (aV 16 rfl rfl rfl) (aV 16 rfl rfl rfl) (aV 16 rfl rfl rfl) (aV 16 rfl rfl rfl) (aF (aV 16 rfl rfl rfl) (aV 16 rfl rfl rfl) (Z2 16 69 25 78 rfl (Pf rfl rfl)) (Z1 26 79 rfl (Ra rfl)) dz))))))) ?_
        clear H;intro a w G lQ H hv;have H:=H.aM (hv 27 52 rfl rfl) rfl;clear hv;refine aD ⟨rfl,?_⟩;refine ⟨(_,_),by exact (H).sub ⟨rfl,rfl,rfl,rfl,rfl,rfl,rfl,aC⟩,?_⟩;(try dsimp only);refine ⟨fun h=>by first|exact absurd h (by decide)|exact ⟨c1,c2,c3,nK h⟩,fun h=>?_,lQ⟩
        first
          | exact absurd ((aG c4).symm.trans h) (by decide)
          | (rw [hos]
             refine D6 hnd fun o2 z2 e2 hj=>?_;rw [tV,hyk,IV] at hj;obtain ⟨j1,j2,j3⟩:=hj
             first
               | exact c1 j1
               | (have c2':0 < (out.length:Int):=by rw [e2,iI,List.length_singleton];omega
                  obtain ⟨o,z,_,_,_,e,_,wR,_⟩:=xg c2';obtain ⟨-,ez⟩:=List.append_inj' (e2.symm.trans e) rfl
                  injection ez with ez
                  subst ez
                  first
                    | exact c2 c2'
                    | exact c3 (by rw [wR];exact j2)
                    | exact c4 (by rw [wR];exact j3)))
      skip;refine dI hmx [[],[0],[0,1],[0,1,2],(ra 0 4),(ra 0 5),(ra 0 6),(ra 0 7),(ra 0 8),(ra 0 8),(ra 0 8++[9]),(ra 0 11),(ra 0 12),(ra 0 13),(ra 0 14),(ra 0 15),(ra 0 16),(ra 0 17),(ra 0 17),(ra 0 17++[18]),(ra 0 20),(ra 0 21),(ra 0 22),(ra 0 17),(ra 0 17++[23]),(ra 0 25),(ra 0 26),(ra 0 27)] [] (by kernel_rfl) [_,vi l[k].kind,_,_,undef,undef,_,_,undef,undef,undef,undef,undef,undef,undef,_,_,undef,undef,undef,undef,undef,undef,undef,undef,undef,_,_] H (aF (Z0 rfl (Rf jZ rfl)) (Z1 0 53 rfl (Ro aH 0 rfl)) (Z1 1 54 rfl (Rc rfl)) (Z1 2 55 rfl (Rm rfl)) (aF (aV 3 (aS c1) rfl rfl) (aV 3 (aS c1) rfl rfl) (Z2 3 56 5 58 rfl (Pf (aS c1) rfl)) (Z1 6 59 rfl (Rm rfl)) (aF (aV 7 rfl rfl rfl) (aV 7 rfl rfl rfl) (aV 7 rfl rfl rfl) (aV 7 rfl rfl rfl) (aF (aV 7 rfl rfl rfl) (aV 7 rfl rfl rfl) (aV 7 rfl rfl rfl) (Z2 7 60 14 67 rfl (Pf rfl rfl)) (aF (Z1 15 68 rfl (Rm rfl)) (aV 16 rfl rfl rfl) (aV 16 rfl rfl rfl) (aV 16 rfl rfl rfl) (aF (aV 16 rfl rfl rfl) (aV 16 rfl rfl rfl) (aV 16 rfl rfl rfl) (aV 16 rfl rfl rfl) (aF (aV 16 rfl rfl rfl) (aV 16 rfl rfl rfl) (Z2 16 69 25 78 rfl (Pf rfl rfl)) (Z1 26 79 rfl (Ra rfl)) dz))))))) ?_
      clear H;intro a w G lQ H hv;have H:=H.aM (hv 27 52 rfl rfl) rfl;clear hv;refine aD ⟨rfl,?_⟩;refine ⟨(_,_),by exact (H).sub ⟨rfl,rfl,rfl,rfl,rfl,rfl,rfl,aC⟩,?_⟩;(try dsimp only);refine ⟨fun h=>by first|exact absurd h (by decide)|exact ⟨c1,c2,c3,nK h⟩,fun h=>?_,lQ⟩
      first
        | exact absurd ((aG c4).symm.trans h) (by decide)
        | (rw [hos]
           refine D6 hnd fun o2 z2 e2 hj=>?_;rw [tV,hyk,IV] at hj;obtain ⟨j1,j2,j3⟩:=hj
           first
             | exact c1 j1
             | (have c2':0 < (out.length:Int):=by rw [e2,iI,List.length_singleton];omega
                obtain ⟨o,z,_,_,_,e,_,wR,_⟩:=xg c2';obtain ⟨-,ez⟩:=List.append_inj' (e2.symm.trans e) rfl
                injection ez with ez
                subst ez
                first
                  | exact c2 c2'
                  | exact c3 (by rw [wR];exact j2)
                  | exact c4 (by rw [wR];exact j3)))
    clear H;rintro ⟨jb,g9⟩ a w hI H;dsimp only at hI H;obtain ⟨hjy,hjn,Bp⟩:=hI;have akI:=Nt.mono Bp;have Da:=Z5.mono Bp;have Zx:∀ b o,G b=some o→g9 b=some o:=fun b o h=>Bp b o (Zw b o h);dsimp only [lca,bJ] at H;refine jD H rfl ?_ ?_
    · intro oQ
      try have p52:=dT oQ
      obtain ⟨c1,c2,c3,c4⟩:=hjy (by assumption);obtain ⟨oo,z,x0,zf,zr,NQ,rfl,rfl,rfl,hxs,hxl,hc0,hhz,hfz,hrz,hxj⟩:=xg c2
      have TQ:z.text.size≤lU out:=by
        rw [NQ,GU];simp only [lU];omega
      obtain ⟨cur,-,rfl,hcur,hset⟩:=hrw.set1;refine dI hmx [[],[],[1],[0,1,2],(ra 0 4),(ra 0 5),[],[6],(ra 0 8),(ra 0 9),(ra 0 10),(ra 0 11)] [9,10,11] (by kernel_rfl) [_,_,vi ((out.length - 1:Nat):Int),_,_,.string z.text,_,.string l[k].text,.string (z.text++l[k].text)] H (aF (Z0 rfl (Rm rfl)) (Z0 rfl (Rm rfl)) ?_ (Z2 0 80 2 82 rfl (Ri iF fG rfl rfl)) (aF (Z1 3 83 rfl (Rf vH rfl)) ?_ (Z0 rfl (Rf vH rfl)) (Z1 6 86 rfl (Ro iN 0 rfl)) (aF ?_ (bS rfl) (bS rfl) (bS rfl) dz))) ?_
      · refine fq 1 81 rfl rfl fun _ a w G1 hG HT H fin=>?_;refine kH H (Rs rfl ?_);clear H;intro a H;exact fin H iJ (by show _=_;first|rfl|exact aB vi (by omega))
      · refine fq 4 84 rfl rfl fun _ a w G1 hG HT H fin=>?_;refine rC iN H wn rfl (hrw.at H.hp (fun x hx=>iQ _ hx) (by rw [gI];exact hxj 3 _ rfl)) rfl ?_;clear H;intro a H;exact fin H iJ rfl
      · refine dJ 5 85 7 87 rfl rfl fun _ a w G1 hG HT H fin=>?_;refine apF H wn rfl rfl (by omega) rfl ?_;clear H;intro a H;exact fin H iJ rfl
      clear H;intro a w G oz H hv;have H:=H.aM (hv 0 80 rfl rfl) rfl;have H:=H.aM (hv 2 82 rfl rfl) rfl;have H:=H.aM (hv 8 88 rfl rfl) rfl;clear hv;refine kH H (Ri iF fG rfl rfl (Rf vH rfl ?_));clear H;intro a H;refine bD iN 1 (c:=cur) (vs:=[.string (z.text++l[k].text)]) (cur.set ((out.length - 1)*11+3) (.string (z.text++l[k].text))) H wn rfl rfl rfl rfl rfl rfl (by simp;omega) (by rw [gI];rfl) ?_;clear H;intro w H;dsimp only [List.set] at H;have amc:=hset ((out.length - 1)*11+3) (.string (z.text++l[k].text))
      have ZP:tZ l (k+1)=oo++[qZ z y]:=by rw [hos,NQ];exact MC hnd ⟨by rw [hyk];exact c1,c3,by rw [IV];exact c4⟩
      refine aD ⟨rfl,?_⟩;refine K7 _ _ ?_;clear K7;refine kP H (SC (Rd rfl (Rm rfl ?_)));clear H;intro a H;refine aD ?_;refine dD ((k+1,_,xs.set ((out.length - 1)*11+3) (.string (z.text++l[k].text)),_,_)) (by exact (H.dY (Pl:=[_]) (dK:=[]) [] (by decide) rfl).sub ⟨rfl,rfl,rfl,rfl,aC⟩) ?_
      (try dsimp only);exact ⟨by omega,by rw [ZP,show (oo++[qZ z y]).length=out.length by rw [NQ];simp];exact amc,by rw [ZP,hxs,NQ];exact joined (hc0.mono fun b o h=>oz b o (Bp b o h)) hxl (hhz.mono fun b o h=>oz b o (Bp b o h)) (hfz.mono fun b o h=>oz b o (Bp b o h)) (hrz.mono fun b o h=>oz b o (Bp b o h)) (by rw [KV]),fun b o h=>oz b o (Zx b o h)⟩
    intro oQ
    try have p52:=dF oQ
    have hnx:=hjn (by assumption);refine kP H (SC (Rm rfl ?_));clear H;intro a H;refine bL fG (cs:=[_,_,_,_,_,_,_,_,_,_,_]) H wn rfl rfl (H.hp.cO 0 rfl rfl) rfl ?_;clear H;intro a H;refine iE iF fG [_,_,_,_,_,_,_,_,_,_,_] [_,_,_,_,_,_,_,_,_,_,_] H wn rfl rfl rfl rfl rfl (by intro i q h;match i,h with|0,h=>exact h|n+1,h=>simp at h) rfl rfl ?_;clear H;intro WW a w akv H;refine nE (Li:=[_,_]) (Lo:=Lo) (news:=QA) iF fG rfl rfl H wn rfl rfl hrw (by rw [Nv];rfl) (by rw [Nv];exact H.hp.cO 0 rfl rfl) Z5.one (by omega) (by omega) rfl ?_;clear H;intro v31 adD a w NT H;refine kH H (bq K7 rfl (SC (Rd rfl (Rm rfl ?_))));clear H K7;intro a H;refine aD ?_;refine dD ((k+1,v31,xs++QA,adD,_)) (by exact (H.dY (Pl:=[_,_]) (dK:=[]) [] (by decide) rfl).sub ⟨rfl,rfl,rfl,rfl,aC⟩) ?_
    (try dsimp only);exact ⟨by omega,by rw [hnx,iI];exact NT,by rw [hnx,lY];exact (akI.snoc Da (by rw [Nv];rfl)),Zx⟩
  intro h10 a H
  try have kV:=dF h10
  refine dV ?_;refine K3 _ _ ?_;clear K3;refine bN (fun _ cZ=>?_)
  obtain rfl:k=l.length:=by omega
  obtain ⟨G',hm,hrep,H⟩:=H.nW (Li:=[]) hrw (rows:=out.map ay.dat) (by simp) dP;exact kP H (SC (Rm rfl (bq cZ rfl (LR results58 rfl fun H=>H.rt (by rw [og,← hout];exact hrep)))))
theorem abb:∀ n:Nat,n≤1073741825→Fp n
 | 0,_=>fun _ _ _ _ _ _ _ h=>absurd h (by omega)
 | n+1,hn=>anO (abb n (by omega)) (by omega)
theorem anQ (G:GH) (w0:World) (hG:Hold G w0) (l:List ay) (v:aj) (hv:av G (.sl 11 (l.map ay.dat)) v) (hne:wz l) (hz:bK l≤1073741824) :
  Calls prog 58 #[v] w0 (aZ w0 G fun u G'=>av G' (.sl 11 ((og l).map ay.dat)) u):=abb 1073741825 (by omega) G w0 hG l v hv hne (by omega)
theorem air:∀ args w,(callFunc 59 args).run prog w=.ok (.enter 59 args) w:=enters func59 rfl (by kernel_rfl)
theorem aiu:∀ args w,(callFunc 63 args).run prog w=.ok (.enter 63 args) w:=enters func63 rfl (by kernel_rfl)
theorem ais:∀ args w,(callFunc 61 args).run prog w=.ok (.enter 61 args) w:=enters func61 rfl (by kernel_rfl)
theorem arH {G:GH} {b3:Nat} {us:List Int} {uv:aj} (hb:aI G b3 0=some uv) (hu:av G (.sl 1 (us.map fun k=>[li k])) uv) (hl:us.length≤4294967296) (x:dh):pO (.func (.func 61) #[] #[(aK b3 0)]) G x.dat (!pW us x.id):=by
 intro G1 w0 cs hm hG hr;obtain rfl:=UZ hr;replace hb:=aJ hm hb;replace hu:=hu.mono hm;obtain ⟨uA,uc,rfl,-,-,-⟩:=hu.slice;refine jI (caps:=[(aK b3 0)]) ais ?_;refine eN [(0,_),(1,_)] func61 rfl ntmps61 rfl rfl hG ?_;intro a H;refine cu (fun _ K1=>?_);refine dQ (cs:=[_,_,_]) H wn rfl rfl rfl ?_;clear H;intro b2 a w hb2 H;refine kH H (ak K1 rfl (SR fun _ K2=>Rg LH rfl hb (aY Q6 aH 0 rfl rfl ?_)));clear H K1;intro a H;refine s_call ait H wn rfl (aee _ _ H.ro us x.id _ hu hl) rfl ?_;clear H;rintro v10 Ce a w ⟨rfl,rfl⟩ En H;refine kH H (Rm rfl ?_);clear H;intro a H;(iterate 2 refine lq H wn rfl rfl rfl ?_;clear H;intro a H);exact kH H (Ra rfl (ak K2 rfl (SR fun _ K3=>Rm rfl (Rn rfl (ak K3 rfl (LR results61 rfl fun H=>H.rt rfl))))))
def BG (d:jG):jG:=⟨og d.flow,d.fin,d.revs,d.lI⟩
def nD (d:jG):jG:=⟨og d.flow,d.fin,d.revs.filter fun r=>pW (Dr (uY (BG d))) r.id,d.lI⟩
theorem aoY (G:GH) (l:List dh):bT G 3 (l.map dh.dat) (oh l):=by
 have h:∀ (B A:List dh),bT G 3 (A.map dh.dat) (oh A)→bT G 3 ((A++B).map dh.dat) (oh (A++B)):=by
  intro B
  induction B with
  | nil=>intro A h;rw [jf];exact h
  | cons x B ih =>
   intro A h;have h2:=h.snoc (Lg G x) rfl;have h3:=ih (A++[x]) (by rw [UU,lY];exact h2)
   simpa using h3
 exact h l [] bT.nil
set_option maxHeartbeats 2000000 in
set_option maxRecDepth 8000 in
theorem afR (G:GH) (w0:World) (hG:Hold G w0) (D:jV) (d:jG) (hR:oK G D d) (hz:Cb d) (hne:wz d.flow) (hz2:bK (og d.flow)≤1073741824) (hw:∀ k∈uY (BG d),-9223372036854775808≤k∧k < 9223372036854775808) (hl:(uY (BG d)).length≤4294967296) :
  Calls prog 17 #[D.val] w0 (aZ w0 G fun u G'=>∃ D':jV,u=D'.val∧oK G' D' (nD d)):=by
 obtain ⟨df,dp,dd,dy,dr,d1,d2,d3,d4,ins,mv⟩:=D;obtain ⟨zf,zh,zr,zt,zs,GZ⟩:=hz;refine eN [(0,_)] func17 rfl ntmps17 rfl rfl hG ?_;intro a H;refine cu (fun _ K1=>?_);refine dQ (cs:=[_,_,_,_,_,_,_,_,_,_,_]) H wn rfl rfl rfl ?_;clear H;intro b1 a w hb1 H;refine dS kG H wn rfl ?_;clear H;intro b2 a w hb2 H;refine K1 _ _ ?_;clear K1;refine kP H (SR fun _ K2=>aY vG jc 1 rfl rfl ?_);clear H;intro a H;refine s_call QX H wn rfl (anQ _ _ H.ro d.flow _ hR.fl hne zf) rfl ?_;clear H;rintro v6 G6 a w hv6 Er H;obtain ⟨fA,fn,fc,rfl⟩:=hv6.form;have zS:oK G6 ⟨(fA,fn,fc),dp,dd,dy,dr,d1,d2,d3,d4,ins,mv⟩ (BG d):=⟨hv6,hR.hd.mono Er,hR.ins,hR.mv,hR.rv.mono Er,hR.st.mono Er⟩;refine kH H (Rf vG rfl ?_);clear H;intro a H;refine bD jc 1 (vs:=[_]) _ H wn rfl rfl rfl rfl rfl rfl rfl rfl ?_;clear H;intro w H;dsimp only [List.set,setRow] at H;refine K2 _ _ ?_;clear K2;refine cu (fun _ K3=>?_);refine bL kG (cs:=(⟨(fA,fn,fc),dp,dd,dy,dr,d1,d2,d3,d4,ins,mv⟩:jV).cells) H wn rfl rfl (H.hp.cO 1 rfl rfl) rfl ?_;clear H;intro a H;refine s_call ain H wn rfl (afS _ _ H.ro _ _ zS (by show bK (og d.flow)≤_;omega) hw hl) rfl ?_;clear H;rintro v9 G9 a w NW tN H;obtain ⟨uA,un,uc,rfl⟩:=NW.form;refine dS LH H wn rfl ?_;clear H;intro b3 a w hb3 H;refine bD LH 0 (vs:=[_]) _ H wn rfl rfl rfl rfl rfl rfl rfl rfl ?_;clear H;intro w H;dsimp only [List.set,setRow] at H;refine K3 _ _ ?_;clear K3;refine bN (fun _ K4=>?_);obtain ⟨Gb,hmb,zT,H⟩:=H.eH;have hq3:aI Gb b3 0=some (.slice uA un uc):=vO zT 0 [.slice uA un uc] rfl 0 _ rfl;replace NW:=NW.mono hmb;replace zS:=(zS.mono tN).mono hmb;refine kP H (SC (aY Ee yJ 1 rfl rfl ?_));clear H;intro a H;refine gH Yo (Li:=[_,_]) (L:=[]) H wn rfl (Xr _ _ (yC H.ro) _ _ _ _ zS.rv (by simpa [BG] using zr)) rfl ?_;clear H;rintro v12 DL L12 a w ⟨aub,TA,akF⟩ CU H;obtain rfl:=aoZ akF;rw [bG] at TA;obtain ⟨rA,rc,rfl,-,-⟩:=TA.shape;refine oZ H wn rfl rfl ?_;clear H;intro a H;refine gH air (Li:=[_,_]) (L:=L12) H wn rfl (afN d.revs (fun r=>!pW (Dr (uY (BG d))) r.id) (Hp.owns (Li:=[_,_]) H.hp) TA (fun x _=>arH (aJ CU hq3) (NW.mono CU) (by rw [Dr,List.length_mergeSort];exact hl) x)) rfl ?_;clear H;rintro v14 Aw L14 a w KQ yY H
 simp only [Bool.not_not] at KQ
 obtain ⟨Gr,hmr,Z8,H⟩:=St.nW (Li:=[_,_]) H KQ (rows:=(nD d).revs.map dh.dat) (by simp [nD]) (aoY _ _);obtain ⟨rB,rn,rd,rfl⟩:=Z8.form;replace zS:=((zS.mono CU).mono yY).mono hmr;have hR2:oK Gr ⟨(fA,fn,fc),dp,dd,dy,(rB,rn,rd),d1,d2,d3,d4,ins,mv⟩ (nD d):=⟨zS.fl,zS.hd,zS.ins,zS.mv,Z8,zS.st⟩;refine kH H (Rf Ee rfl ?_);clear H;intro a H;refine bD yJ 1 (vs:=[_]) _ H wn rfl rfl rfl rfl rfl rfl rfl rfl ?_;clear H;intro w H;dsimp only [List.set,setRow] at H;refine aD ?_;refine K4 _ _ ?_;clear K4;refine cu (fun _ K5=>?_);refine bL kG (cs:=(⟨(fA,fn,fc),dp,dd,dy,(rB,rn,rd),d1,d2,d3,d4,ins,mv⟩:jV).cells) H wn rfl rfl (H.hp.cO 1 rfl rfl) rfl ?_;clear H;intro a H;refine gH aiu (Li:=[_,_]) (L:=[]) H wn rfl (afQ _ _ (yC H.ro) _ _ hR2 ⟨by show bK (og d.flow)≤_;omega,zh,Nat.le_trans (List.length_filter_le _ _) zr,fun x hx=>zt x (List.mem_filter.1 hx).1,zs,GZ⟩) rfl ?_;clear H;rintro v17 vg PV a w ⟨D',rfl,xf,Lf,xr,Lr,rfl,IQ,SI,IU,SK,ali,alj,alC,hst'⟩ nN H;obtain ⟨Gs,hms,alS,H⟩:=St.nW (Li:=[_,_]++Lf) (by rw [iW];exact H) IU (rows:=(nD d).revs.map dh.dat) (by simp) SK;obtain ⟨Gt,hmt,ald,H⟩:=St.nW (Li:=[_,_]) H IQ (rows:=(nD d).flow.map ay.dat) (by simp) (SI.mono hms);refine bD kG 0 (vs:=[_,_,_,_,_,_,_,_,_,_,_]) _ H wn rfl rfl rfl rfl rfl rfl rfl rfl ?_;clear H;intro w H;dsimp only [List.set,setRow] at H;refine K5 _ _ ?_;clear K5;refine bW ?_;refine (leave1 H results17 (.cons (nQ kG (cs:=[_,_,_,_,_,_,_,_,_,_,_]) H rfl rfl (H.hp.cO 0 rfl rfl)) .nil) ?_).1;exact H.rt ⟨D',rfl,ald,(ali.mono hms).mono hmt,alj,alC,alS.mono hmt,(hst'.mono hms).mono hmt⟩
theorem Ng {l:List Int} (h:∀ x∈l,x=0):dR l=0:=by
 induction l with
 | nil=>rfl
 | cons x l ih=>rw [h x gJ];simp only [dR,ne_eq,not_true_eq_false,if_false];exact ih fun y hy=>h y (iQ _ hy)
theorem WT {E:Nat→Int} {n:Nat} (h:∀ i,i < n→E i=0):kK E n=0:=Ng fun x hx=>by
 obtain ⟨i,hi,rfl⟩:=List.mem_map.1 hx;exact h i (uD.1 hi)
theorem abt {α:Type} {l:List α} {R:α→α→Prop} (htr:∀ a b c,R a b→R b c→R a c) (h:∀ k (hk:k+1 < l.length),R l[k] l[k+1]):l.Pairwise R:=by
 rw [List.pairwise_iff_getElem];intro i j hi hj hij
 induction j with
 | zero=>omega
 | succ j ih =>
  by_cases e:i=j
  ·subst e;exact h i hj
  exact htr _ _ _ (ih (by omega) (by omega)) (h j hj)
def WI (C:bO) (e k v:Int):Prop:=vK e k=true∧sZ k v=0∧oF C.st C.wh k v=0
def yO (C:bO) (e:Int) (l:List aO):Prop:=(∀ p∈l,WI C e p.key p.value)∧l.Pairwise fun x y=>x.key < y.key
def zD (C:bO) (e k:Int) (s:Int × Bool):Prop:=vK e k=true∧(s.2=true→sZ k s.1=0∧oF C.st C.wh k s.1=0)∧(s.2=false→s.1=0)
def Ht (C:bO) (e:Int) (y:cK):Prop:=y.rev∈C.Ai∧zD C e y.key (y.before,y.had)
structure PN (C:bO) (e:Int) (h:dM):Prop where
 el:1≤e∧e≤10
 ps:yO C e h.props
 mrk:(h.marks.ins≠0→h.marks.ins∈C.Ai)∧(0≤h.marks.move∧h.marks.move≤1073741824)∧(h.marks.move≠0→h.marks.ins≠0)∧h.marks.bE.length≤16
 dl:(∀ x∈h.marks.bE,x.rev∈C.Ai∧0≤x.move∧x.move≤1073741824)∧h.marks.bE.Pairwise fun x y=>x.rev < y.rev
 ln:h.marks.layers.length≤64
 ly:(∀ y∈h.marks.layers,Ht C e y)∧h.marks.layers.Pairwise fun x y=>x.key≤y.key
theorem Qr (e:Int):∀ (l:List aO) (q:Option Int),yU e q l=0↔(∀ p∈l,vK e p.key=true∧sZ p.key p.value=0)∧(l.Pairwise fun x y=>x.key < y.key)∧∀ j,q=some j→∀ p∈l,j < p.key
 | [],q=>by simp [yU]
 | p :: r,q=>by
  rw [yU];have ih:=Qr e r (some p.key)
  constructor
  ·intro h
   split at h
   ·cases h
   rename_i h1
   split at h
   ·cases h
   rename_i h2
   split at h
   ·cases h
   rename_i h3
   split at h
   ·rename_i h4
    obtain ⟨a,b,c⟩:=ih.1 h
    have hq:∀ j,q=some j→j < p.key:=fun j e=>by
     subst e;rw [EC,mH] at h3;have:j≠p.key:=fun e=>h2 (by rw [e])
     omega
    refine ⟨fun x hx=>?_,?_,fun j e x hx=>?_⟩
    ·rcases jS.1 hx with rfl|hx
     ·exact ⟨by simpa using h1,h4⟩
     exact a x hx
    ·exact wK.2 ⟨fun y hy=>c _ rfl y hy,b⟩
    rcases jS.1 hx with rfl|hx
    ·exact hq j e
    exact Int.lt_trans (hq j e) (c _ rfl x hx)
   rename_i h4;exact absurd h h4
  rintro ⟨a,b,c⟩;obtain ⟨b1,b2⟩:=wK.1 b;obtain ⟨a1,a2⟩:=a p gJ;rw [ah (by simp [a1]),ah (fun e=>by have:=c _ e p gJ;omega),ah,au a2]
  ·exact ih.2 ⟨fun x hx=>a x (iQ _ hx),b2,fun j e x hx=>by cases e;exact b1 x hx⟩
  intro hl
  cases q with
  | none=>cases hl
  | some j =>
   rw [EC,mH] at hl;have:=c j rfl p gJ;omega
theorem Zt (C:bO) (e:Int) (h:dM):iD C e h=0↔PN C e h:=by
 constructor
 ·intro hE;have z:=mg hE;have z1:=z (iy e h.props) (by simp);have z2:=z (Ah C h.props) (by simp);have z3:=z (jU C h.marks) (by simp);have z4:=z (kK (uJ C h.marks.bE) h.marks.bE.length) (by simp);have z5:=z (dw (decide (64 < (h.marks.layers.length:Int))) 9) (by simp);have z6:=z (kK (za C e h.marks.layers) h.marks.layers.length) (by simp)
  unfold iy at z1
  have hel:¬ (e < 1∨10 < e):=fun h=>by rw [au h] at z1;cases z1
  rw [ah hel,Qr] at z1
  unfold jU at z3
  have hD:∀ k (hk:k < h.marks.bE.length),uK C k h.marks.bE[k] ((h.marks.bE[k - 1]?.map gq.rev).getD 0)=0:=fun k hk=>by
   have h5:=Fv z4 k hk
   unfold uJ at h5
   rwa [eT hk] at h5
  have hL:∀ k (hk:k < h.marks.layers.length),xq C e k h.marks.layers[k] ((h.marks.layers[k - 1]?.map cK.key).getD 0)=0:=fun k hk=>by
   have h5:=Fv z6 k hk
   unfold za at h5
   rwa [eT hk] at h5
  refine ⟨by omega,⟨fun p hp=>⟨(z1.1 p hp).1,(z1.1 p hp).2,?_⟩,z1.2.1⟩,?_,⟨fun x hx=>?_,abt (fun a b c=>Int.lt_trans) fun k hk=>?_⟩,?_,⟨fun y hy=>?_,abt (fun a b c=>Int.le_trans) fun k hk=>?_⟩⟩
  ·exact mg z2 _ (List.mem_map.2 ⟨p,hp,rfl⟩)
  ·split at z3
   ·cases z3
   rename_i a1
   split at z3
   ·cases z3
   rename_i a2
   split at z3
   ·cases z3
   rename_i a3
   exact ⟨fun h0=>Decidable.byContradiction fun hn=>a1 ⟨h0,hn⟩,by omega,by omega,by omega⟩
  ·obtain ⟨k,hk,rfl⟩:=List.getElem_of_mem hx;have h6:=hD k hk
   unfold uK at h6
   split at h6
   ·cases h6
   rename_i a1
   split at h6
   ·cases h6
   split at h6
   ·cases h6
   rename_i a3
   exact ⟨nV.1 a1,by omega⟩
  ·have h6:=hD (k+1) hk;rw [Nat.add_sub_cancel,eT (by omega:k < h.marks.bE.length)] at h6
   unfold uK at h6
   split at h6
   ·cases h6
   split at h6
   ·cases h6
   rename_i a2
   simp only [rO,Option.getD_some] at a2
   omega
  ·unfold dw at z5
   split at z5
   ·cases z5
   rename_i a;simp only [mH] at a;omega
  ·obtain ⟨k,hk,rfl⟩:=List.getElem_of_mem hy;have h6:=hL k hk
   unfold xq at h6
   split at h6
   ·cases h6
   rename_i a1
   split at h6
   ·cases h6
   rename_i a2
   split at h6
   ·cases h6
   refine ⟨nV.1 a1,by simpa using a2,fun ht=>?_,fun hf=>?_⟩
   ·dsimp only at ht;rw [ah (by rw [ht];decide)] at h6;exact ⟨mg h6 _ gJ,mg h6 _ (by simp)⟩
   dsimp only at hf;rw [au hf,yL (by decide)] at h6
   simpa using h6
  have h6:=hL (k+1) hk;rw [Nat.add_sub_cancel,eT (by omega:k < h.marks.layers.length)] at h6
  unfold xq at h6
  split at h6
  ·cases h6
  split at h6
  ·cases h6
  split at h6
  ·cases h6
  rename_i a2
  simp only [rO,Option.getD_some] at a2
  omega
 rintro ⟨hel,⟨hp,hps⟩,⟨m1,m2,m3,m4⟩,⟨d1,d2⟩,hln,⟨l1,l2⟩⟩;refine Ng fun x hx=>?_
 simp only [jS,List.not_mem_nil,or_false] at hx
 rcases hx with rfl|rfl|rfl|rfl|rfl|rfl
 ·unfold iy
  rw [ah (by omega),Qr];exact ⟨fun p h=>⟨(hp p h).1,(hp p h).2.1⟩,hps,fun j e=>by cases e⟩
 ·refine Ng fun x hx=>?_;obtain ⟨p,h1,rfl⟩:=List.mem_map.1 hx;exact (hp p h1).2.2
 ·unfold jU
  rw [ah fun h=>h.2 (m1 h.1),ah fun h=>h.elim (fun h=>h m2) fun h=>m3 h.1 h.2,ah (by omega)]
 ·refine WT fun k hk=>?_
  unfold uJ
  rw [eT hk];dsimp only [uK];have:=d1 _ (kS hk);rw [ah fun h=>h this.1,ah,ah fun h=>h this.2];rintro ⟨h0,h1⟩;rw [eT (by omega:k - 1 < h.marks.bE.length)] at h1;have:=List.pairwise_iff_getElem.1 d2 (k - 1) k (by omega) hk (by omega)
  simp only [rO,Option.getD_some] at h1
  omega
 ·rw [yL (by decide),ni];omega
 refine WT fun k hk=>?_
 unfold za
 rw [eT hk];dsimp only [xq];obtain ⟨a1,a2,a3,a4⟩:=l1 _ (kS hk);rw [ah fun h=>h a1,ah (by simp [a2]),ah]
 ·split
  ·rename_i hf
   rw [yL (by decide)];have:=a4 hf
   simpa using this
  rename_i hf
  obtain ⟨b1,b2⟩:=a3 (by simpa using hf);exact Ru.2 ⟨b1,b2⟩
 rintro ⟨h0,h1⟩;rw [eT (by omega:k - 1 < h.marks.layers.length)] at h1;have:=List.pairwise_iff_getElem.1 l2 (k - 1) k (by omega) hk (by omega)
 simp only [rO,Option.getD_some] at h1
 omega
theorem Zi {l:List aO} {k:Int} (h:pW (l.map aO.key) k=true):∃ hi:iH (l.map aO.key) k < l.length,l[iH (l.map aO.key) k].key=k:=by
 have h1:=Kt h;rw [bG] at h1;have h2:=nK h;rw [pQ,eT h1] at h2;exact ⟨h1,by simpa using h2⟩
theorem ajH {C:bO} {e:Int} {l:List aO} (hp:yO C e l) {k:Int} (hf:vK e k=true):zD C e k (zL l k):=by
 unfold zL
 split
 ·rename_i h
  obtain ⟨h1,h2⟩:=Zi h;have:=(hp.1 _ (kS h1)).2;rw [h2] at this;rw [List.getD_eq_getElem?_getD,eT h1];exact ⟨hf,fun _=>this,fun h=>by cases h⟩
 exact ⟨hf,fun h=>(by cases h),fun _=>rfl⟩
theorem acr {C:bO} {e k:Int} (hf:vK e k=true):zD C e k (0,false):=⟨hf,fun h=>(by cases h),fun _=>rfl⟩
theorem aef {l:List aO} (hs:l.Pairwise fun x y=>x.key < y.key) (k:Int):(∀ p∈l.take (iH (l.map aO.key) k),p.key < k)∧∀ p∈l.drop (iH (l.map aO.key) k),k≤p.key:=by
 have hle:=Fx (l.map aO.key) k;rw [bG] at hle;have hp:(l.map aO.key).Pairwise (·≤·):=List.pairwise_map.2 (hs.imp fun h=>Int.le_of_lt h);obtain ⟨r1,r2⟩:=Xd hp k;refine ⟨fun p h=>?_,fun p h=>?_⟩
 ·obtain ⟨i,hi,rfl⟩:=List.getElem_of_mem h;rw [List.length_take] at hi;have:=r1 i (by rw [bG];omega) (by omega);rw [List.getElem_map] at this;rw [List.getElem_take];exact this
 obtain ⟨i,hi,rfl⟩:=List.getElem_of_mem h;rw [List.length_drop] at hi;have h1:=r2 (by rw [bG];omega);rw [List.getElem_map] at h1;rw [List.getElem_drop]
 by_cases e:i=0
 ·subst e;exact h1
 have:=List.pairwise_iff_getElem.1 hs (iH (l.map aO.key) k) (iH (l.map aO.key) k+i) (by omega) (by omega) (by omega)
 omega
theorem afv {C:bO} {e:Int} {l:List aO} (hp:yO C e l) (k:Int):yO C e (D9 l k):=by
 unfold D9
 split
 ·have hs:(l.take (iH (l.map aO.key) k)++l.drop (iH (l.map aO.key) k+1)).Sublist l:=by
   conv=>rhs;rw [← List.take_append_drop (iH (l.map aO.key) k) l]
   exact List.Sublist.append (gT _) (by rw [← List.drop_drop];exact List.drop_sublist _ _)
  exact ⟨fun p h=>hp.1 p (hs.subset h),hp.2.sublist hs⟩
 exact hp
theorem aql {C:bO} {e:Int} {l:List aO} (hp:yO C e l) {k v:Int} (hk:WI C e k v):yO C e (EN l k v):=by
 obtain ⟨b1,b2⟩:=aef hp.2 k
 unfold EN
 split
 ·rename_i h
  obtain ⟨h1,h2⟩:=Zi h;rw [List.getD_eq_getElem?_getD,eT h1,Option.getD_some,h2];refine ⟨fun p hpm=>?_,?_⟩
  ·rcases List.mem_or_eq_of_mem_set hpm with h|rfl
   ·exact hp.1 p h
   exact hk
  have e:(l.set (iH (l.map aO.key) k) ⟨k,v⟩).map aO.key=l.map aO.key:=by
   rw [List.map_set];refine List.ext_getElem (by simp) fun i h3 h4=>?_;rw [List.getElem_set]
   split
   ·rename_i hi;subst hi;rw [List.getElem_map,h2]
   rfl
  have:=List.pairwise_map.2 hp.2;rw [← e] at this;exact List.pairwise_map.1 this
 rename_i h
 have hne:∀ p∈l,p.key≠k:=fun p hpm he=>by
  rw [akn (List.pairwise_map.2 (hp.2.imp fun h=>Int.le_of_lt h)),mH] at h;exact h (List.mem_map.2 ⟨p,hpm,he⟩)
 refine ⟨fun p hpm=>?_,?_⟩
 ·rcases nH.1 hpm with h|h
  ·exact hp.1 p (List.mem_of_mem_take h)
  rcases jS.1 h with rfl|h
  ·exact hk
  exact hp.1 p (List.mem_of_mem_drop h)
 rw [List.pairwise_append];refine ⟨hp.2.sublist (List.take_sublist _ _),wK.2 ⟨fun p h=>?_,hp.2.sublist (List.drop_sublist _ _)⟩,fun p h q hq=>?_⟩
 ·have h1:=b2 p h;have h2:=hne p (List.mem_of_mem_drop h)
  show k < p.key
  omega
 have h1:=b1 p h
 rcases jS.1 hq with rfl|hq
 ·exact h1
 have h2:=b2 q hq
 show p.key < q.key
 omega
theorem asc {C:bO} {e:Int} {l:List aO} (hp:yO C e l) {k:Int} {s:Int × Bool} (hs:zD C e k s):yO C e (zx l k s):=by
 unfold zx
 split
 ·rename_i h
  exact aql hp ⟨hs.1,hs.2.1 h⟩
 exact afv hp k
theorem Ue {C:bO} {e:Int} (rej:Int→Bool) {xE:List (Int × Bool)} {k:Int} (hf:vK e k=true) (hst:∀ s∈xE,zD C e k s):∀ (l:List cK) (j:Nat) (now:Int × Bool),(∀ y∈l,y.key=k∧y.rev∈C.Ai)→zD C e k now →
  (∀ y∈(xk rej xE l j now).1,y.key=k∧Ht C e y∧∃ z∈l,z.rev=y.rev∧rej z.rev=false)∧zD C e k (xk rej xE l j now).2
 | [],_,_,_,hn=>by rw [xk];exact ⟨fun y h=>(by cases h),hn⟩
 | y :: r,j,now,hl,hn=>by
  obtain ⟨h1,h2⟩:=hl y gJ;have hl2:=fun z hz=>hl z (iQ _ hz);rw [xk]
  split
  ·obtain ⟨a,b⟩:=Ue rej hf hst r (j+1) now hl2 hn;refine ⟨fun z hz=>?_,b⟩;obtain ⟨c1,c2,x,c3,c4⟩:=a z hz;exact ⟨c1,c2,x,iQ _ c3,c4⟩
  rename_i hr
  have hg:zD C e k (xE.getD (j+1) (0,false)):=by
   rw [List.getD_eq_getElem?_getD]
   cases hx:xE[j+1]? with
   | none=>exact acr hf
   | some s=>exact hst s (kQ hx)
  obtain ⟨a,b⟩:=Ue rej hf hst r (j+1) _ hl2 hg;refine ⟨fun z hz=>?_,b⟩
  rcases jS.1 hz with rfl|hz
  ·refine ⟨h1,⟨h2,?_⟩,y,gJ,rfl,by simpa using hr⟩;dsimp only;rw [h1];exact hn
  obtain ⟨c1,c2,x,c3,c4⟩:=a z hz;exact ⟨c1,c2,x,iQ _ c3,c4⟩
theorem RF (acc:Int→Bool):∀ (l:List cK) (k c:Nat),c≤k→c≤nM acc l k c
 | [],k,c,_=>by rw [nM];exact bM _
 | y :: r,k,c,h=>by
  rw [nM]
  split
  ·have:=RF acc r (k+1) (k+1) (bM _);omega
  exact RF acc r (k+1) c (by omega)
theorem Y5 (acc:Int→Bool):∀ (l:List cK) (k c:Nat),c≤k→∀ y∈l.drop (nM acc l k c - k),acc y.rev=false
 | [],_,_,_,y,h=>by rw [List.drop_nil] at h;cases h
 | x :: r,k,c,hc,y,h=>by
  rw [nM] at h
  have hc2:(if acc x.rev=true then k+1 else c)≤k+1:=by split <;> omega
  have ih:=Y5 acc r (k+1) (if acc x.rev=true then k+1 else c) hc2;have hge:=RF acc r (k+1) (if acc x.rev=true then k+1 else c) hc2
  by_cases hk:nM acc r (k+1) (if acc x.rev=true then k+1 else c)≤k
  ·rw [show nM acc r (k+1) (if acc x.rev=true then k+1 else c) - k=0 by omega,vB] at h;rw [show nM acc r (k+1) (if acc x.rev=true then k+1 else c) - (k+1)=0 by omega,vB] at ih
   rcases jS.1 h with rfl|h
   ·cases ha:acc y.rev
    ·rfl
    rw [au ha] at hge hk;omega
   exact ih y h
  rw [show nM acc r (k+1) (if acc x.rev=true then k+1 else c) - k=(nM acc r (k+1) (if acc x.rev=true then k+1 else c) - (k+1))+1 by omega,yR] at h;exact ih y h
theorem ajN {C:bO} {e:Int} (acc rej:Int→Bool) {props:List aO} (hp:yO C e props) {k:Int} {l:List cK} (hne:l≠[]) (hl:∀ y∈l,y.key=k∧Ht C e y) :
  (∀ y∈(rU acc rej props k l).1,y.key=k∧Ht C e y∧∃ z∈l,z.rev=y.rev∧rej z.rev=false∧acc z.rev=false)∧zD C e k (rU acc rej props k l).2:=by
 have hf:vK e k=true:=by
  obtain ⟨y,r,rfl⟩:=List.exists_cons_of_ne_nil hne;obtain ⟨h1,-,h2,-⟩:=hl y gJ;rw [← h1];exact h2
 have hst:∀ s∈qG props k l,zD C e k s:=fun s hs=>by
  unfold qG at hs
  rcases nH.1 hs with hs|hs
  ·obtain ⟨y,hy,rfl⟩:=List.mem_map.1 hs;obtain ⟨h1,-,h2⟩:=hl y hy;rw [← h1];exact h2
  rw [uE.1 hs];exact ajH hp hf
 unfold rU
 have hn:zD C e k ((qG props k l).getD (nM acc l 0 0) (0,false)):=by
  rw [List.getD_eq_getElem?_getD]
  cases hx:(qG props k l)[nM acc l 0 0]? with
  | none=>exact acr hf
  | some s=>exact hst s (kQ hx)
 obtain ⟨a,b⟩:=Ue rej hf hst (l.drop (nM acc l 0 0)) (nM acc l 0 0) _ (fun y hy=>⟨(hl y (List.mem_of_mem_drop hy)).1,(hl y (List.mem_of_mem_drop hy)).2.1⟩) hn;refine ⟨fun y hy=>?_,b⟩;obtain ⟨c1,c2,x,c3,c4⟩:=a y hy;exact ⟨c1,c2,x,List.mem_of_mem_drop c3,c4.1,c4.2,Y5 acc l 0 0 (bM _) x (by simpa using c3)⟩
theorem Y9:∀ (f:Nat) (l:List cK),∀ q∈qR f l,∀ y∈q.2,y.key=q.1
 | 0,_,q,hq=>by cases hq
 | f+1,[],q,hq=>by cases hq
 | f+1,y :: r,q,hq=>by
  rw [qR] at hq
  rcases jS.1 hq with rfl|hq
  ·intro z hz
   rcases jS.1 hz with rfl|hz
   ·rfl
   have:=List.all_takeWhile (l:=r) (p:=fun z=>decide (z.key=y.key));rw [kJ] at this
   simpa using this z hz
  exact Y9 f _ q hq
theorem XF {C:bO} {e:Int} (acc rej:Int→Bool) {props:List aO} (hp:yO C e props):∀ (L:List (Int × List cK)) (s:List aO × List cK),yO C e s.1→(∀ q∈L,q.2≠[]∧∀ y∈q.2,y.key=q.1∧Ht C e y) →
  yO C e (wQ acc rej props L s).1∧∃ m,(wQ acc rej props L s).2=s.2++m∧(m.map cK.key).Sublist ((L.flatMap Prod.snd).map cK.key)∧∀ y∈m,Ht C e y∧∃ z∈L.flatMap Prod.snd,z.rev=y.rev∧rej z.rev=false∧acc z.rev=false
 | [],s,h,_=>by rw [wQ];exact ⟨h,[],by simp,gT _,fun y h=>by cases h⟩
 | (k,l) :: r,s,h,hL=>by
  obtain ⟨h1,h2⟩:=hL (k,l) gJ;obtain ⟨a,b⟩:=ajN acc rej hp h1 h2;have hln:=RG acc rej props k l;rw [wQ];obtain ⟨c,m,d1,d2,d3⟩:=XF acc rej hp r (zx s.1 k (rU acc rej props k l).2,s.2++(rU acc rej props k l).1) (asc h b) fun q hq=>hL q (iQ _ hq);refine ⟨c,(rU acc rej props k l).1++m,by rw [d1,iW],?_,fun y hy=>?_⟩
  ·rw [List.flatMap_cons,lY,lY];refine List.Sublist.append ?_ d2;have e1:(rU acc rej props k l).1.map cK.key=List.replicate (rU acc rej props k l).1.length k:=List.eq_replicate_iff.2 ⟨by simp,fun x hx=>by obtain ⟨y,hy,rfl⟩:=List.mem_map.1 hx;exact (a y hy).1⟩;have e2:l.map cK.key=List.replicate l.length k:=List.eq_replicate_iff.2 ⟨by simp,fun x hx=>by obtain ⟨y,hy,rfl⟩:=List.mem_map.1 hx;exact (h2 y hy).1⟩;rw [e1,e2];exact (List.replicate_sublist_replicate k).2 hln
  rw [List.flatMap_cons]
  rcases nH.1 hy with hy|hy
  ·obtain ⟨-,c2,x,c3,c4⟩:=a y hy;exact ⟨c2,x,nH.2 (.inl c3),c4⟩
  obtain ⟨c2,x,c3,c4⟩:=d3 y hy;exact ⟨c2,x,nH.2 (.inr c3),c4⟩
theorem afJ {C:bO} {e:Int} (acc rej:Int→Bool) {h:dM} (hh:PN C e h):PN C e (mJ acc rej h)∧∀ y∈(mJ acc rej h).marks.layers,∃ z∈h.marks.layers,z.rev=y.rev∧rej z.rev=false∧acc z.rev=false:=by
 obtain ⟨hel,hps,⟨m1,m2,m3,m4⟩,⟨d1,d2⟩,hln,⟨l1,l2⟩⟩:=hh;obtain ⟨f1,f2⟩:=Ke h.marks.layers.length h.marks.layers (bM _);obtain ⟨a,m,b1,b2,b3⟩:=XF acc rej hps (qR h.marks.layers.length h.marks.layers) (h.props,[]) hps fun q hq=>⟨f2 q hq,fun y hy=>⟨Y9 _ _ q hq y hy,l1 y (by rw [← f1];exact List.mem_flatMap.2 ⟨q,hq,hy⟩)⟩⟩;rw [f1] at b2 b3;rw [mZ] at b1;have hsub:=List.filter_sublist (p:=fun x:gq=>!rej x.rev) (l:=h.marks.bE);have hlen:=b2.length_le;rw [bG,bG] at hlen
 have hmk:(if uS acc h then 0 else h.marks.ins)=0∧(if uS acc h then 0 else h.marks.move)=0∨(if uS acc h then 0 else h.marks.ins)=h.marks.ins∧(if uS acc h then 0 else h.marks.move)=h.marks.move:=by
  by_cases hi:uS acc h
  ·exact .inl ⟨au hi,au hi⟩
  exact .inr ⟨ah hi,ah hi⟩
 refine ⟨⟨hel,a,?_,⟨fun x hx=>d1 x (hsub.subset hx),d2.sublist hsub⟩,?_,⟨fun y hy=>?_,?_⟩⟩,fun y hy=>?_⟩
 ·have hd:=hsub.length_le
  unfold mJ
  dsimp only
  rcases hmk with ⟨e1,e2⟩|⟨e1,e2⟩
  ·rw [e1,e2];exact ⟨fun h=>absurd rfl h,by omega,fun h=>absurd rfl h,by omega⟩
  rw [e1,e2];exact ⟨m1,m2,m3,by omega⟩
 ·unfold mJ;dsimp only;rw [b1];omega
 ·unfold mJ at hy;dsimp only at hy;rw [b1] at hy;exact (b3 y hy).1
 ·unfold mJ;dsimp only;rw [b1]
  exact List.pairwise_map.1 ((List.pairwise_map.2 l2).sublist b2)
 unfold mJ at hy;dsimp only at hy;rw [b1] at hy;exact (b3 y hy).2
theorem MS {C:bO} {e:Int} (acc rej:Int→Bool) {h:dM} (hh:iD C e h=0):iD C e (mJ acc rej h)=0:=(Zt C e _).2 (afJ acc rej ((Zt C e h).1 hh)).1
def P8 (l:List dh):Prop:=l.length≤256∧(∀ x∈l,xM x.author=true∧(0≤x.time∧x.time≤1099511627776)∧1≤x.id∧x.id≤1073741824)∧l.Pairwise fun x y=>x.id < y.id
theorem P8.sub {l m:List dh} (h:P8 l) (hs:m.Sublist l):P8 m:=⟨Nat.le_trans hs.length_le h.1,fun x hx=>h.2.1 x (hs.subset hx),h.2.2.sublist hs⟩
def uF (A:List lC):Int:=(A.map fun f=>yx f.items).sum
theorem Vr (a b:List lC):uF (a++b)=uF a+uF b:=by simp [uF]
theorem O5 (x:lC) (b:List lC):uF (x :: b)=yx x.items+uF b:=by simp [uF]
theorem arq (A:List lC):LQ A=uF A:=by
 have key:∀ (A:List lC) (n:Int),A.foldl (fun n f=>n+yx f.items) n=n+uF A:=by
  intro A
  induction A with
  | nil=>intro n;simp [uF]
  | cons x A ih=>intro n;rw [List.foldl_cons,ih,O5];omega
 rw [LQ,key];omega
theorem Ui {C:bO} {body note:Bool} {t:Int} {l:List ay} (h:jy C body note t l):yx l=rY l:=by
 unfold yx
 rw [au]
 unfold xQ
 rw [kJ];intro x hx;have h1:=(FM ((Oq x).1 (Dj.1 h x hx)).1).1;refine jM ?_
 unfold BS Jq;rw [au h1];split <;> rfl
theorem arn (k c i:Int) (tx:ByteArray) (h:dM) (f:List ay) (r:List aW):uI (.mk k c i tx h f r)=iO (.mk k c i tx h f r)+(if k=6 then jK f else if k=7 then nT r else 0):=by rw [uI];rfl
mutual
theorem aru (C:bO) (body note:Bool) (t:Int) (n2:Bool) (t2:Int):∀ x:ay,nP C body note t x→(iO x:Nat)+uF (Dz n2 t2 x)=(uI x:Nat)
 | .mk k c i tx h f r,hx=>by
  have hf:=O6 C false true t true t2 f;have hr:=acK C note (t+1) n2 t2 r;rw [nP] at hx;rw [arn,Dz]
  by_cases h6:k=6
  ·subst h6;have ho:=hx.2.2.2.1 rfl;have:=hf ho;rw [au rfl,au rfl,O5];dsimp only;rw [Ui ho];push_cast;omega
  by_cases h7:k=7
  ·subst h7;have:=hr (hx.2.2.2.2 rfl).2;rw [ah h6,ah h6,au rfl,au rfl];push_cast;omega
  rw [ah h6,ah h6,ah h7,ah h7];simp [uF]
theorem arv (C:bO) (note:Bool) (t:Int) (n2:Bool) (t2:Int):∀ x:aW,tY C note t x→uF (DC n2 t2 x)=(uR x:Nat)
 | .mk h cs,hx=>by
  have hc:=acI C note t n2 t2 cs;rw [tY] at hx;rw [uR,DC];exact hc hx.2
theorem ars (C:bO) (note:Bool) (t:Int) (n2:Bool) (t2:Int):∀ x:aX,tX C note t x→uF (Dy n2 t2 x)=(uC x:Nat)
 | .mk i h f,hx=>by
  have hf:=O6 C false note t n2 (t2+1) f;rw [tX] at hx;have:=hf hx.2;rw [uC,Dy,O5];dsimp only;rw [Ui hx.2];omega
theorem O6 (C:bO) (body note:Bool) (t:Int) (n2:Bool) (t2:Int):∀ l:List ay,jy C body note t l→(rY l:Nat)+uF (kN n2 t2 l)=(jK l:Nat)
 | [],_=>by simp [rY,kN,uF,jK]
 | x :: l,h=>by
  rw [jy] at h;have h1:=aru C body note t n2 t2 x h.1;have h2:=O6 C body note t n2 t2 l h.2;rw [rY,kN,jK,Vr];push_cast;omega
theorem acK (C:bO) (note:Bool) (t:Int) (n2:Bool) (t2:Int):∀ l:List aW,mD C note t l→uF (uZ n2 t2 l)=(nT l:Nat)
 | [],_=>by simp [uZ,uF,nT]
 | x :: l,h=>by
  rw [mD] at h;have h1:=arv C note t n2 t2 x h.1;have h2:=acK C note t n2 t2 l h.2;rw [uZ,nT,Vr];push_cast;omega
theorem acI (C:bO) (note:Bool) (t:Int) (n2:Bool) (t2:Int):∀ l:List aX,ny C note t l→uF (wF n2 t2 l)=(oJ l:Nat)
 | [],_=>by simp [wF,uF,oJ]
 | x :: l,h=>by
  rw [ny] at h;have h1:=ars C note t n2 t2 x h.1;have h2:=acI C note t n2 t2 l h.2;rw [wF,oJ,Vr];push_cast;omega
end
theorem acJ {C:bO} {body note:Bool} {t:Int} {l:List ay} (h:jy C body note t l):LQ (Bj l)=(jK l:Nat):=by
 have:=O6 C body note t false 0 l h;rw [arq,Bj,O5];dsimp only;rw [Ui h];exact this
theorem anw {d:jG} (h:jN d=0):jN (BG d)=0∧LQ (Bj (og d.flow))=LQ (Bj d.flow):=by
 obtain ⟨h1,h2,h3,h4,h5⟩:=(MK d).1 h;obtain ⟨e1,e2⟩:=amw h3;exact ⟨(MK (BG d)).2 ⟨h1,h2,abh h3,by show jW [] [] (jg (og d.flow));rw [e1];exact h4,by show jK (og d.flow)≤_;rw [e2];exact h5⟩,by rw [acJ (abh h3),acJ h3,e2]⟩
mutual
theorem anG (C:bO) (body note:Bool) (t:Int):∀ x:ay,nP C body note t x→IZ x
 | .mk k c i tx h f r,hx=>by
  have hf:=Oj C false true t f;have hr:=aaZ C note (t+1) r;rw [nP] at hx;obtain ⟨-,-,Z9,Zu⟩:=FM hx.1;dsimp only [ay.kind,ay.rows,ay.flow] at Z9 Zu;rw [IZ];refine ⟨?_,?_⟩
  ·by_cases h6:k=6
   ·exact hf (hx.2.2.2.1 h6)
   rw [Zu h6,wz];trivial
  by_cases h7:k=7
  ·exact hr (hx.2.2.2.2 h7).2
  rw [Z9 h7,Di];trivial
theorem anH (C:bO) (note:Bool) (t:Int):∀ x:aW,tY C note t x→EG x
 | .mk h cs,hx=>by
  have hc:=aaY C note t cs;rw [tY] at hx;rw [EG];refine ⟨fun e=>?_,hc hx.2⟩;have z:=mg hx.1 (dw (decide ((cs.length:Int)=0)) 11) (by simp);rw [yL (by decide),e] at z
  simp at z
theorem anF (C:bO) (note:Bool) (t:Int):∀ x:aX,tX C note t x→ED x
 | .mk i h f,hx=>by
  have hf:=Oj C false note t f;rw [tX] at hx;rw [ED];exact hf hx.2
theorem Oj (C:bO) (body note:Bool) (t:Int):∀ l:List ay,jy C body note t l→wz l
 | [],_=>by rw [wz];trivial
 | x :: l,h=>by
  rw [jy] at h;rw [wz];exact ⟨anG C body note t x h.1,Oj C body note t l h.2⟩
theorem aaZ (C:bO) (note:Bool) (t:Int):∀ l:List aW,mD C note t l→Di l
 | [],_=>by rw [Di];trivial
 | x :: l,h=>by
  rw [mD] at h;rw [Di];exact ⟨anH C note t x h.1,aaZ C note t l h.2⟩
theorem aaY (C:bO) (note:Bool) (t:Int):∀ l:List aX,ny C note t l→EF l
 | [],_=>by rw [EF];trivial
 | x :: l,h=>by
  rw [ny] at h;rw [EF];exact ⟨anF C note t x h.1,aaY C note t l h.2⟩
end
theorem anx {d:jG} (hz:Cb d) (h:jN d=0):wz d.flow∧bK (og d.flow)≤1073741824∧(∀ k∈uY (BG d),-9223372036854775808≤k∧k < 9223372036854775808)∧(uY (BG d)).length≤4294967296:=by
 have h0:=(anw h).1;refine ⟨Oj _ _ _ _ _ ((MK d).1 h).2.2.1,Nat.le_trans (asr _) hz.fl,fun q hq=>by have:=arJ h0 hq;omega,?_⟩;exact Nat.le_trans (arI h0) hz.rn
section
theorem RB {k c i:Int} {tx:ByteArray} {h h':dM} {f f':List ay} {r r':List aW} (hx:kD (.mk k c i tx h f r)=0) (hf:k≠6→f'=f) (hr:k≠7→r'=r):kD (.mk k c i tx h' f' r')=0:=by
 have e:uN (.mk k c i tx h' f' r')=uN (.mk k c i tx h f r):=by
  rw [sG]
  simp only [uN,Bool.or_eq_true,oN,mH]
  have c1:wP (.mk k c i tx h' f' r')=wP (.mk k c i tx h f r):=rfl;have c2:xw (.mk k c i tx h' f' r')=xw (.mk k c i tx h f r):=rfl;have c3:zy (.mk k c i tx h' f' r')=zy (.mk k c i tx h f r):=rfl;rw [c1,c2,c3]
  show (((((_∧c≠0)∨(_∧i≠0))∨(_∧(!qN tx)=true))∨(k≠6∧0 < (f'.length:Int)))∨(k≠7∧0 < (r'.length:Int)))↔(((((_∧c≠0)∨(_∧i≠0))∨(_∧(!qN tx)=true))∨(k≠6∧0 < (f.length:Int)))∨(k≠7∧0 < (r.length:Int)))
  by_cases h6:k=6
  ·subst h6;rw [hr (by decide)];simp
  rw [hf h6]
  by_cases h7:k=7
  ·subst h7;simp
  rw [hr h7]
 have e2:codeOk (.mk k c i tx h' f' r')=codeOk (.mk k c i tx h f r):=rfl;have e3:zq (.mk k c i tx h' f' r')=zq (.mk k c i tx h f r):=rfl
 unfold kD at hx ⊢
 rw [e,e2,e3];exact hx
theorem IW (k c i:Int) (tx:ByteArray) (h:dM) (f:List ay) (r:List aW):qD (.mk k c i tx h f r)=(if k=6∨k=7 then [i] else [])++(if k=6 then jg f else if k=7 then mP r else []):=by
 rw [qD]
 by_cases h6:k=6
 ·rw [au h6,au h6,ah (show ¬ k=7 by omega),jf]
 rw [ah h6,ah h6,mZ]
theorem aan:∀ a b:List aW,mP (a++b)=mP a++mP b
 | [],b=>by simp [mP]
 | x :: a,b=>by simp [mP,aan a b]
theorem aam:∀ a b:List aX,nO (a++b)=nO a++nO b
 | [],b=>by simp [nO]
 | x :: a,b=>by simp [nO,aam a b]
theorem acG:∀ a b:List aW,nT (a++b)=nT a+nT b
 | [],b=>by simp [nT]
 | x :: a,b=>by simp [nT,acG a b];omega
theorem acF:∀ a b:List aX,oJ (a++b)=oJ a+oJ b
 | [],b=>by simp [oJ]
 | x :: a,b=>by simp [oJ,acF a b];omega
theorem abB {C:bO} {h:dM} {n:Nat}:Dn C h n=0↔iD C 9 h=0∧n≠0∧n≤32:=by
 constructor
 ·intro h;have z:=mg h;have z2:=z (dw (decide ((n:Int)=0)) 11) (by simp);have z3:=z (dw (decide (32 < (n:Int))) 9) (by simp);rw [yL (by decide),ni] at z2 z3;exact ⟨z _ gJ,by omega,by omega⟩
 rintro ⟨h1,h2,h3⟩;refine Ng fun x hx=>?_
 simp only [jS,List.not_mem_nil,or_false] at hx
 rcases hx with rfl|rfl|rfl
 ·exact h1
 ·rw [yL (by decide),ni];omega
 rw [yL (by decide),ni];omega
variable {acc rej:Int→Bool}
mutual
theorem apb (C:bO) (body note:Bool) (t:Int):∀ x:ay,nP C body note t x→jy C body note t (xB acc rej x)∧(jg (xB acc rej x)).Sublist (qD x)∧jK (xB acc rej x)≤uI x
 | .mk k c i tx h f r,hx=>by
  have hf:=OC C false true t f;have hr:=abA C note (t+1) r;rw [nP] at hx;obtain ⟨h1,h2,h3,h4,h5⟩:=hx;have hd:=MS acc rej h3;have nil:jy C body note t []∧(jg []).Sublist (qD (.mk k c i tx h f r))∧jK []≤uI (.mk k c i tx h f r):=⟨by rw [jy];trivial,by rw [jg];exact List.nil_sublist _,by rw [jK];exact gW _⟩;have one:∀ y:ay,nP C body note t y→(qD y).Sublist (qD (.mk k c i tx h f r))→uI y≤uI (.mk k c i tx h f r)→jy C body note t [y]∧(jg [y]).Sublist (qD (.mk k c i tx h f r))∧jK [y]≤uI (.mk k c i tx h f r):=fun y a b c=>⟨by rw [jy,jy];exact ⟨a,aC⟩,by rw [jg,jg,jf];exact b,by rw [jK,jK];exact c⟩;rw [xB]
  split
  ·exact nil
  split
  ·rename_i h6
   obtain ⟨a1,a2,a3⟩:=hf (h4 h6);refine one _ ?_ ?_ ?_
   ·rw [nP];exact ⟨RB h1 (fun h=>absurd h6 h) fun _=>rfl,h2,hd,fun _=>a1,fun h=>absurd h (by omega)⟩
   ·rw [IW,IW];rw [au h6,au h6];exact (gT _).append a2
   rw [uI,uI,au h6,au h6];omega
  split
  ·rename_i h6 h7
   split
   ·exact nil
   rename_i hn
   obtain ⟨h5,h8⟩:=h5 h7;obtain ⟨a1,a2,a3⟩:=hr h8;have hl:=UO (acc:=acc) (rej:=rej) r;refine one _ ?_ ?_ ?_
   ·rw [nP];exact ⟨RB h1 (fun _=>rfl) fun h=>absurd h7 h,h2,hd,fun h=>absurd h h6,fun _=>⟨⟨hn,by omega⟩,a1⟩⟩
   ·rw [IW,IW];rw [ah h6,ah h6,au h7,au h7];exact (gT _).append a2
   rw [uI,uI,ah h6,ah h6,au h7,au h7];omega
  rename_i h6 h7
  refine one _ ?_ ?_ ?_
  ·rw [nP];exact ⟨RB h1 (fun _=>rfl) fun _=>rfl,h2,hd,fun h=>absurd h h6,fun h=>absurd h h7⟩
  ·rw [IW,IW];exact gT _
  rw [uI,uI];exact bM _
theorem apc (C:bO) (note:Bool) (t:Int):∀ x:aW,tY C note t x→mD C note t (xC acc rej x)∧(mP (xC acc rej x)).Sublist (uQ x)∧nT (xC acc rej x)≤uR x
 | .mk h cs,hx=>by
  have hc:=abz C note t cs;rw [tY] at hx;obtain ⟨h1,h2⟩:=hx;obtain ⟨a1,a2,a3⟩:=hc h2;have hl:=UN (acc:=acc) (rej:=rej) cs;have nil:mD C note t []∧(mP []).Sublist (uQ (.mk h cs))∧nT []≤uR (.mk h cs):=⟨by rw [mD];trivial,by rw [mP];exact List.nil_sublist _,by rw [nT];exact gW _⟩;rw [xC]
  split
  ·exact nil
  split
  ·exact nil
  rename_i hn
  rw [mD,mD,mP,mP,nT,nT,tY,uQ,uQ,uR,uR,jf];refine ⟨⟨⟨?_,a1⟩,aC⟩,a2,a3⟩;obtain ⟨z1,z2,z3⟩:=abB.1 h1;exact abB.2 ⟨MS acc rej z1,hn,by omega⟩
theorem apa (C:bO) (note:Bool) (t:Int):∀ x:aX,tX C note t x→ny C note t (yE acc rej x)∧(nO (yE acc rej x)).Sublist (vY x)∧oJ (yE acc rej x)≤uC x
 | .mk i h f,hx=>by
  have hf:=OC C false note t f;rw [tX] at hx;obtain ⟨h1,h2⟩:=hx;obtain ⟨a1,a2,a3⟩:=hf h2;rw [yE]
  split
  ·exact ⟨by rw [ny];trivial,by rw [nO];exact List.nil_sublist _,by rw [oJ];exact gW _⟩
  rw [ny,ny,nO,nO,oJ,oJ,tX,vY,vY,uC,uC,jf];exact ⟨⟨⟨MS acc rej h1,a1⟩,aC⟩,(gT [i]).append a2,a3⟩
theorem OC (C:bO) (body note:Bool) (t:Int):∀ l:List ay,jy C body note t l→jy C body note t (jh acc rej l)∧(jg (jh acc rej l)).Sublist (jg l)∧jK (jh acc rej l)≤jK l
 | [],_=>by rw [jh];exact ⟨by rw [jy];trivial,gT _,bM _⟩
 | x :: l,h=>by
  rw [jy] at h;obtain ⟨a1,a2,a3⟩:=apb C body note t x h.1;obtain ⟨b1,b2,b3⟩:=OC C body note t l h.2;rw [jh,KX,LJ,jg,jK];exact ⟨Dj.2 fun y hy=>(nH.1 hy).elim (Dj.1 a1 y) (Dj.1 b1 y),a2.append b2,by omega⟩
theorem abA (C:bO) (note:Bool) (t:Int):∀ l:List aW,mD C note t l→mD C note t (lH acc rej l)∧(mP (lH acc rej l)).Sublist (mP l)∧nT (lH acc rej l)≤nT l
 | [],_=>by rw [lH];exact ⟨by rw [mD];trivial,gT _,bM _⟩
 | x :: l,h=>by
  rw [mD] at h;obtain ⟨a1,a2,a3⟩:=apc C note t x h.1;obtain ⟨b1,b2,b3⟩:=abA C note t l h.2;rw [lH,aan,acG,mP,nT];exact ⟨Ot.2 fun y hy=>(nH.1 hy).elim (Ot.1 a1 y) (Ot.1 b1 y),a2.append b2,by omega⟩
theorem abz (C:bO) (note:Bool) (t:Int):∀ l:List aX,ny C note t l→ny C note t (kF acc rej l)∧(nO (kF acc rej l)).Sublist (nO l)∧oJ (kF acc rej l)≤oJ l
 | [],_=>by rw [kF];exact ⟨by rw [ny];trivial,gT _,bM _⟩
 | x :: l,h=>by
  rw [ny] at h;obtain ⟨a1,a2,a3⟩:=apa C note t x h.1;obtain ⟨b1,b2,b3⟩:=abz C note t l h.2;rw [kF,aam,acF,nO,oJ];exact ⟨Oo.2 fun y hy=>(nH.1 hy).elim (Oo.1 a1 y) (Oo.1 b1 y),a2.append b2,by omega⟩
end
def yF (acc rej:Int→Bool) (d:jG):jG:=⟨jh acc rej d.flow,fu acc rej d.fin,d.revs,d.lI⟩
theorem apg {d:jG} (h:jN d=0):jN (yF acc rej d)=0:=by
 rw [MK] at h ⊢;obtain ⟨h1,⟨h2,h3⟩,h4,h5,h6⟩:=h;obtain ⟨a1,a2,a3⟩:=OC (acc:=acc) (rej:=rej) _ true false 0 d.flow h4
 unfold sO at h3
 rw [ni] at h3;have hd:d.fin.marks.bE=[]:=List.eq_nil_of_length_eq_zero (by omega)
 have hg:¬ sI acc rej d.fin:=fun h=>h.elim (fun h=>h3 (.inl (.inl h.1))) fun ⟨x,hx,_⟩=>by rw [hd] at hx;cases hx
 have ha:fu acc rej d.fin=mJ acc rej d.fin:=ah hg;refine ⟨h1,⟨?_,?_⟩,a1,h5.sub a2,by show jK (jh acc rej d.flow)≤_;omega⟩
 ·show iD d.oO 3 (fu acc rej d.fin)=0
  rw [ha];exact MS acc rej h2
 show sO (fu acc rej d.fin).marks=false
 rw [ha]
 unfold sO mJ
 rw [ni];dsimp only;rw [hd];rintro ((h|h)|h)
 ·split at h
  ·exact h rfl
  exact h3 (.inl (.inl h))
 ·split at h
  ·exact h rfl
  exact h3 (.inl (.inr h))
 simp at h
structure EW (n:Nat) (d:jG):Prop where
 z:Cb d
 fl:bK d.flow≤n
 hd:lW d.fin≤n
theorem aph {n:Nat} {d:jG} (h:EW n d) (hn:2*n≤1073741824) (hn0:16≤n):EW (2*n) (yF acc rej d):=by
 have h1:=OG (acc:=acc) (rej:=rej) d.flow
 have h2:lW (fu acc rej d.fin)≤2*n:=by
  unfold fu
  split
  ·show lW BZ≤_
   simp [ET,BZ,dU];try omega
  have:=MU (acc:=acc) (rej:=rej) d.fin;have:=h.hd;omega
 have h3:=h.fl;refine ⟨⟨by show bK (jh acc rej d.flow)≤_;omega,Nat.le_trans h2 (by omega),h.z.rn,h.z.rt,h.z.sn,h.z.st⟩,by show bK (jh acc rej d.flow)≤_;omega,h2⟩
end
theorem Yr:∀ args w,(callFunc 96 args).run prog w=.ok (.enter 96 args) w:=enters func96 rfl (by kernel_rfl)
theorem ajj:dH prog 43 0 0:=⟨by kernel_rfl⟩
theorem ajk:dH prog 43 1 1:=⟨by kernel_rfl⟩
theorem aiG:∀ args w,(callFunc 97 args).run prog w=.ok (.enter 97 args) w:=enters func97 rfl (by kernel_rfl)
theorem aip:∀ args w,(callFunc 46 args).run prog w=.ok (.enter 46 args) w:=enters func46 rfl (by kernel_rfl)
theorem aiH:∀ args w,(callFunc 99 args).run prog w=.ok (.enter 99 args) w:=enters func99 rfl (by kernel_rfl)
theorem aiq:∀ args w,(callFunc 48 args).run prog w=.ok (.enter 48 args) w:=enters func48 rfl (by kernel_rfl)
theorem pE.mk_ {acc rej:Int→Bool} {h:dM} {G:GH} {p d l:aj} (hh:jd G (fu acc rej h) p d l):pE acc rej h (.tuple #[.agg #[p,vi (fu acc rej h).marks.ins,vi (fu acc rej h).marks.move,d,l],.bool (!decide (sI acc rej h))]) G:=by
 unfold pE
 by_cases hg:sI acc rej h
 ·have e:fu acc rej h=BZ:=au hg;rw [au hg,jM hg];rw [e] at hh ⊢;exact ⟨p,d,l,rfl,hh⟩
 have e:fu acc rej h=mJ acc rej h:=ah hg;rw [ah hg,jY hg];rw [e] at hh ⊢;exact ⟨p,d,l,rfl,hh⟩
theorem arQ (G:GH):DZ (.func (.func 97) #[] #[]) G (fun _=>false) fun _=>true:=by
 intro G1 w0 hm hG r;refine jI (caps:=[]) aiG ?_;refine eN [(0,_)] func97 rfl ntmps97 rfl rfl hG ?_;intro a H;refine kP H (SR fun _ K1=>Ra rfl (ak K1 rfl (SR fun _ K2=>Ra rfl (ak K2 rfl ?_))));clear H K1 K2;intro a H;refine bW ?_;refine (eY H results97 (.cons (aT H rfl) (.cons (aT H rfl) .nil)) ?_).1;exact H.rt rfl
theorem aps (G:GH):DW (.func (.func 46) #[] #[]) G (fun _=>false) fun _=>true:=by
 intro G1 w0 hm hG h p d l hh hz;refine jI (caps:=[]) aip ?_;obtain ⟨pA,pn,pc,rfl⟩:=hh.props.form;obtain ⟨dA,dn,dc,rfl⟩:=hh.bE.form;obtain ⟨lA,ln,lc,rfl⟩:=hh.layers.form;refine eN [(0,_)] func46 rfl ntmps46 rfl rfl hG ?_;intro a H;refine cu (fun _ K1=>?_);refine dQ (cs:=[_,_,_,_,_]) H wn rfl rfl rfl ?_;clear H;intro b1 a w hb1 H;refine dS eu H wn rfl ?_;clear H;intro b2 a w hb2 H;refine kH H (ak K1 rfl (SR fun _ K2=>?_));clear H K1;intro a H;refine bL eu (cs:=[_,_,_,_,_]) H wn rfl rfl (H.hp.cO 1 rfl rfl) rfl ?_;clear H;intro a H;refine s_call Yr H wn rfl (aaP _ _ H.ro _ _ _ (arQ _) rfl h _ _ _ hh hz) rfl ?_;clear H;rintro v5 G5 a w hd5 yh H;obtain ⟨q1,q2,q3,q4,q5,q6,q7,q8,q9,rfl,sM⟩:=hd5.ans;(iterate 2 refine lq H wn rfl rfl rfl ?_;clear H;intro a H);refine bD eu 0 (vs:=[_,_,_,_,_]) _ H wn rfl rfl rfl rfl rfl rfl rfl rfl ?_;clear H;intro w H;dsimp only [List.set,setRow] at H;refine kH H (ak K2 rfl ?_);clear H K2;intro a H;refine bW ?_;refine (eY H results46 (.cons (nQ eu (cs:=[_,_,_,_,_]) H rfl rfl (H.hp.cO 0 rfl rfl)) (.cons (aT H rfl) .nil)) ?_).1;exact H.rt (pE.mk_ sM)
theorem arP (G:GH):DZ (.func (.func 99) #[] #[]) G (fun _=>true) fun _=>false:=by
 intro G1 w0 hm hG r;refine jI (caps:=[]) aiH ?_;refine eN [(0,_)] func99 rfl ntmps99 rfl rfl hG ?_;intro a H;refine kP H (SR fun _ K1=>Ra rfl (ak K1 rfl (SR fun _ K2=>Ra rfl (ak K2 rfl ?_))));clear H K1 K2;intro a H;refine bW ?_;refine (eY H results99 (.cons (aT H rfl) (.cons (aT H rfl) .nil)) ?_).1;exact H.rt rfl
theorem apr (G:GH):DW (.func (.func 48) #[] #[]) G (fun _=>true) fun _=>false:=by
 intro G1 w0 hm hG h p d l hh hz;refine jI (caps:=[]) aiq ?_;obtain ⟨pA,pn,pc,rfl⟩:=hh.props.form;obtain ⟨dA,dn,dc,rfl⟩:=hh.bE.form;obtain ⟨lA,ln,lc,rfl⟩:=hh.layers.form;refine eN [(0,_)] func48 rfl ntmps48 rfl rfl hG ?_;intro a H;refine cu (fun _ K1=>?_);refine dQ (cs:=[_,_,_,_,_]) H wn rfl rfl rfl ?_;clear H;intro b1 a w hb1 H;refine dS eu H wn rfl ?_;clear H;intro b2 a w hb2 H;refine kH H (ak K1 rfl (SR fun _ K2=>?_));clear H K1;intro a H;refine bL eu (cs:=[_,_,_,_,_]) H wn rfl rfl (H.hp.cO 1 rfl rfl) rfl ?_;clear H;intro a H;refine s_call Yr H wn rfl (aaP _ _ H.ro _ _ _ (arP _) rfl h _ _ _ hh hz) rfl ?_;clear H;rintro v5 G5 a w hd5 yh H;obtain ⟨q1,q2,q3,q4,q5,q6,q7,q8,q9,rfl,sM⟩:=hd5.ans;(iterate 2 refine lq H wn rfl rfl rfl ?_;clear H;intro a H);refine bD eu 0 (vs:=[_,_,_,_,_]) _ H wn rfl rfl rfl rfl rfl rfl rfl rfl ?_;clear H;intro w H;dsimp only [List.set,setRow] at H;refine kH H (ak K2 rfl ?_);clear H K2;intro a H;refine bW ?_;refine (eY H results48 (.cons (nQ eu (cs:=[_,_,_,_,_]) H rfl rfl (H.hp.cO 0 rfl rfl)) (.cons (aT H rfl) .nil)) ?_).1;exact H.rt (pE.mk_ sM)

theorem ahe:∀ args w,(callFunc 17 args).run prog w=.ok (.enter 17 args) w:=enters func17 rfl (by kernel_rfl)
theorem Ym:∀ args w,(callFunc 47 args).run prog w=.ok (.enter 47 args) w:=enters func47 rfl (by kernel_rfl)
theorem aqX:pK prog 43 [(0,1),(1,1)] [.slice none 0 0,.slice none 0 0]:=⟨by kernel_rfl,by kernel_rfl⟩
set_option maxHeartbeats 2000000 in
theorem ada {acc rej:Int→Bool} (G:GH) (w0:World) (hG:Hold G w0) (fv:aj) (hf:DW fv G acc rej) (D:jV) (d:jG) (hR:oK G D d) (hs:EW 536870912 d) (hc:jN d=0) :
  Calls prog 47 #[fv,D.val] w0 (aZ w0 G fun u G'=>∃ D':jV,u=D'.val∧oK G' D' (nD (yF acc rej d))):=by
 obtain ⟨df,dp,dd,dy,dr,d1,d2,d3,d4,ins,mv⟩:=D;have hok:=apg (acc:=acc) (rej:=rej) hc;have hfl:=hs.fl;have hhd:=hs.hd;have hz2:Cb (yF acc rej d):=(aph hs (by decide) (by decide)).z;obtain ⟨p1,p2,p3,p4⟩:=anx hz2 hok;obtain ⟨hRf,hRh,Zg,Zh,hRr,hRs⟩:=hR;dsimp only at Zg Zh;subst Zg Zh;refine eN [(0,_),(1,_)] func47 rfl ntmps47 rfl rfl hG ?_;intro a H;refine cu (fun _ K1=>?_);refine dQ (cs:=[_,_,_,_,_,_,_,_,_,_,_]) H wn rfl rfl rfl ?_;clear H;intro b3 a w hb3 H;refine dS kG H wn rfl ?_;clear H;intro b4 a w hb4 H;refine K1 _ _ ?_;clear K1;refine kP H (SR fun _ K2=>Rm rfl (aY vG jc 1 rfl rfl ?_));clear H;intro a H;refine s_call Q5 H wn rfl (abF 536870913 (bM _) _ _ H.ro hf d.flow _ hRf (by omega)) rfl ?_;clear H;rintro v8 G8 a w hv8 vV H;obtain ⟨fA,fn,fc,rfl⟩:=hv8.form;refine kH H (Rf vG rfl ?_);clear H;intro a H;refine bD jc 1 (vs:=[_]) _ H wn rfl rfl rfl rfl rfl rfl rfl rfl ?_;clear H;intro w H;dsimp only [List.set,setRow] at H;refine K2 _ _ ?_;clear K2;refine kP H (SR fun _ K3=>Rm rfl (Rf Ed rfl ?_));clear H;intro a H;refine bL eu (cs:=[_,_,_,_,_]) H wn rfl rfl (H.hp.cO 1 rfl rfl) rfl ?_;clear H;intro a H;refine ko H wn rfl rfl (hf _ _ vV H.ro d.fin _ _ _ (hRh.mono vV) (by omega)) rfl ?_;clear H;rintro v14 Aw a w akP yY H;obtain ⟨q1,q2,q3,q4,q5,q6,q7,q8,q9,rfl,alf⟩:=akP.ans;refine kH H (Rm rfl ?_);clear H;intro a H;(iterate 2 refine lq H wn rfl rfl rfl ?_;clear H;intro a H);refine kH H (Rf Ed rfl ?_);clear H;intro a H;refine bD eu 1 (vs:=[_,_,_,_,_]) _ H wn rfl rfl rfl rfl rfl rfl rfl rfl ?_;clear H;intro w H;dsimp only [List.set,setRow] at H;refine K3 _ _ ?_;clear K3;refine cu (fun _ K4=>?_);refine bL kG (cs:=(⟨(fA,fn,fc),(q1,q2,q3),(q4,q5,q6),(q7,q8,q9),dr,d1,d2,d3,d4,(fu acc rej d.fin).marks.ins,(fu acc rej d.fin).marks.move⟩:jV).cells) H wn rfl rfl (H.hp.cO 1 rfl rfl) rfl ?_;clear H;intro a H;refine s_call ahe H wn rfl (afR _ _ H.ro ⟨(fA,fn,fc),(q1,q2,q3),(q4,q5,q6),(q7,q8,q9),dr,d1,d2,d3,d4,(fu acc rej d.fin).marks.ins,(fu acc rej d.fin).marks.move⟩ (yF acc rej d) ⟨hv8.mono yY,alf,rfl,rfl,hRr.mono (fun b o h=>yY b o (vV b o h)),hRs.mono fun b o h=>yY b o (vV b o h)⟩ hz2 p1 p2 p3 p4) rfl ?_;clear H;rintro v19 Hl a w ⟨E,rfl,hE⟩ rW H;refine bD kG 0 (vs:=[_,_,_,_,_,_,_,_,_,_,_]) _ H wn rfl rfl rfl rfl rfl rfl rfl rfl ?_;clear H;intro w H;dsimp only [List.set,setRow] at H;refine K4 _ _ ?_;clear K4;refine bW ?_;refine (leave1 H results47 (.cons (nQ kG (cs:=[_,_,_,_,_,_,_,_,_,_,_]) H rfl rfl (H.hp.cO 0 rfl rfl)) .nil) ?_).1;exact H.rt ⟨E,rfl,hE⟩
theorem aoU (G:GH) (w0:World) (hG:Hold G w0) (D:jV) (d:jG) (hR:oK G D d) (hs:EW 536870912 d) (hc:jN d=0) :
  Calls prog 14 #[D.val] w0 (aZ w0 G fun u G'=>∃ D':jV,u=D'.val∧oK G' D' (nD (yF (fun _=>false) (fun _=>true) d))):=by
 refine eN [(0,_)] func14 rfl ntmps14 rfl rfl hG ?_;intro a H;refine cu (fun _ K1=>?_);refine dQ (cs:=[_,_,_,_,_,_,_,_,_,_,_]) H wn rfl rfl rfl ?_;clear H;intro b1 a w hb1 H;refine dS kG H wn rfl ?_;clear H;intro b2 a w hb2 H;refine K1 _ _ ?_;clear K1;refine cu (fun _ K2=>?_);refine bL kG (cs:=[_,_,_,_,_,_,_,_,_,_,_]) H wn rfl rfl (H.hp.cO 1 rfl rfl) rfl ?_;clear H;intro a H;refine s_call Ym H wn rfl (ada _ _ H.ro _ (aps _) D d hR hs hc) rfl ?_;clear H;rintro v4 G4 a w ⟨E,rfl,hE⟩ Bu H;refine bD kG 0 (vs:=[_,_,_,_,_,_,_,_,_,_,_]) _ H wn rfl rfl rfl rfl rfl rfl rfl rfl ?_;clear H;intro w H;dsimp only [List.set,setRow] at H;refine K2 _ _ ?_;clear K2;refine bW ?_;refine (leave1 H results14 (.cons (nQ kG (cs:=[_,_,_,_,_,_,_,_,_,_,_]) H rfl rfl (H.hp.cO 0 rfl rfl)) .nil) ?_).1;exact H.rt ⟨E,rfl,hE⟩
theorem aoT (G:GH) (w0:World) (hG:Hold G w0) (D:jV) (d:jG) (hR:oK G D d) (hs:EW 536870912 d) (hc:jN d=0) :
  Calls prog 15 #[D.val] w0 (aZ w0 G fun u G'=>∃ D':jV,u=D'.val∧oK G' D' (nD (yF (fun _=>true) (fun _=>false) d))):=by
 refine eN [(0,_)] func15 rfl ntmps15 rfl rfl hG ?_;intro a H;refine cu (fun _ K1=>?_);refine dQ (cs:=[_,_,_,_,_,_,_,_,_,_,_]) H wn rfl rfl rfl ?_;clear H;intro b1 a w hb1 H;refine dS kG H wn rfl ?_;clear H;intro b2 a w hb2 H;refine K1 _ _ ?_;clear K1;refine cu (fun _ K2=>?_);refine bL kG (cs:=[_,_,_,_,_,_,_,_,_,_,_]) H wn rfl rfl (H.hp.cO 1 rfl rfl) rfl ?_;clear H;intro a H;refine s_call Ym H wn rfl (ada _ _ H.ro _ (apr _) D d hR hs hc) rfl ?_;clear H;rintro v4 G4 a w ⟨E,rfl,hE⟩ Bu H;refine bD kG 0 (vs:=[_,_,_,_,_,_,_,_,_,_,_]) _ H wn rfl rfl rfl rfl rfl rfl rfl rfl ?_;clear H;intro w H;dsimp only [List.set,setRow] at H;refine K2 _ _ ?_;clear K2;refine bW ?_;refine (leave1 H results15 (.cons (nQ kG (cs:=[_,_,_,_,_,_,_,_,_,_,_]) H rfl rfl (H.hp.cO 0 rfl rfl)) .nil) ?_).1;exact H.rt ⟨E,rfl,hE⟩
section
section
variable {N:Nat} {D:List Deferred} {w0:World} {F:Nat→Prop} {G0 G G1 G2:GH} {L L1 L2:OL} {T Xs:List (Nat × aj)}
variable {r:Option Nat} {P:Program} {Q:Exit→Act→World→Prop} {l:List Oper} {a a':Act} {w w':World}
end
end
section
theorem pE.mono {acc rej:Int→Bool} {h:dM} {u:aj} {G G':GH} (hm:∀ b o,G b=some o→G' b=some o) (hd:pE acc rej h u G):pE acc rej h u G':=by
 unfold pE at hd ⊢
 split
 ·rename_i hg
  rw [au hg] at hd;obtain ⟨p,d,l,e,hh⟩:=hd;exact ⟨p,d,l,e,hh.mono hm⟩
 rename_i hg
 rw [ah hg] at hd;obtain ⟨p,d,l,e,hh⟩:=hd;exact ⟨p,d,l,e,hh.mono hm⟩
structure Ma (G:GH) (A R:List Int) (va vr:aj):Prop where
 ha:av G (.sl 1 (A.map fun k=>[li k])) va
 hr:av G (.sl 1 (R.map fun k=>[li k])) vr
 la:A.length≤4294967296
 lr:R.length≤4294967296
theorem Ma.mono {G G':GH} {A R:List Int} {va vr:aj} (hm:∀ b o,G b=some o→G' b=some o) (h:Ma G A R va vr):Ma G' A R va vr:=⟨h.ha.mono hm,h.hr.mono hm,h.la,h.lr⟩
variable {A R:List Int} {aA rA:Option Addr} {an ac rn rc:Nat}
end





def Dc (l:List ay):List Int:=l.flatMap fun x=>List.replicate (n1 x) x.kind
theorem Ub:∀ l:List ay,(Dc l).length≤bK l
 | []=>bM _
 | x :: l=>by
  have:=Ub l;have h2:=anu x
  simp only [Dc,List.flatMap_cons,iI,List.length_replicate,bK,fK,dU] at *;omega
theorem amS (l m:List ay):Dc (l++m)=Dc l++Dc m:=by simp [Dc]
theorem amT (x:ay):Dc [x]=List.replicate (n1 x) x.kind:=by simp [Dc]
theorem adn (l m:List ay):bK (l++m)=bK l+bK m:=by simp [bK,Jh]

def ajw (t:Int) (a:Nat × ay):Bool:=decide ((a.1:Int)+iO a.2≤t)
def lA (t:Int) (A:List (Nat × ay)):List ay:=(A.filter (ajw t)).map (·.2)
def WH (l:List ay):Prop:=∀ (k:Nat) (h:k+1 < l.length),¬ (l[k].kind=1∧l[k+1].kind=1∧l[k].head=l[k+1].head)
theorem WH.one {l:List ay} (h:l.length≤1):WH l:=fun k hk=>by omega


theorem VB:∀ {m l:List ay},m.Sublist l→bK m≤bK l
 | _,_,.slnil=>bM _
 | _,_,.cons a h=>by have:=VB h;simp only [bK,fK,dU] at *;omega
 | _,_,.cons_cons a h=>by have:=VB h;simp only [bK,fK,dU] at *;omega
theorem Q0:∀ args w,(callFunc 95 args).run prog w=.ok (.enter 95 args) w:=enters func95 rfl (by kernel_rfl)
theorem ahz:∀ args w,(callFunc 21 args).run prog w=.ok (.enter 21 args) w:=enters func21 rfl (by kernel_rfl)
abbrev Cm (b:Nat) (n:Int):Nat × Obj:=(b,.cells #[vi n] 3 (0,0))
def SmQ (bl:Nat) (left:Int) (z:Nat) (u:aj) (_:GH) (L':OL):Prop:=∃ b lf,u=.bool b∧L'=[Cm bl lf]∧left - (z:Int)≤lf∧lf≤left
def P9 (n:Nat):Prop:=∀ (G:GH) (w0:World) (l:List ay) (v:aj) (IY left:Int) (bl:Nat),gD G [Cm bl left] w0→av G (.sl 11 (l.map ay.dat)) v→bK l < n→0≤IY→IY≤1000→left≤1000→-1000000000000≤left - (bK l:Int) →
 Calls prog 95 #[v,vi IY,(aK bl 0)] w0 (fV w0 G [Cm bl left] (SmQ bl left (bK l)))
theorem adp (l m:List aW):gZ (l++m)=gZ l+gZ m:=by simp [gZ,Jh]
theorem adj (l m:List aX):iP (l++m)=iP l+iP m:=by simp [iP,Jh]
theorem asi {l:List ay} {k:Nat} (h:k < l.length):bK (l.take (k+1))=bK (l.take k)+(1+bX l[k].dat):=by rw [iU h,adn];simp [bK,dU]
theorem asj {l:List aW} {k:Nat} (h:k < l.length):gZ (l.take (k+1))=gZ (l.take k)+(1+bX l[k].dat):=by rw [iU h,adp];simp [gZ,dU]
theorem ash {l:List aX} {k:Nat} (h:k < l.length):iP (l.take (k+1))=iP (l.take k)+(1+bX l[k].dat):=by rw [iU h,adj];simp [iP,dU]
theorem ado (l:List ay) (k:Nat):bK (l.take k)≤bK l:=VB (List.take_sublist k l)
theorem adr (l:List aW) (k:Nat):gZ (l.take k)≤gZ l:=by
 have:=adp (l.take k) (l.drop k);rw [List.take_append_drop] at this;omega
theorem adl (l:List aX) (k:Nat):iP (l.take k)≤iP l:=by
 have:=adj (l.take k) (l.drop k);rw [List.take_append_drop] at this;omega
set_option maxHeartbeats 4000000 in
theorem aqK {n:Nat} (ih:P9 n) (hn:n≤4294967296):P9 (n+1):=by
 intro G w0 l v IY left bl hO hv hz hl0 hl1 hf1 hf0;obtain ⟨A,c,rfl,hc1,hc2,hg⟩:=hv.slice;rw [bG] at *;have hll:=DI l;refine iX (N:=133) (T:=[(0,_),(1,_),(2,_)]) func95 rfl ntmps95 rfl rfl hO ?_;intro a H;refine kP H (SR fun _ K1=>ak K1 rfl (SQ fun _ K2=>SR fun _ K3=>ak K3 rfl (SB ?_)));clear H K1 K3;intro a H;skip;refine eU (ι:=Nat × Int × GH) (Tc:=[(0,_),(1,_),(2,_)]) (Lc:=[]) (fun gh=>[(7,vi gh.1)]) (fun gh=>[Cm bl gh.2.1]) (fun gh=>gh.2.2) (fun gh=>gh.1≤l.length∧left - (bK (l.take gh.1):Int)≤gh.2.1∧gh.2.1≤left∧(∀ b o,G b=some o→gh.2.2 b=some o)) (fun gh=>l.length - gh.1) ((0,left,G)) (by exact (H).sub ⟨rfl,rfl,rfl,rfl,aC⟩) ?_ ?_
 ·exact ⟨by omega,by show left - ((0:Nat):Int)≤left;omega,Int.le_refl _,fun _ _ h=>h⟩
 clear H;rintro ⟨k,lf,g⟩ a w hI H;dsimp only at hI H;obtain ⟨hk,hlo,hhi,hgm⟩:=hI;have hzk:=ado l k;dsimp only [lca,bJ] at H;refine kP H (SQ fun _ K4=>SR fun _ K5=>Rm rfl (Rm rfl (Rl iF rfl (Rc rfl (Kz K5 (Cd rfl ?_ ?_)))))) <;> clear H K5
 ·intro gG a H
  try have rz:=dT gG
  have hk2:k < l.length:=by omega
  obtain ⟨b,o,pA,pn,pc,dA,dn,dc,yA,yn,yc,fA,fn,fc,rA,rn,rc,rfl,hrow,hhd,hfl,hrw⟩:=Bh hk2 hg;have hrn:=hrw.len;rw [bG] at hrn;subst hrn;have r3:aI g b (o+k*11+3)=some (.string l[k].text):=aJ hgm (hrow 3 _ rfl);have r4:aI g b (o+k*11+4+0)=some (.slice pA pn pc):=aJ hgm (hrow 4 _ rfl);have r9:aI g b (o+k*11+9)=some (.slice fA fn fc):=aJ hgm (hrow 9 _ rfl);have UJ:aI g b (o+k*11+10)=some (.slice rA l[k].rows.length rc):=aJ hgm (hrow 10 _ rfl);have hzi:=xJ l[k];have hzs:=asi hk2;have TQ:=ado l (k+1);refine kP H (Kc K4 (SQ fun _ K6=>SB (SR fun _ K7=>Rm rfl (Rk rfl (Ro aH 0 rfl (Rs rfl (Rk rfl ?_)))))));clear H K4;intro a H;refine bD aH 0 (vs:=[_]) _ H wn rfl rfl rfl rfl rfl rfl rfl rfl ?_;clear H;intro w H;dsimp only [List.set,setRow] at H;refine K7 _ _ ?_;clear K7;refine kP H (SQ fun _ K8=>SR fun _ K9=>Rm rfl (Rk rfl (Ro aH 0 rfl (Rc rfl (Rm rfl (Sp 25 rfl ?_ ?_)))))) <;> clear H
  ·intro gY a H
   try have p25:=dT gY
   refine kH H (aQ gY rfl (Pt gY rfl (Rm rfl (bF rfl rfl (aQ rfl rfl (aQ rfl rfl (Pt rfl rfl (Rm rfl (bF rfl rfl (bF rfl rfl (aQ rfl rfl (Pt rfl rfl (Rm rfl (bF rfl rfl (aQ rfl rfl (aQ rfl rfl (Pt rfl rfl (Rm rfl (bF rfl rfl (bF rfl rfl (aQ rfl rfl (aQ rfl rfl ?_))))))))))))))))))))));clear H;intro a H;exact kH H (Pt rfl rfl (Kz K9 (Ct rfl rfl (SR fun _ aR=>ak aR rfl (LR results95 rfl fun H=>H.hp.dx ⟨_,_,rfl,rfl,by omega,by omega⟩)))))
  intro gY a H
  try have p25:=dF gY
  refine kH H (YM gY rfl (YC gY rfl (Pf gY rfl (Rm rfl (Sp 29 rfl ?_ ?_))))) <;> clear H
  ·intro gN a H
   try have p29:=dT gN
   refine kH H (bF gN rfl (aQ gN rfl (aQ gN rfl (Pt gN rfl (Rm rfl (bF rfl rfl (bF rfl rfl (aQ rfl rfl (Pt rfl rfl (Rm rfl (bF rfl rfl (aQ rfl rfl (aQ rfl rfl (Pt rfl rfl (Rm rfl (bF rfl rfl (bF rfl rfl (aQ rfl rfl (aQ rfl rfl (Pt rfl rfl (Kz K9 ?_)))))))))))))))))))));clear H K9;intro a H;refine Ba H rfl rfl ?_;exact kP H (SR fun _ bQ=>ak bQ rfl (LR results95 rfl fun H=>H.hp.dx ⟨_,_,rfl,rfl,by omega,by omega⟩))
  intro gN a H
  try have p29:=dF gN
  refine kH H (YM gN rfl (YM gN rfl (YI iF fG gN rfl rfl (YF vH gN rfl (YR iN gN rfl (by assumption) ?_)))));clear H;intro a H;refine EK iB H (wg H rfl rfl gN) rfl rfl ?_;clear H;intro a H;refine kH H (YC gN rfl (Pf gN rfl (Rm rfl (Sp 38 rfl ?_ ?_)))) <;> clear H
  ·intro mq a H
   try have p38:=dT mq
   exact kH H (bF mq rfl (bF mq rfl (aQ mq rfl (Pt mq rfl (Rm rfl (bF rfl rfl (aQ rfl rfl (aQ rfl rfl (Pt rfl rfl (Rm rfl (bF rfl rfl (bF rfl rfl (aQ rfl rfl (aQ rfl rfl (Pt rfl rfl (Kz K9 (Ct rfl rfl (SR fun _ bY=>ak bY rfl (LR results95 rfl fun H=>H.hp.dx ⟨_,_,rfl,rfl,by omega,by omega⟩)))))))))))))))))))
  intro mq a H
  try have p38:=dF mq
  refine kH H (YM mq rfl (YM mq rfl (YI iF fG mq rfl rfl (YF vI mq rfl (YF xW mq rfl (YR um mq rfl (by assumption) ?_))))));clear H;intro a H;refine kH H (YL gy mq rfl (YC mq rfl (Pf mq rfl (Rm rfl (Sp 48 rfl ?_ ?_))))) <;> clear H
  ·intro h48 a H
   try have p48:=dT h48
   exact kH H (bF h48 rfl (aQ h48 rfl (aQ h48 rfl (Pt h48 rfl (Rm rfl (bF rfl rfl (bF rfl rfl (aQ rfl rfl (aQ rfl rfl (Pt rfl rfl (Kz K9 (Ct rfl rfl (SR fun _ cZ=>ak cZ rfl (LR results95 rfl fun H=>H.hp.dx ⟨_,_,rfl,rfl,by omega,by omega⟩))))))))))))))
  intro h48 a H
  try have p48:=dF h48
  refine kH H (YM h48 rfl (YM h48 rfl (YI iF fG h48 rfl rfl (YF qP h48 rfl (YR rF h48 rfl (by assumption) ?_)))));clear H;intro a H;refine kH H (YL mX h48 rfl (YC h48 rfl (Pf h48 rfl (Rm rfl (Sp 57 rfl ?_ ?_))))) <;> clear H
  ·intro h57 a H
   try have p57:=dT h57
   exact kH H (bF h57 rfl (bF h57 rfl (aQ h57 rfl (aQ h57 rfl (Pt h57 rfl (Kz K9 (Ct rfl rfl (SR fun _ dG=>ak dG rfl (LR results95 rfl fun H=>H.hp.dx ⟨_,_,rfl,rfl,by omega,by omega⟩)))))))))
  intro h57 a H
  try have p57:=dF h57
  refine kH H (YM h57 rfl (YM h57 rfl (YI iF fG h57 rfl rfl (YF zK h57 rfl (YR jc h57 rfl (by assumption) ?_)))));clear H;intro a H;refine kH H (YM h57 rfl ?_);clear H;intro a H;refine nS _ H (wg H rfl rfl h57) rfl rfl rfl (by omega) (by omega) rfl ?_;clear H;intro a H;refine kH H (YM h57 rfl ?_);clear H;intro a H;refine gH Q0 (Li:=[]) (L:=[Cm bl _]) H (wg H rfl rfl h57) rfl (ih _ _ l[k].flow _ (IY - 1) _ bl (Hp.owns (Li:=[]) H.hp) (hfl.mono hgm) (by omega) (by omega) (by omega) (by omega) (by omega)) rfl ?_;clear H;rintro v66 G66 L66 a w ⟨b66,lf66,rfl,rfl,atq,ato⟩ ZH H;dsimp only [List.nil_append] at H;replace UJ:=aJ ZH UJ;have ale:=fun b o h=>ZH b o (hgm b o h);refine kH H (YN h57 rfl (Pf h57 rfl (Kz K9 (Cd rfl ?_ ?_)))) <;> clear H K9
  ·intro h68 a H
   try have p68:=dT h68
   exact kP H (SR fun _ dZ=>ak dZ rfl (LR results95 rfl fun H=>H.hp.dx ⟨_,_,rfl,rfl,by omega,by omega⟩))
  intro h68 a H
  try have p68:=dF h68
  refine kP H (Kc K8 (SR fun _ eB=>ak eB rfl (SB ?_)));clear H K8 eB;intro a H;skip;refine eU (ι:=Nat × Int × GH) (Tc:=[(0,_),(1,_),(2,_),(7,_)]) (Lc:=[]) (fun gh=>[(8,vi gh.1)]) (fun gh=>[Cm bl gh.2.1]) (fun gh=>gh.2.2) (fun gh=>gh.1≤l[k].rows.length∧lf66 - (gZ (l[k].rows.take gh.1):Int)≤gh.2.1∧gh.2.1≤lf66∧(∀ b o,G b=some o→gh.2.2 b=some o)∧aI gh.2.2 b (o+k*11+10)=some (.slice rA l[k].rows.length rc)) (fun gh=>l[k].rows.length - gh.1) ((0,lf66,G66)) (by exact (H).sub ⟨rfl,rfl,rfl,rfl,rfl,aC⟩) ?_ ?_
  ·exact ⟨by omega,by show lf66 - ((0:Nat):Int)≤lf66;omega,Int.le_refl _,ale,UJ⟩
  clear H;rintro ⟨j,lf2,g2⟩ a w hI H;dsimp only at hI H;obtain ⟨hj,hlo2,hhi2,iM,q10⟩:=hI;have atH:=adr l[k].rows j;dsimp only [lca,bJ] at H;refine kP H (SQ fun _ dW=>SR fun _ fC=>Rm rfl (Rm rfl (Rm rfl (Ri iF fG rfl rfl (Rf qP rfl (Rg rF rfl (by assumption) ?_))))));clear H;intro a H;refine kH H (Rl mX rfl (Rc rfl (Kz fC (Cd rfl ?_ ?_)))) <;> clear H fC
  ·intro Cw a H
   try have UC:=dT Cw
   have hj2:j < l[k].rows.length:=by omega
   obtain ⟨b2,o2,uA,un,uc,eA,en,ec,zA,zn,zc,cA,cn,cc,rfl,hrow2,Ez,hcl⟩:=Le hj2 (hrw.mono iM).at_;have hcn:=hcl.len;rw [bG] at hcn;subst hcn;have t5:aI g2 b2 (o2+j*6+5)=some (.slice cA l[k].rows[j].cells.length cc):=hrow2 5 _ rfl;have atF:=BX l[k].rows[j];have atJ:=asj hj2;have atL:=adr l[k].rows (j+1);refine kP H (Kc dW (SQ fun _ gQ=>SB (SQ fun _ fM=>SR fun _ gV=>Rm rfl (Rm rfl (Ri iF fG rfl rfl (Rf qP rfl (Rg rF rfl (by assumption) ?_)))))));clear H dW;intro a H;refine kH H (Rm rfl (Ri mX jP rfl rfl (Rf vJ rfl (Rg wD rfl (by assumption) ?_))));clear H;intro a H;refine kH H (Rl om rfl (Rc rfl (Kz gV (Cd rfl ?_ ?_)))) <;> clear H gV
   ·intro R3 a H
    try have p89:=dT R3
    exact kP H (SR fun _ jo=>ak jo rfl (LR results95 rfl fun H=>H.hp.dx ⟨_,_,rfl,rfl,by omega,by omega⟩))
   intro R3 a H
   try have p89:=dF R3
   refine kP H (Kc fM (SR fun _ lD=>ak lD rfl (SB ?_)));clear H fM lD;intro a H;skip;refine eU (ι:=Nat × Int × GH) (Tc:=[(0,_),(1,_),(2,_),(7,_),(8,_)]) (Lc:=[]) (fun gh=>[(9,vi gh.1)]) (fun gh=>[Cm bl gh.2.1]) (fun gh=>gh.2.2) (fun gh=>gh.1≤l[k].rows[j].cells.length∧lf2 - (iP (l[k].rows[j].cells.take gh.1):Int)≤gh.2.1∧gh.2.1≤lf2∧(∀ b o,G b=some o→gh.2.2 b=some o)∧aI gh.2.2 b (o+k*11+10)=some (.slice (some ⟨b2,o2,none⟩) l[k].rows.length rc)∧aI gh.2.2 b2 (o2+j*6+5)=some (.slice cA l[k].rows[j].cells.length cc)∧(∀ b o,g2 b=some o→gh.2.2 b=some o)) (fun gh=>l[k].rows[j].cells.length - gh.1) ((0,lf2,g2)) (by exact (H).sub ⟨rfl,rfl,rfl,rfl,rfl,rfl,aC⟩) ?_ ?_
   ·exact ⟨by omega,by show lf2 - ((0:Nat):Int)≤lf2;omega,Int.le_refl _,iM,q10,t5,fun _ _ h=>h⟩
   clear H;rintro ⟨m,lf3,g3⟩ a w hI H;dsimp only at hI H;obtain ⟨hm,hlo3,hhi3,sK,s10,s5,Zy⟩:=hI;have atI:=adl l[k].rows[j].cells m;dsimp only [lca,bJ] at H;refine kP H (SQ fun _ kX=>SR fun _ kC=>Rm rfl (Rm rfl (Rm rfl (Ri iF fG rfl rfl (Rf qP rfl (Rg rF rfl (by assumption) ?_))))));clear H;intro a H;refine kH H (Rm rfl (Ri mX jP rfl rfl (Rf vJ rfl (Rg wD rfl (by assumption) ?_))));clear H;intro a H;refine kH H (Rl om rfl (Rc rfl (Kz kC (Cd rfl ?_ ?_)))) <;> clear H kC
   ·intro RH a H
    try have aoe:=dT RH
    have hm2:m < l[k].rows[j].cells.length:=by omega
    obtain ⟨b3,o3,x1,x2,x3,x4,x5,x6,x7,x8,x9,gA,gn,gc,rfl,hrow3,hch,hcf⟩:=Ib hm2 (hcl.mono Zy).at_;have u6:aI g3 b3 (o3+m*7+6)=some (.slice gA gn gc):=hrow3 6 _ rfl;have atG:=BU l[k].rows[j].cells[m];have atK:=ash hm2;have atM:=adl l[k].rows[j].cells (m+1);refine kP H (Kc kX (SQ fun _ lK=>SB (SR fun _ lM=>Rm rfl (Rk rfl (Ro aH 0 rfl (Rs rfl (Rk rfl ?_)))))));clear H kX;intro a H;refine bD aH 0 (vs:=[_]) _ H wn rfl rfl rfl rfl rfl rfl rfl rfl ?_;clear H;intro w H;dsimp only [List.set,setRow] at H;refine lM _ _ ?_;clear lM;refine kP H (SR fun _ jL=>Rm rfl (Rk rfl (Ro aH 0 rfl (Rc rfl (Rm rfl (Sp 113 rfl ?_ ?_)))))) <;> clear H
    ·intro mh a H
     try have aoh:=dT mh
     exact kH H (bF mh rfl (bF mh rfl (bF mh rfl (bF mh rfl (bF mh rfl (bF mh rfl (Pt mh rfl (Kz jL (Ct rfl rfl (SR fun _ oL=>ak oL rfl (LR results95 rfl fun H=>H.hp.dx ⟨_,_,rfl,rfl,by omega,by omega⟩)))))))))))
    intro mh a H
    try have aoh:=dF mh
    refine kH H (YM mh rfl (YM mh rfl (YI iF fG mh rfl rfl (YF qP mh rfl (YR rF mh rfl (by assumption) ?_)))));clear H;intro a H;refine kH H (YM mh rfl (YI mX jP mh rfl rfl (YF vJ mh rfl (YR wD mh rfl (by assumption) ?_))));clear H;intro a H;refine kH H (YM mh rfl (YI om kI mh rfl rfl (YF FL mh rfl (YR jc mh rfl (by assumption) ?_))));clear H;intro a H;refine kH H (YM mh rfl ?_);clear H;intro a H;refine nS _ H (wg H rfl rfl mh) rfl rfl rfl (by omega) (by omega) rfl ?_;clear H;intro a H;refine kH H (YM mh rfl ?_);clear H;intro a H;refine gH Q0 (Li:=[]) (L:=[Cm bl _]) H (wg H rfl rfl mh) rfl (ih _ _ l[k].rows[j].cells[m].flow _ (IY - 1) _ bl (Hp.owns (Li:=[]) H.hp) hcf (by omega) (by omega) (by omega) (by omega) (by omega)) rfl ?_;clear H;rintro v130 adx asE a w ⟨asJ,amZ,rfl,rfl,atp,atn⟩ ND H;dsimp only [List.nil_append] at H;refine kH H (YN mh rfl (Pf mh rfl (Kz jL (Cd rfl ?_ ?_)))) <;> clear H jL
    ·intro Eh a H
     try have abn:=dT Eh
     exact kP H (SR fun _ pI=>ak pI rfl (LR results95 rfl fun H=>H.hp.dx ⟨_,_,rfl,rfl,by omega,by omega⟩))
    intro Eh a H
    try have abn:=dF Eh
    refine kP H (Kc lK (SC (Rm rfl (Rd rfl (Ra rfl ?_)))));clear H lK;intro a H;refine aD ?_;refine dD ((m+1,amZ,adx)) (by exact (H).sub ⟨rfl,rfl,rfl,rfl,rfl,rfl,aC⟩) ?_
    (try dsimp only);exact ⟨by omega,by omega,by omega,fun b o h=>ND b o (sK b o h),aJ ND s10,aJ ND s5,fun b o h=>ND b o (Zy b o h)⟩
   intro RH a H
   try have aoe:=dF RH
   refine dV ?_;refine gQ _ _ ?_;clear gQ;refine kP H (SC (Rm rfl (Rd rfl (Ra rfl ?_))));clear H;intro a H;refine aD ?_;refine dD ((j+1,lf3,g3)) (by exact (H).sub ⟨rfl,rfl,rfl,rfl,rfl,aC⟩) ?_
   (try dsimp only);exact ⟨by omega,by omega,by omega,sK,s10⟩
  intro Cw a H
  try have UC:=dF Cw
  refine dV ?_;refine K6 _ _ ?_;clear K6;refine kP H (SC (Rm rfl (Rd rfl (Ra rfl ?_))));clear H;intro a H;refine aD ?_;refine dD ((k+1,lf2,g2)) (by exact (H).sub ⟨rfl,rfl,rfl,rfl,aC⟩) ?_
  (try dsimp only);exact ⟨by omega,by omega,by omega,iM⟩
 intro gG a H
 try have rz:=dF gG
 refine dV ?_;refine K2 _ _ ?_;clear K2;exact kP H (SR fun _ qm=>ak qm rfl (LR results95 rfl fun H=>H.hp.dx ⟨_,_,rfl,rfl,by omega,by omega⟩))
theorem abZ:∀ n:Nat,n≤4294967296→P9 n
 | 0,_=>fun _ _ _ _ _ _ _ _ _ hz=>absurd hz (Nat.not_lt_zero _)
 | n+1,h=>aqK (abZ n (by omega)) (by omega)
theorem aqI (G:GH) (w0:World) (hG:Hold G w0) (D:jV) (d:jG) (hR:oK G D d) (hz:Cb d) :
  Calls prog 45 #[D.val] w0 (aZ w0 G fun u G'=>∃ b,u=.bool b∧(b=true→jN d=0)):=by
 have KW:=hz.fl;refine eN [(0,_)] func45 rfl ntmps45 rfl rfl hG ?_;intro a H;refine cu (fun _ K1=>?_);refine dQ (cs:=[_,_,_,_,_,_,_,_,_,_,_]) H wn rfl rfl rfl ?_;clear H;intro b1 a w hb1 H;refine kH H (ak K1 rfl (SQ fun _ K2=>?_));clear H K1;intro a H;obtain ⟨Ga,hma,hb1',H⟩:=H.eH;have hga:=fun j v hj=>vO hb1' 0 D.cells rfl j v hj;have hgs:=fun j v hj=>vO hb1' 7 [cB D.s1,cB D.s2,cB D.s3,cB D.s4] rfl j v hj
 have hgr:aI Ga b1 6=some (cB D.r):=by unfold aI;rw [hb1'];rfl
 have hgf:aI Ga b1 0=some (cB D.f):=by unfold aI;rw [hb1'];rfl
 replace hR:=hR.mono hma;refine pR ?_;refine dS aH H wn rfl ?_;clear H;intro b3 a w hb3 H;refine bD aH 0 (vs:=[_]) _ H wn rfl rfl rfl rfl rfl rfl rfl rfl ?_;clear H;intro w H;dsimp only [List.set,setRow] at H;refine kH H (Kn K2 (SR fun _ K3=>Rf J6 rfl ?_));clear H K2;intro a H;refine bL Ar (cs:=[cB D.s1,cB D.s2,cB D.s3,cB D.s4]) H wn rfl rfl (fun j v hj=>H.hp.aI (hgs j v hj)) rfl ?_;clear H;intro a H;refine dS Ar H wn rfl ?_;clear H;intro b4 a w hb4 H;refine bD Ar 0 (vs:=[_,_,_,_]) _ H wn rfl rfl rfl rfl rfl rfl rfl rfl ?_;clear H;intro w H;dsimp only [List.set,setRow] at H;refine K3 _ _ ?_;clear K3;refine kP H (SR fun _ K4=>aY Rb EP 0 rfl rfl (Rl zw rfl (Rc rfl (Rm rfl (Sp 11 rfl ?_ ?_))))) <;> clear H
 ·intro h11 a H
  try have oD:=dT h11
  refine kH H (YF FH h11 rfl (YO rE 0 h11 rfl (YL lV h11 rfl (YC h11 rfl (Pt h11 rfl (Rm rfl (Sp 17 rfl ?_ ?_))))))) <;> clear H
  ·intro eX a H
   try have nA:=dT eX
   refine kH H (YF FI eX rfl (YO Aq 0 eX rfl (YL xH eX rfl (YC eX rfl (Pt eX rfl (Rm rfl (Sp 23 rfl ?_ ?_))))))) <;> clear H
   ·intro h23 a H
    try have BI:=dT h23
    refine kH H (YF Rh h23 rfl (YO yK 0 h23 rfl (YL wE h23 rfl (YC h23 rfl (Pt h23 rfl (Rm rfl (Sp 29 rfl ?_ ?_))))))) <;> clear H
    ·intro gN a H
     try have p29:=dT gN
     refine kH H (YF Ee gN rfl (YR yJ gN rfl (by assumption) ?_));clear H;intro a H;refine kH H (YL pz gN rfl (YC gN rfl (Pt gN rfl (Rm rfl (Sp 35 rfl ?_ ?_))))) <;> clear H
     ·intro fP a H
      try have p35:=dT fP
      refine kH H (YF vG fP rfl (YR jc fP rfl (by assumption) ?_));clear H;intro a H;refine gH Q0 (Li:=[_]) (L:=[Cm b3 150]) H (wg H rfl rfl fP) rfl (abZ 4294967296 (bM _) _ _ d.flow _ 12 150 b3 (Hp.owns (Li:=[_]) H.hp) hR.fl (by omega) (by decide) (by decide) (by decide) (by omega)) rfl ?_;clear H;rintro v38 PK L38 a w ⟨b38,lf38,rfl,rfl,-,-⟩ IE H;refine kH H (Pt fP rfl (Rm rfl (Sp 40 rfl ?_ ?_))) <;> clear H
      ·intro kE a H
       try have p40:=dT kE
       refine bL kG (cs:=D.cells) H (wg H rfl rfl kE) rfl rfl (fun j v hj=>H.hp.aI (aJ IE (hga j v hj))) rfl ?_;clear H;intro a H;refine s_call ahz H (wg H rfl rfl kE) rfl (aeT _ _ H.ro D d (hR.mono IE) hz) rfl ?_;clear H;rintro v42 Mi a w rfl alq H;exact kH H (YC kE rfl (Pt kE rfl (ak K4 rfl (LR results45 rfl fun H=>H.rt ⟨_,rfl,fun h=>by first|assumption|(simp_all;done)⟩))))
      intro kE a H
      try have p40:=dF kE
      exact kH H (bF kE rfl (Pf kE rfl (ak K4 rfl (LR results45 rfl fun H=>H.rt ⟨_,rfl,fun h=>by first|assumption|(simp_all;done)⟩))))
     intro fP a H
     try have p35:=dF fP
     exact kH H (bF fP rfl (Pf fP rfl (Rm rfl (bF rfl rfl (Pf rfl rfl (ak K4 rfl (LR results45 rfl fun H=>H.rt ⟨_,rfl,fun h=>by first|assumption|(simp_all;done)⟩)))))))
    intro gN a H
    try have p29:=dF gN
    exact kH H (aQ gN rfl (aQ gN rfl (Pf gN rfl (Rm rfl (bF rfl rfl (Pf rfl rfl (Rm rfl (bF rfl rfl (Pf rfl rfl (ak K4 rfl (LR results45 rfl fun H=>H.rt ⟨_,rfl,fun h=>by first|assumption|(simp_all;done)⟩)))))))))))
   intro h23 a H
   try have BI:=dF h23
   exact kH H (aQ h23 rfl (aQ h23 rfl (Pf h23 rfl (Rm rfl (aQ rfl rfl (aQ rfl rfl (Pf rfl rfl (Rm rfl (bF rfl rfl (Pf rfl rfl (Rm rfl (bF rfl rfl (Pf rfl rfl (ak K4 rfl (LR results45 rfl fun H=>H.rt ⟨_,rfl,fun h=>by first|assumption|(simp_all;done)⟩)))))))))))))))
  intro eX a H
  try have nA:=dF eX
  exact kH H (aQ eX rfl (aQ eX rfl (Pf eX rfl (Rm rfl (aQ rfl rfl (aQ rfl rfl (Pf rfl rfl (Rm rfl (aQ rfl rfl (aQ rfl rfl (Pf rfl rfl (Rm rfl (bF rfl rfl (Pf rfl rfl (Rm rfl (bF rfl rfl (Pf rfl rfl (ak K4 rfl (LR results45 rfl fun H=>H.rt ⟨_,rfl,fun h=>by first|assumption|(simp_all;done)⟩)))))))))))))))))))
 intro h11 a H
 try have oD:=dF h11
 exact kH H (aQ h11 rfl (aQ h11 rfl (Pf h11 rfl (Rm rfl (aQ rfl rfl (aQ rfl rfl (Pf rfl rfl (Rm rfl (aQ rfl rfl (aQ rfl rfl (Pf rfl rfl (Rm rfl (aQ rfl rfl (aQ rfl rfl (Pf rfl rfl (Rm rfl (bF rfl rfl (Pf rfl rfl (Rm rfl (bF rfl rfl (Pf rfl rfl (ak K4 rfl (LR results45 rfl fun H=>H.rt ⟨_,rfl,fun h=>by first|assumption|(simp_all;done)⟩)))))))))))))))))))))))
theorem Vb:pK prog 68 [(0,1),(1,1),(2,1),(3,1),(4,5),(9,1),(10,1)] [.int .i64 0,.int .i64 0,.int .i64 0,.string ⟨#[]⟩,.slice none 0 0,.int .i64 0,.int .i64 0,.slice none 0 0,.slice none 0 0,.slice none 0 0,.slice none 0 0]:=⟨by kernel_rfl,by kernel_rfl⟩
theorem aqT:pK prog 159 [(0,1),(1,1)] [.int .i64 0,.int .i64 0]:=⟨by kernel_rfl,by kernel_rfl⟩
theorem aqQ:pK prog 102 [(0,1),(1,1),(2,1)] [.int .i64 0,.string ⟨#[]⟩,.int .i64 0]:=⟨by kernel_rfl,by kernel_rfl⟩
theorem Yl:∀ args w,(callFunc 44 args).run prog w=.ok (.enter 44 args) w:=enters func44 rfl (by kernel_rfl)
theorem agJ:∀ args w,(callFunc 14 args).run prog w=.ok (.enter 14 args) w:=enters func14 rfl (by kernel_rfl)
theorem agP:∀ args w,(callFunc 15 args).run prog w=.ok (.enter 15 args) w:=enters func15 rfl (by kernel_rfl)
theorem aio:∀ args w,(callFunc 45 args).run prog w=.ok (.enter 45 args) w:=enters func45 rfl (by kernel_rfl)
def zB (k:Int) (t:ByteArray) (i:Int) (ds:List gq):ay:=.mk k 0 0 t ⟨[],⟨i,0,ds,[]⟩⟩ [] []
def vE:jG:=⟨[zB 1 ⟨#[97,98]⟩ 0 [],zB 1 ⟨#[99,100]⟩ 3 [],zB 1 ⟨#[101]⟩ 0 [⟨5,0⟩],zB 2 ⟨#[]⟩ 0 []],BZ,[⟨3,⟨#[65,110]⟩,0⟩,⟨5,⟨#[66,111]⟩,0⟩],⟨[],[],[],[]⟩⟩
theorem o24:(nD (yF (fun _=>false) (fun _=>true) vE)).flow.length=2:=by kernel_rfl
theorem anT:((nD (yF (fun _=>false) (fun _=>true) vE)).flow.map ay.text).head?=some ⟨#[97,98,101]⟩:=by kernel_rfl
theorem anS:(nD (yF (fun _=>false) (fun _=>true) vE)).revs.length=0:=by kernel_rfl
theorem f24:(nD (yF (fun _=>true) (fun _=>false) vE)).flow.length=2:=by kernel_rfl
theorem aiV:((nD (yF (fun _=>true) (fun _=>false) vE)).flow.map ay.text).head?=some ⟨#[97,98,99,100]⟩:=by kernel_rfl
theorem aiU:(nD (yF (fun _=>true) (fun _=>false) vE)).revs.length=0:=by kernel_rfl
theorem z24:bK vE.flow≤1000:=by decide
theorem c24:jN vE=0:=by kernel_rfl
theorem s24:EW 536870912 vE:=by
 have h:=z24
 have h0:lW BZ≤1000:=by decide
 refine ⟨⟨by omega,by show lW BZ≤_;omega,by decide,fun x hx=>?_,by decide,⟨fun _ h=>(by cases h),by decide,fun _ h=>(by cases h),by decide,fun _ h=>(by cases h),by decide,fun _ h=>(by cases h),fun _ h=>(by cases h),fun _ h=>(by cases h)⟩⟩,by omega,by show lW BZ≤_;omega⟩
 simp only [vE,jS,List.not_mem_nil,or_false] at hx
 rcases hx with rfl|rfl <;> decide
theorem alb {F:List ay} {t:ByteArray} (h:(F.map ay.text).head?=some t) (h0:0 < F.length):F[0].text=t:=by
 cases F with
 | nil=>exact absurd h0 (by decide)
 | cons x F=>simpa using h
set_option maxHeartbeats 2000000 in
theorem Yv (G:GH) (w0:World) (hG:Hold G w0) :
  Calls prog 44 #[] w0 (aZ w0 G fun u G'=>∃ D:jV,u=D.val∧oK G' D vE):=by
 refine eN [] func44 rfl ntmps44 rfl rfl hG ?_;intro a H;refine cu (fun _ K1=>?_);refine dS kG H wn rfl ?_;clear H;intro b0 a w hb0 H;refine K1 _ _ ?_;clear K1;refine cu (fun _ K2=>?_);refine jm Vb [_,_,_,_,_,_,_,_,_,_,_] H wn rfl rfl rfl rfl ?_;clear H;intro a H;refine jm Va [_,_,_,_] H wn rfl rfl rfl rfl ?_;clear H;intro a H;refine jm Jg [_,_,_,_,_] H wn rfl rfl rfl rfl ?_;clear H;intro a H;refine jm Vb [_,_,_,_,_,_,_,_,_,_,_] H wn rfl rfl rfl rfl ?_;clear H;intro a H;refine jm aqT [_,_] H wn rfl rfl rfl rfl ?_;clear H;intro a H;refine iE lJ nG [_,_] [_,_] H wn rfl rfl rfl rfl rfl (by intro i q h;match i,h with|0,h=>exact h|n+1,h=>simp at h) rfl rfl ?_;clear H;intro b6 a w hb6 H;refine jm Va [_,_,_,_] H wn rfl rfl rfl rfl ?_;clear H;intro a H;refine jm Jg [_,_,_,_,_] H wn rfl rfl rfl rfl ?_;clear H;intro a H;(iterate 2 refine jm Vb [_,_,_,_,_,_,_,_,_,_,_] H wn rfl rfl rfl rfl ?_;clear H;intro a H);refine iE iF fG [_,_,_,_,_,_,_,_,_,_,_,_,_,_,_,_,_,_,_,_,_,_,_,_,_,_,_,_,_,_,_,_,_,_,_,_,_,_,_,_,_,_,_,_] [_,_,_,_,_,_,_,_,_,_,_,_,_,_,_,_,_,_,_,_,_,_,_,_,_,_,_,_,_,_,_,_,_,_,_,_,_,_,_,_,_,_,_,_] H wn rfl rfl rfl rfl rfl (by intro i q h;match i,h with|0,h=>exact h|1,h=>exact h|2,h=>exact h|3,h=>exact h|n+4,h=>simp at h) rfl rfl ?_;clear H;intro b11 a w Kw H;(iterate 2 refine jm aqQ [_,_,_] H wn rfl rfl rfl rfl ?_;clear H;intro a H);refine iE pz oH [_,_,_,_,_,_] [_,_,_,_,_,_] H wn rfl rfl rfl rfl rfl (by intro i q h;match i,h with|0,h=>exact h|1,h=>exact h|n+2,h=>simp at h) rfl rfl ?_;clear H;intro b14 a w Np H;refine jm acj [_,_,_,_,_,_,_,_,_,_,_] H wn rfl rfl rfl rfl ?_;clear H;intro a H;refine bD kG 3 (vs:=[_,_,_,_,_,_,_,_,_,_,_]) _ H wn rfl rfl rfl rfl rfl rfl rfl rfl ?_;clear H;intro w H;dsimp only [List.set,setRow] at H;refine K2 _ _ ?_;clear K2;refine bW ?_;refine (leave1 H results44 (.cons (nQ kG (cs:=[_,_,_,_,_,_,_,_,_,_,_]) H rfl rfl (H.hp.cO 3 rfl rfl)) .nil) ?_).1;have H:=H.dY (Pl:=[_,_,_,_]) (dK:=[_,_,_]) [2,1,0] (by decide) rfl;obtain ⟨G1,hm1,SE,H⟩:=H.eH;obtain ⟨G2,hm2,El,H⟩:=H.eH;obtain ⟨G3,KC,Sz,H⟩:=H.eH;have nl:∀ {sz:Nat},av G2 (.sl sz []) (.slice none 0 0):=fun {sz}=>av.lg rfl (by decide);have GD:∀ {sz:Nat},av G3 (.sl sz []) (.slice none 0 0):=fun {sz}=>av.lg rfl (by decide);have d1:av G2 (.sl 2 ([(⟨5,0⟩:gq)].map gq.dat)) (.slice (some ⟨b6,0,none⟩) 1 1):=av.fE (n:=1) (cap:=1) (hm2 _ _ SE) rfl (bM _) (show 1≤maxLen by decide) rfl (bT.nil.snoc (XL G2 ⟨5,0⟩) rfl);have r1:aU G2 (zB 1 ⟨#[97,98]⟩ 0 []).dat _:=aU.mkItem (x:=zB 1 ⟨#[97,98]⟩ 0 []) ⟨nl,nl,nl⟩ nl nl;have r2:aU G2 (zB 1 ⟨#[99,100]⟩ 3 []).dat _:=aU.mkItem (x:=zB 1 ⟨#[99,100]⟩ 3 []) ⟨nl,nl,nl⟩ nl nl;have r3:aU G2 (zB 1 ⟨#[101]⟩ 0 [⟨5,0⟩]).dat _:=aU.mkItem (x:=zB 1 ⟨#[101]⟩ 0 [⟨5,0⟩]) ⟨nl,d1,nl⟩ nl nl;have r4:aU G2 (zB 2 ⟨#[]⟩ 0 []).dat _:=aU.mkItem (x:=zB 2 ⟨#[]⟩ 0 []) ⟨nl,nl,nl⟩ nl nl;have dP:bT G2 11 (vE.flow.map ay.dat) _:=(((bT.nil.snoc r1 rfl).snoc r2 rfl).snoc r3 rfl).snoc r4 rfl;have hcr:bT G3 3 (vE.revs.map dh.dat) _:=(bT.nil.snoc (Lg G3 ⟨3,⟨#[65,110]⟩,0⟩) rfl).snoc (Lg G3 ⟨5,⟨#[66,111]⟩,0⟩) rfl;exact H.rt ⟨⟨(some ⟨b11,0,none⟩,4,4),(none,0,0),(none,0,0),(none,0,0),(some ⟨b14,0,none⟩,2,2),(none,0,0),(none,0,0),(none,0,0),(none,0,0),0,0⟩,rfl,⟨(av.fE (n:=4) (cap:=4) El rfl (bM _) (show 4≤maxLen by decide) rfl dP).mono KC,⟨GD,GD,GD⟩,rfl,rfl,av.fE (n:=2) (cap:=2) Sz rfl (bM _) (show 2≤maxLen by decide) rfl hcr,⟨GD,GD,GD,GD⟩⟩⟩
theorem XQ {G:GH} {E:jV} {e:jG} {t:ByteArray} (hE:oK G E e) (h2:e.flow.length=2) (ht:(e.flow.map ay.text).head?=some t) (hr:e.revs.length=0) :
  ∃ b o fc rA rc,E.f=(some ⟨b,o,none⟩,2,fc)∧E.r=(rA,0,rc)∧aI G b (o+0*11+3)=some (.string t):=by
 obtain ⟨⟨fA,fn,fc⟩,_,_,_,⟨rA,rn,rc⟩,_,_,_,_,_,_⟩:=E;have hf:=hE.fl;have hv:=hE.rv;dsimp only [cB] at hf hv;have n1:=hf.len;have n2:=hv.len;rw [bG] at n1 n2;obtain ⟨A,c,e4,-,-,hg⟩:=hf.slice;rw [bG] at e4
 injection e4 with e4 e5 e6
 subst e4;obtain ⟨b,o,_,_,_,_,_,_,_,_,_,_,_,_,_,_,_,rfl,hrow,-⟩:=Bh (show 0 < e.flow.length by omega) hg;have h3:=hrow 3 _ rfl;rw [alb ht] at h3;exact ⟨b,o,fc,rA,rc,by rw [n1,h2],by rw [n2,hr],h3⟩
set_option maxHeartbeats 1000000 in
theorem Uc (G:GH) (w0:World) (hG:Hold G w0):Calls prog 12 #[] w0 (aZ w0 G fun u G'=>u=.bool true):=by
 refine eN [] func12 rfl ntmps12 rfl rfl hG ?_;intro a H;refine kP H (SR fun _ K1=>ak K1 rfl (SR fun _ K2=>?_));clear H K1;intro a H;refine s_call Yl H wn rfl (Yv _ _ H.ro) rfl ?_;clear H;rintro v3 G3 a w ⟨D3,rfl,hD3⟩ KC H;refine s_call agJ H wn rfl (aoU _ _ H.ro D3 vE hD3 s24 c24) rfl ?_;clear H;rintro v4 G4 a w ⟨E,rfl,hE⟩ Bu H;obtain ⟨b4,o4,fc,rA,rc,e1,e2,zZ⟩:=XQ hE o24 anT anS;obtain ⟨_,_,_,_,_,_,_,_,_,_,_⟩:=E;dsimp only at e1 e2;subst e1 e2
 simp only [jV.val,jV.cells,cB] at H
 refine dS kG H wn rfl ?_;clear H;intro b1 a w hb1 H;refine bD kG 0 (vs:=[_,_,_,_,_,_,_,_,_,_,_]) _ H wn rfl rfl rfl rfl rfl rfl rfl rfl ?_;clear H;intro w H;dsimp only [List.set,setRow] at H;refine K2 _ _ ?_;clear K2;refine cu (fun _ K3=>?_);refine s_call Yl H wn rfl (Yv _ _ H.ro) rfl ?_;clear H;rintro v5 G5 a w ⟨D5,rfl,hD5⟩ yh H;refine s_call agP H wn rfl (aoT _ _ H.ro D5 vE hD5 s24 c24) rfl ?_;clear H;rintro v6 G6 a w ⟨E6,rfl,hE6⟩ Er H;obtain ⟨b6,o6,gc,sA,sc,e3,e4,ht6⟩:=XQ hE6 f24 aiV aiU;obtain ⟨_,_,_,_,_,_,_,_,_,_,_⟩:=E6;dsimp only at e3 e4;subst e3 e4
 simp only [jV.val,jV.cells,cB] at H
 replace zZ:=aJ (fun b o h=>Er b o (yh b o h)) zZ;refine dS kG H wn rfl ?_;clear H;intro b2 a w hb2 H;refine bD kG 0 (vs:=[_,_,_,_,_,_,_,_,_,_,_]) _ H wn rfl rfl rfl rfl rfl rfl rfl rfl ?_;clear H;intro w H;dsimp only [List.set,setRow] at H;refine K3 _ _ ?_;clear K3;refine kP H (SR fun _ K4=>aY vG jc 1 rfl rfl (Rl iF rfl (Rc rfl (Rm rfl (Sp 11 rfl ?_ ?_))))) <;> clear H
 ·intro h11 a H
  try have oD:=dT h11
  refine kH H (YF vG h11 rfl (YO jc 1 h11 rfl ?_));clear H;intro a H;refine yH iF fG 0 H (wg H rfl rfl h11) rfl rfl rfl (by decide) rfl ?_;clear H;intro a H;refine kH H (YF vH h11 rfl (YR iN h11 rfl zZ ?_));clear H;intro a H;refine EJ H (wg H rfl rfl h11) rfl rfl rfl ?_;clear H;intro a H;refine kH H (Pt h11 rfl (Rm rfl (Sp 19 rfl ?_ ?_))) <;> clear H
  ·intro h19 a H
   try have uf:=dT h19
   refine kH H (YF vG h19 rfl (YO jc 0 h19 rfl (YL iF h19 rfl (YC h19 rfl (Pt h19 rfl (Rm rfl (Sp 25 rfl ?_ ?_))))))) <;> clear H
   ·intro gY a H
    try have p25:=dT gY
    refine kH H (YF vG gY rfl (YO jc 0 gY rfl ?_));clear H;intro a H;refine yH iF fG 0 H (wg H rfl rfl gY) rfl rfl rfl (by decide) rfl ?_;clear H;intro a H;refine kH H (YF vH gY rfl (YR iN gY rfl ht6 ?_));clear H;intro a H;refine EJ H (wg H rfl rfl gY) rfl rfl rfl ?_;clear H;intro a H;refine kH H (Pt gY rfl (Rm rfl (Sp 33 rfl ?_ ?_))) <;> clear H
    ·intro uO a H
     try have p33:=dT uO
     refine kH H (YF Ee uO rfl (YO yJ 1 uO rfl (YL pz uO rfl (YF Ee uO rfl (YO yJ 0 uO rfl (YL pz uO rfl ?_))))));clear H;intro a H;refine Lj _ H (wg H rfl rfl uO) rfl rfl rfl (by omega) (by omega) rfl ?_;clear H;intro a H;refine kH H (YC uO rfl (Pt uO rfl (ak K4 rfl ?_)));clear H K4;intro a H;refine lr H results12 rfl ?_
     first
      | exact H.rt rfl
      | (exfalso;simp_all;done)
      | (exfalso;simp_all;omega)
    intro uO a H
    try have p33:=dF uO
    refine kH H (bF uO rfl (bF uO rfl (aQ uO rfl (Pf uO rfl (ak K4 rfl ?_)))));clear H K4;intro a H;refine lr H results12 rfl ?_
    first
     | exact H.rt rfl
     | (exfalso;simp_all;done)
     | (exfalso;simp_all;omega)
   intro gY a H
   try have p25:=dF gY
   refine kH H (bF gY rfl (bF gY rfl (Pf gY rfl (Rm rfl (bF rfl rfl (bF rfl rfl (aQ rfl rfl (Pf rfl rfl (ak K4 rfl ?_)))))))));clear H K4;intro a H;refine lr H results12 rfl ?_
   first
    | exact H.rt rfl
    | (exfalso;simp_all;done)
    | (exfalso;simp_all;omega)
  intro h19 a H
  try have uf:=dF h19
  refine kH H (aQ h19 rfl (aQ h19 rfl (Pf h19 rfl (Rm rfl (bF rfl rfl (bF rfl rfl (Pf rfl rfl (Rm rfl (bF rfl rfl (bF rfl rfl (aQ rfl rfl (Pf rfl rfl (ak K4 rfl ?_)))))))))))));clear H K4;intro a H;refine lr H results12 rfl ?_
  first
   | exact H.rt rfl
   | (exfalso;simp_all;done)
   | (exfalso;simp_all;omega)
 intro h11 a H
 try have oD:=dF h11
 refine kH H (bF h11 rfl (bF h11 rfl (Pf h11 rfl (Rm rfl (aQ rfl rfl (aQ rfl rfl (Pf rfl rfl (Rm rfl (bF rfl rfl (bF rfl rfl (Pf rfl rfl (Rm rfl (bF rfl rfl (bF rfl rfl (aQ rfl rfl (Pf rfl rfl (ak K4 rfl ?_)))))))))))))))));clear H K4;intro a H;refine lr H results12 rfl ?_
 first
  | exact H.rt rfl
  | (exfalso;simp_all;done)
  | (exfalso;simp_all;omega)
theorem aqJ (G:GH) (w0:World) (hG:Hold G w0) (D:jV) (d:jG) (hR:oK G D d) (hz:Cb d) (A R:List Int) (va vr:aj) (hd:Ma G A R va vr) :
  Calls prog 13 #[D.val,.agg #[va,vr]] w0 (aZ w0 G fun u G'=>∃ b,u=.bool b∧(b=true→jN d=0∧A.length≤300∧R.length≤300)):=by
 obtain ⟨aA,ac,rfl,-,-,-⟩:=hd.ha.slice;obtain ⟨rA,rc,rfl,-,-,-⟩:=hd.hr.slice
 simp only [bG] at *
 refine eN [(0,_),(1,_)] func13 rfl ntmps13 rfl rfl hG ?_;intro a H;refine cu (fun _ K1=>?_);refine dQ (cs:=[_,_,_,_,_,_,_,_,_,_,_]) H wn rfl rfl rfl ?_;clear H;intro b2 a w hb2 H;refine dQ (cs:=[_,_]) H wn rfl rfl rfl ?_;clear H;intro b3 a w hb3 H;refine kH H (ak K1 rfl (SR fun _ K2=>aY ajj LH 0 rfl rfl (Rl uo rfl (Rc rfl (Rm rfl (Sp 9 rfl ?_ ?_)))))) <;> clear H K1
 ·intro h9 a H
  try have p9:=dT h9
  refine kH H (YF ajk h9 rfl (YO LH 0 h9 rfl (YL uo h9 rfl (YC h9 rfl (Pt h9 rfl (Rm rfl (Sp 15 rfl ?_ ?_))))))) <;> clear H
  ·intro iY a H
   try have qd:=dT iY
   refine bL kG (cs:=[_,_,_,_,_,_,_,_,_,_,_]) H (wg H rfl rfl iY) rfl rfl (H.hp.cO 1 rfl rfl) rfl ?_;clear H;intro a H;refine s_call aio H (wg H rfl rfl iY) rfl (aqI _ _ H.ro D d hR hz) rfl ?_;clear H;rintro v17 vg a w ⟨b17,rfl,Nq⟩ nN H;refine kH H (Pt iY rfl (ak K2 rfl ?_));clear H K2;intro a H;refine lr H results13 rfl ?_
   first
    | exact H.rt ⟨_,rfl,fun h=>⟨Nq h,by omega,by omega⟩⟩
    | exact H.rt ⟨_,rfl,fun h=>by cases h⟩
  intro iY a H
  try have qd:=dF iY
  refine kH H (aQ iY rfl (Pf iY rfl (ak K2 rfl ?_)));clear H K2;intro a H;refine lr H results13 rfl ?_
  first
   | exact H.rt ⟨_,rfl,fun h=>⟨Nq h,by omega,by omega⟩⟩
   | exact H.rt ⟨_,rfl,fun h=>by cases h⟩
 intro h9 a H
 try have p9:=dF h9
 refine kH H (aQ h9 rfl (aQ h9 rfl (Pf h9 rfl (Rm rfl (aQ rfl rfl (Pf rfl rfl (ak K2 rfl ?_)))))));clear H K2;intro a H;refine lr H results13 rfl ?_
 first
  | exact H.rt ⟨_,rfl,fun h=>⟨Nq h,by omega,by omega⟩⟩
  | exact H.rt ⟨_,rfl,fun h=>by cases h⟩
theorem QY:∀ args w,(callFunc 84 args).run prog w=.ok (.enter 84 args) w:=enters func84 rfl (by kernel_rfl)
theorem agG:∀ args w,(callFunc 144 args).run prog w=.ok (.enter 144 args) w:=enters func144 rfl (by kernel_rfl)
theorem ahr:∀ args w,(callFunc 200 args).run prog w=.ok (.enter 200 args) w:=enters func200 rfl (by kernel_rfl)
theorem ail:∀ args w,(callFunc 34 args).run prog w=.ok (.enter 34 args) w:=enters func34 rfl (by kernel_rfl)
theorem agH:∀ args w,(callFunc 145 args).run prog w=.ok (.enter 145 args) w:=enters func145 rfl (by kernel_rfl)
theorem aiC:∀ args w,(callFunc 83 args).run prog w=.ok (.enter 83 args) w:=enters func83 rfl (by kernel_rfl)
def sQ (h:dM):Bool:=decide (h.marks.bE.length=0)
def zo (r:aW):Bool:=sQ r.head && (r.cells.findIdx? fun c=>sQ c.head).isSome
def oG (x:ay):Bool:=sQ x.head && (decide (x.kind≠7) || (x.rows.findIdx? zo).isSome)
theorem Vv (G:GH) (w0:World) (hG:Hold G w0) (h:dM) (p d l:aj) (hh:jd G h p d l) :
  Calls prog 84 #[qV h p d l] w0 (aZ w0 G fun u G'=>u=.bool (sQ h)):=by
 obtain ⟨pA,pn,pc,rfl⟩:=hh.props.form;obtain ⟨dA,dn,dc,rfl⟩:=hh.bE.form;obtain ⟨lA,ln,lc,rfl⟩:=hh.layers.form;have hdn:=hh.bE.len;rw [bG] at hdn;subst hdn;refine eN [(0,_)] func84 rfl ntmps84 rfl rfl hG ?_;intro a H;refine cu (fun _ K1=>?_);refine dQ (cs:=[_,_,_,_,_]) H wn rfl rfl rfl ?_;clear H;intro b1 a w hb1 H;exact kH H (ak K1 rfl (SR fun _ K2=>Rf lZ rfl (aY pU qj 0 rfl rfl (Rl lJ rfl (Rc rfl (ak K2 rfl (LR results84 rfl fun H=>H.rt (dL (decide_eq_decide.2 (by omega))))))))))
theorem aqc (G:GH) (c:aX):pO (.func (.func 145) #[] #[]) G c.dat (sQ c.head):=by
 intro G1 w0 cs hm hG hr;refine jI (caps:=[]) agH ?_;obtain ⟨pA,pn,pc,dA,dn,dc,yA,yn,yc,fA,fn,fc,rfl,hh,-⟩:=hr.cell;refine eN [(0,_)] func145 rfl ntmps145 rfl rfl hG ?_;intro a H;refine cu (fun _ K1=>?_);refine dQ (cs:=[_,_,_,_,_,_,_]) H wn rfl rfl rfl ?_;clear H;intro b1 a w hb1 H;refine kH H (ak K1 rfl (SR fun _ K2=>Rf FK rfl ?_));clear H K1;intro a H;refine bL eu (cs:=[_,_,_,_,_]) H wn rfl rfl (H.hp.cO 0 rfl rfl) rfl ?_;clear H;intro a H;refine s_call QY H wn rfl (Vv _ _ H.ro c.head _ _ _ hh) rfl ?_;clear H;rintro v5 G5 a w rfl yh H;exact kH H (ak K2 rfl (LR results145 rfl fun H=>H.rt rfl))
theorem aqd (G:GH) (w0:World) (hG:Hold G w0) (r:aW) (cs:List aj) (hr:aU G r.dat cs) :
  Calls prog 83 #[.agg cs.toArray] w0 (aZ w0 G fun u G'=>u=.bool (zo r)):=by
 obtain ⟨pA,pn,pc,dA,dn,dc,yA,yn,yc,fA,fn,fc,rfl,hh,hcl⟩:=hr.row;refine eN [(0,_)] func83 rfl ntmps83 rfl rfl hG ?_;intro a H;refine cu (fun _ K1=>?_);refine dQ (cs:=[_,_,_,_,_,_]) H wn rfl rfl rfl ?_;clear H;intro b1 a w hb1 H;refine kH H (ak K1 rfl (SR fun _ K2=>Rf FJ rfl ?_));clear H K1;intro a H;refine bL eu (cs:=[_,_,_,_,_]) H wn rfl rfl (H.hp.cO 0 rfl rfl) rfl ?_;clear H;intro a H;refine s_call QY H wn rfl (Vv _ _ H.ro r.head _ _ _ hh) rfl ?_;clear H;rintro v5 G5 a w rfl yh H;refine kH H (Rm rfl (Sp 6 rfl ?_ ?_)) <;> clear H
 ·intro h6 a H
  try have p6:=dT h6
  refine kH H (YF vJ h6 rfl (YO wD 0 h6 rfl ?_));clear H;intro a H;refine s_call agG H (wg H rfl rfl h6) rfl (afC _ _ H.ro r.cells (fun c=>sQ c.head) _ _ (hcl.mono yh) (fun c _=>aqc _ c)) rfl ?_;clear H;rintro v9 G9 a w rfl tN H;exact kH H (Pt h6 rfl (ak K2 rfl (LR results83 rfl fun H=>H.rt (by unfold zo;simp_all))))
 intro h6 a H
 try have p6:=dF h6
 exact kH H (bF h6 rfl (Pf h6 rfl (ak K2 rfl (LR results83 rfl fun H=>H.rt (by unfold zo;simp_all)))))
theorem aqe (G:GH) (r:aW):pO (.func (.func 83) #[] #[]) G r.dat (zo r):=by
 intro G1 w0 cs hm hG hr;exact jI (caps:=[]) aiC (aqd G1 w0 hG r cs hr)
theorem aqD (G:GH) (w0:World) (hG:Hold G w0) (x:ay) (cs:List aj) (hr:aU G x.dat cs) :
  Calls prog 138 #[.agg cs.toArray] w0 (aZ w0 G fun u G'=>u=.bool (oG x)):=by
 obtain ⟨pA,pn,pc,dA,dn,dc,yA,yn,yc,fA,fn,fc,rA,rn,rc,rfl,hh,-,hrw⟩:=hr.item;refine eN [(0,_)] func138 rfl ntmps138 rfl rfl hG ?_;intro a H;refine cu (fun _ K1=>?_);refine dQ (cs:=[_,_,_,_,_,_,_,_,_,_,_]) H wn rfl rfl rfl ?_;clear H;intro b1 a w hb1 H;refine kH H (ak K1 rfl (SR fun _ K2=>Rf vI rfl ?_));clear H K1;intro a H;refine bL eu (cs:=[_,_,_,_,_]) H wn rfl rfl (H.hp.cO 0 rfl rfl) rfl ?_;clear H;intro a H;refine s_call QY H wn rfl (Vv _ _ H.ro x.head _ _ _ hh) rfl ?_;clear H;rintro v5 G5 a w rfl yh H;refine kH H (Rm rfl (Sp 6 rfl ?_ ?_)) <;> clear H
 ·intro h6 a H
  try have p6:=dT h6
  refine kH H (YF jZ h6 rfl (YO aH 0 h6 rfl (YC h6 rfl (YM h6 rfl (Sp 10 rfl ?_ ?_))))) <;> clear H
  ·intro h10 a H
   try have kV:=dT h10
   exact kH H (bF h10 rfl (PT h6 h10 rfl (Pt h6 rfl (ak K2 rfl (LR results138 rfl fun H=>H.rt (by unfold oG;simp_all))))))
  intro h10 a H
  try have kV:=dF h10
  refine kH H (YF qP h10 rfl (YO rF 0 h10 rfl ?_));clear H;intro a H;refine s_call ahr H (wg H rfl rfl h10) rfl (afD _ _ H.ro x.rows zo _ _ (hrw.mono yh) (fun r _=>aqe _ r)) rfl ?_;clear H;rintro v13 EX a w rfl FZ H;exact kH H (PF h6 h10 rfl (Pt h6 rfl (ak K2 rfl (LR results138 rfl fun H=>H.rt (by unfold oG;simp_all)))))
 intro h6 a H
 try have p6:=dF h6
 exact kH H (aQ h6 rfl (aQ h6 rfl (Ku rfl (Ku rfl (Ku rfl (Ks h6 rfl (Pf h6 rfl (ak K2 rfl (LR results138 rfl fun H=>H.rt (by unfold oG;simp_all))))))))))
theorem aqE (G:GH) (w0:World) (hG:Hold G w0) (r:aW) (cs:List aj) (hr:aU G r.dat cs) :
  Calls prog 34 #[.agg cs.toArray] w0 (aZ w0 G fun u G'=>u=.bool (zo r)):=by
 obtain ⟨pA,pn,pc,dA,dn,dc,yA,yn,yc,fA,fn,fc,rfl,hh,hcl⟩:=hr.row;have hdn:=hh.bE.len;rw [bG] at hdn;subst hdn;obtain ⟨fA',fc',e,hc1,hc2,hg⟩:=hcl.slice
 injection e with e1 e2 e3
 rw [bG] at e2 hc1;subst e1 e2 e3;have hml:maxLen=9223372036854775807:=rfl;refine eN [(0,_)] func34 rfl ntmps34 rfl rfl hG ?_;intro a H;refine cu (fun _ K1=>?_);refine dQ (cs:=[_,_,_,_,_,_]) H wn rfl rfl rfl ?_;clear H;intro b1 a w hb1 H;refine kH H (ak K1 rfl (SQ fun _ K2=>SR fun _ K3=>ak K3 rfl (SB ?_)));clear H K1 K3;intro a H;skip;refine eU (ι:=Nat) (Tc:=[(1,_)]) (Lc:=[]) (fun gh=>[(3,vi gh)]) (fun gh=>[(b1,.cells #[.slice pA pn pc,vi r.head.marks.ins,vi r.head.marks.move,.slice dA r.head.marks.bE.length dc,.slice yA yn yc,.slice fA r.cells.length fc] 74 (0,0))]) (fun gh=>G) (fun gh=>gh≤r.cells.length∧(r.cells.take gh).findIdx? (fun c=>sQ c.head)=none) (fun gh=>r.cells.length - gh) (0) (by exact (H).sub ⟨rfl,rfl,aC⟩) ?_ ?_
 ·exact ⟨by omega,rfl⟩
 clear H;intro k a w hI H;obtain ⟨hk,hno⟩:=hI;dsimp only [lca,bJ] at H;refine kP H (SQ fun _ K4=>SR fun _ K5=>Rm rfl (aY vJ wD 0 rfl rfl (Rl om rfl (Rc rfl (Kz K5 (Cd rfl ?_ ?_)))))) <;> clear H K5
 ·intro h8 a H
  try have p8:=dT h8
  have hk2:k < r.cells.length:=by omega
  obtain ⟨b2,o2,a1,a2,a3,a4,a5,a6,a7,a8,a9,JI,Qi,WX,rfl,hrow,Ta,-⟩:=Ib hk2 hg;have h5:=Ta.bE.len;rw [bG] at h5;subst h5;refine kP H (Kc K4 (SQ fun _ K6=>SB (SR fun _ K7=>aY vJ wD 0 rfl rfl (Rm rfl (Ri om kI rfl rfl (Rf FK rfl (Rf lZ rfl (Rf pU rfl (Rg qj rfl (hrow 4 _ rfl) (Rl lJ rfl (Rc rfl (Kz K7 (Cd rfl ?_ ?_))))))))))))) <;> clear H K4 K7
  ·intro h20 a H
   try have GK:=dT h20
   refine kP H (SR fun _ K8=>Rf FJ rfl (Rf lZ rfl (aY pU qj 0 rfl rfl (Rl lJ rfl (Rc rfl (ak K8 rfl ?_))))));clear H K8;intro a H;refine lr H results34 rfl ?_
   first
    | exact H.rt (by unfold zo;rw [pY hk2 hno (by show sQ _=_;unfold sQ;rw [mH];omega),Option.isSome_some,Bool.and_true];exact dL (decide_eq_decide.2 (by omega)))
    | exact H.rt (by unfold zo;rw [show r.cells.take k=r.cells from iC (by omega)] at hno;rw [hno,Option.isSome_none,Bool.and_false])
  intro h20 a H
  try have GK:=dF h20
  refine kP H (Kc K6 (SC (Rm rfl (Rd rfl (Ra rfl ?_)))));clear H K6;intro a H;refine aD ?_;refine dD (k+1) (by exact (H).sub ⟨rfl,rfl,aC⟩) ?_
  exact ⟨by omega,Ac hk2 hno (by show sQ _=_;unfold sQ;rw [ni];omega)⟩
 intro h8 a H
 try have p8:=dF h8
 refine dV ?_;refine K2 _ _ ?_;clear K2;refine kP H (SR fun _ K9=>ak K9 rfl ?_);clear H K9;intro a H;refine lr H results34 rfl ?_
 first
  | exact H.rt (by unfold zo;rw [pY hk2 hno (by show sQ _=_;unfold sQ;rw [mH];omega),Option.isSome_some,Bool.and_true];exact dL (decide_eq_decide.2 (by omega)))
  | exact H.rt (by unfold zo;rw [show r.cells.take k=r.cells from iC (by omega)] at hno;rw [hno,Option.isSome_none,Bool.and_false])
theorem aqF (G:GH) (w0:World) (hG:Hold G w0) (x:ay) (cs:List aj) (hr:aU G x.dat cs) :
  Calls prog 82 #[.agg cs.toArray] w0 (aZ w0 G fun u G'=>u=.bool (oG x)):=by
 obtain ⟨pA,pn,pc,dA,dn,dc,yA,yn,yc,fA,fn,fc,rA,rn,rc,rfl,hh,-,hrw⟩:=hr.item;have hdn:=hh.bE.len;rw [bG] at hdn;subst hdn;obtain ⟨rA',rc',e,hc1,hc2,hg⟩:=hrw.slice
 injection e with e1 e2 e3
 rw [bG] at e2 hc1;subst e1 e2 e3;have hml:maxLen=9223372036854775807:=rfl;refine eN [(0,_)] func82 rfl ntmps82 rfl rfl hG ?_;intro a H;refine cu (fun _ K1=>?_);refine dQ (cs:=[_,_,_,_,_,_,_,_,_,_,_]) H wn rfl rfl rfl ?_;clear H;intro b1 a w hb1 H;refine kH H (ak K1 rfl (SQ fun _ K2=>SR fun _ K3=>Rf vI rfl (Rf lZ rfl (aY pU qj 0 rfl rfl (Rl lJ rfl (Rc rfl (Kz K3 (Cd rfl ?_ ?_)))))))) <;> clear H K1 K3
 ·intro h9 a H
  try have p9:=dT h9
  refine kP H (SR fun _ K4=>ak K4 rfl ?_);clear H K4;intro a H;refine lr H results82 rfl ?_
  first
   | exact H.rt (by unfold oG;rw [hv,pY hk2 hno h22];simp)
   | exact H.rt (by unfold oG;rw [show x.rows.take k=x.rows from iC (by omega)] at hno;rw [hv,hno];simp)
   | exact H.rt (by unfold oG sQ;rw [jY (by omega),uG])
 intro h9 a H
 try have p9:=dF h9
 have hv:sQ x.head=true:=by unfold sQ;rw [mH];omega
 refine kP H (Kc K2 (SQ fun _ K5=>SR fun _ K6=>ak K6 rfl (SB ?_)));clear H K2 K6;intro a H;skip;refine eU (ι:=Nat × GH) (Tc:=[(1,_)]) (Lc:=[(_,_)]) (fun gh=>[(3,vi gh.1)]) (fun gh=>[]) (fun gh=>gh.2) (fun gh=>gh.1≤x.rows.length∧(x.rows.take gh.1).findIdx? zo=none∧(∀ b o,G b=some o→gh.2 b=some o)) (fun gh=>x.rows.length - gh.1) ((0,G)) (by exact (H).sub ⟨rfl,rfl,aC⟩) ?_ ?_
 ·exact ⟨by omega,rfl,fun _ _ h=>h⟩
 clear H;rintro ⟨k,g⟩ a w hI H;dsimp only at hI H;obtain ⟨hk,hno,hgm⟩:=hI;dsimp only [lca,bJ] at H;refine kP H (SQ fun _ K7=>SR fun _ K8=>Rm rfl (aY qP rF 0 rfl rfl (Rl mX rfl (Rc rfl (Kz K8 (Cd rfl ?_ ?_)))))) <;> clear H K8
 ·intro gX a H
  try have sP:=dT gX
  have hk2:k < x.rows.length:=by omega
  obtain ⟨b2,o2,cs2,rfl,SN,hrow,hrep⟩:=hg k x.rows[k].dat (by simp [hk2]);obtain ⟨a1,a2,a3,a4,a5,a6,a7,a8,a9,JI,Qi,WX,rfl,-⟩:=hrep.row;replace hrow:=fun j u hj=>aJ hgm (hrow j u hj);refine kP H (Kc K7 (SQ fun _ K9=>SB (SR fun _ aR=>aY qP rF 0 rfl rfl (Rm rfl (Ri mX jP rfl rfl ?_)))));clear H K7;intro a H;refine bL jP (cs:=[.slice a1 a2 a3,vi x.rows[k].head.marks.ins,vi x.rows[k].head.marks.move,.slice a4 a5 a6,.slice a7 a8 a9,.slice JI Qi WX]) H wn rfl rfl (fun j v hj=>H.hp.aI (hrow j v hj)) rfl ?_;clear H;intro a H;refine s_call ail H wn rfl (aqE _ _ H.ro x.rows[k] _ (hrep.mono hgm)) rfl ?_;clear H;rintro v22 VP a w rfl alo H;refine aR _ _ ?_;clear aR;refine jD H rfl ?_ ?_
  ·intro h22
   try have iZ:=dT h22
   refine kP H (SR fun _ bQ=>ak bQ rfl ?_);clear H bQ;intro a H;refine lr H results82 rfl ?_
   first
    | exact H.rt (by unfold oG;rw [hv,pY hk2 hno h22];simp)
    | exact H.rt (by unfold oG;rw [show x.rows.take k=x.rows from iC (by omega)] at hno;rw [hv,hno];simp)
    | exact H.rt (by unfold oG sQ;rw [jY (by omega),uG])
  intro h22
  try have iZ:=dF h22
  refine kP H (Kc K9 (SC (Rm rfl (Rd rfl (Ra rfl ?_)))));clear H K9;intro a H;refine aD ?_;refine dD ((k+1,_)) (by exact (H).sub ⟨rfl,rfl,aC⟩) ?_
  (try dsimp only);exact ⟨by omega,Ac hk2 hno h22,fun b o h=>alo b o (hgm b o h)⟩
 intro gX a H
 try have sP:=dF gX
 refine dV ?_;refine K5 _ _ ?_;clear K5;refine kP H (SR fun _ bY=>aY jZ aH 0 rfl rfl (Rc rfl (ak bY rfl ?_)));clear H bY;intro a H;refine lr H results82 rfl ?_
 first
  | exact H.rt (by unfold oG;rw [hv,pY hk2 hno h22];simp)
  | exact H.rt (by unfold oG;rw [show x.rows.take k=x.rows from iC (by omega)] at hno;rw [hv,hno];simp)
  | exact H.rt (by unfold oG sQ;rw [jY (by omega),uG])
theorem BR:prog.underlying 57=some (.slice 4):=by kernel_rfl
theorem aiB:∀ args w,(callFunc 82 args).run prog w=.ok (.enter 82 args) w:=enters func82 rfl (by kernel_rfl)
theorem arp:prog.underlying 4=some .bool:=by kernel_rfl
def jr (l:List ay):List Bool:=l.flatMap fun x=>List.replicate (n1 x) (oG x)
theorem Ry (a b:List ay):jr (a++b)=jr a++jr b:=by simp [jr]
theorem Rz (x:ay):jr [x]=List.replicate (n1 x) (oG x):=by simp [jr]
theorem Nh:∀ l:List ay,(jr l).length≤bK l:=fun l=>by
 have h:=Ub l
 have e:(jr l).length=(Dc l).length:=by
  induction l with
  | nil=>rfl
  | cons x l ih =>
   rw [show x :: l=[x]++l from rfl,Ry,amS,Rz,amT,iI,iI,List.length_replicate,List.length_replicate,ih (Ub l)]
 omega
abbrev wO (b:Bool):List Dat:=[.lf (.bool b)]
theorem Xc (G:GH) (b:Bool):aU G (wO b) [.bool b]:=by simp [aU,av,Value.oneCell']
theorem Xb {G:GH} {A:List Bool} {B:Option Addr} {n c k:Nat} (hv:av G (.sl 1 (A.map wO)) (.slice B n c)) (hk:k < A.length):∃ b o,B=some ⟨b,o,none⟩∧aI G b (o+k*1)=some (.bool A[k]):=by
 obtain ⟨b,o,cs,h1,h2,h3,h4⟩:=hv.at_ k (wO A[k]) (by simp [hk])
 simp only [aU] at h4
 obtain ⟨_,_,rfl,⟨rfl,-⟩,rfl⟩:=h4;exact ⟨b,o,h1,by simpa using h3 0 _ rfl⟩
set_option maxHeartbeats 2000000 in
theorem ajy (G:GH) (w0:World) (hG:Hold G w0) (l:List ay) (v:aj) (hv:av G (.sl 11 (l.map ay.dat)) v) (hz:bK l≤1073741824) :
  Calls prog 30 #[v] w0 (aZ w0 G fun u G'=>av G' (.sl 1 ((jr l).map wO)) u):=by
 obtain ⟨A,c,rfl,hc1,hc2,hg⟩:=hv.slice;rw [bG] at *;have hll:=DI l
 have hml:4294967297≤maxLen:=by decide
 refine eN [(0,_)] func30 rfl ntmps30 rfl rfl hG ?_;intro a H;refine kP H (SR fun _ K1=>ak K1 rfl (SR fun _ K2=>ak K2 rfl (SQ fun _ K3=>SR fun _ K4=>ak K4 rfl (SB ?_))));clear H K1 K2 K4;intro a H;skip;refine eU (ι:=Nat × aj × List aj × OL × GH) (Tc:=[(0,_)]) (Lc:=[]) (fun gh=>[(3,gh.2.1),(4,vi gh.1)]) (fun gh=>[]++gh.2.2.2.1) (fun gh=>gh.2.2.2.2) (fun gh=>gh.1≤l.length∧bZ 4 1 gh.2.1 (jr (l.take gh.1)).length gh.2.2.1 gh.2.2.2.1∧bT gh.2.2.2.2 1 ((jr (l.take gh.1)).map wO) gh.2.2.1∧(∀ b o,G b=some o→gh.2.2.2.2 b=some o)) (fun gh=>l.length - gh.1) ((0,.slice none 0 0,[],[],G)) (by exact (H).sub ⟨rfl,rfl,rfl,aC⟩) ?_ ?_
 ·exact ⟨by omega,bZ.nil,bT.nil,fun _ _ h=>h⟩
 clear H;rintro ⟨k,v,xs,Lo,g⟩ a w hI H;dsimp only at hI H;obtain ⟨hk,hrw,dP,hgm⟩:=hI;dsimp only [lca,bJ] at H;refine kP H (SQ fun _ K5=>SR fun _ K6=>Rm rfl (Rm rfl (Rl iF rfl (Rc rfl (Kz K6 (Cd rfl ?_ ?_)))))) <;> clear H K6
 ·intro h11 a H
  try have oD:=dT h11
  have hk2:k < l.length:=by omega
  obtain ⟨b,o,pA,pn,pc,dA,dn,dc,yA,yn,yc,fA,fn,fc,rA,rn,rc,rfl,hrow,hhd,hfl,Tz⟩:=Bh hk2 hg;have hkl:=Nh (l.take k++[l[k]]);rw [← iU hk2] at hkl;have TQ:=adn (l.take (k+1)) (l.drop (k+1));rw [List.take_append_drop] at TQ
  have Tg:jr (l.take (k+1))=jr (l.take k)++List.replicate (n1 l[k]) (oG l[k]):=by rw [iU hk2,Ry,Rz]
  have hlk:(jr (l.take k)).length+n1 l[k]≤1073741824:=by
   have:=aB List.length Tg;rw [iI,List.length_replicate] at this
   omega
  have hc3:¬ c=k:=by omega
  have he1:((l.map ay.dat).drop k).take 1=[l[k]].map ay.dat:=by rw [ng (by simpa using hk2)];simp
  have Da:aU G l[k].dat [vi l[k].kind,vi l[k].code,vi l[k].id,.string l[k].text,.slice pA pn pc,vi l[k].head.marks.ins,vi l[k].head.marks.move,.slice dA dn dc,.slice yA yn yc,.slice fA fn fc,.slice rA rn rc]:=aU.mkItem hhd hfl Tz;refine kP H (Kc K5 (SQ fun _ K7=>SB (SR fun _ K8=>Rm rfl (Rm rfl (Rm rfl (Rd rfl ?_))))));clear H K5;intro a H;refine U3 iF fG k (k+1) H wn rfl rfl rfl rfl (by omega) (by omega) (by omega) rfl ?_;clear H;intro a H;rw [ah hc3,rO,add_lit,Cj] at H;refine s_call Yp H wn rfl (aaE _ _ H.ro [l[k]] _ ((by have h:=hv.part k (k+1) (by omega) (by rw [bG];omega);rw [ah hc3,rO,add_lit,Cj,he1] at h;exact h:av G _ _).mono hgm) (by have:=Ji (rows:=l.map ay.dat) (k:=k) (r:=l[k].dat) (by simp [hk2]);simp only [bK,fK,qL,dU] at *;omega)) rfl ?_;clear H;rintro v20 _ a w ⟨rfl,rfl⟩ - H;rw [aaD] at H;refine kH H (Rm rfl ?_);clear H;intro a H;(iterate 2 refine lq H wn rfl rfl rfl ?_;clear H;intro a H);refine kH H (Ra rfl (ak K8 rfl (SR fun _ K9=>ak K9 rfl (SB ?_))));clear H K8 K9;intro a H;skip;refine eU (ι:=Nat × aj × List aj × OL × GH) (Tc:=[(0,_),(4,_),(5,_)]) (Lc:=[]) (fun gh=>[(3,gh.2.1),(7,vi gh.1)]) (fun gh=>[]++gh.2.2.2.1) (fun gh=>gh.2.2.2.2) (fun gh=>gh.1≤n1 l[k]∧bZ 4 1 gh.2.1 ((jr (l.take k)).length+gh.1) gh.2.2.1 gh.2.2.2.1∧bT gh.2.2.2.2 1 ((jr (l.take k)++List.replicate gh.1 (oG l[k])).map wO) gh.2.2.1∧(∀ b o,g b=some o→gh.2.2.2.2 b=some o)) (fun gh=>n1 l[k] - gh.1) ((0,v,xs,Lo,g)) (by exact (H).sub ⟨rfl,rfl,rfl,rfl,rfl,aC⟩) ?_ ?_
  ·exact ⟨by omega,hrw,by simpa using dP,fun _ _ h=>h⟩
  clear H;rintro ⟨j,v2,xs2,PW,g2⟩ a w hI H;dsimp only at hI H;obtain ⟨hj,hrw2,vT,iM⟩:=hI;dsimp only [lca,bJ] at H;refine kP H (SQ fun _ aR=>SR fun _ bQ=>Rm rfl (Rm rfl (Rc rfl (Kz bQ (Cd rfl ?_ ?_))))) <;> clear H bQ
  ·intro gY a H
   try have p25:=dT gY
   have hj2:j < n1 l[k]:=by omega
   refine kP H (Kc aR (SQ fun _ bY=>SB (SC (Rm rfl (Rm rfl (Rm rfl (Ri iF fG rfl rfl ?_)))))));clear H aR;intro a H;refine bL fG (cs:=[vi l[k].kind,vi l[k].code,vi l[k].id,.string l[k].text,.slice pA pn pc,vi l[k].head.marks.ins,vi l[k].head.marks.move,.slice dA dn dc,.slice yA yn yc,.slice fA fn fc,.slice rA rn rc]) H wn rfl rfl (fun j v hj=>H.hp.aI (aJ iM (aJ hgm (hrow j v hj)))) rfl ?_;clear H;intro a H;refine s_call aiB H wn rfl (aqF _ _ H.ro l[k] _ ((Da.mono hgm).mono iM)) rfl ?_;clear H;rintro v33 VT a w rfl KD H;refine iE BR oI [_] [_] H wn rfl rfl rfl rfl rfl (by intro i q h;match i,h with|0,h=>exact h|n+1,h=>simp at h) rfl rfl ?_;clear H;intro b34 a w asV H;refine nE (Li:=[_]) (Lo:=PW) (news:=[.bool (oG l[k])]) BR oI rfl rfl H wn rfl rfl hrw2 rfl (H.hp.cO 0 rfl rfl) rfl (by omega) (by omega) rfl ?_;clear H;intro v35 adF a w alV H;refine kH H (bq bY rfl (SC (Rm rfl (Rd rfl (Ra rfl ?_)))));clear H bY;intro a H;refine aD ?_;refine dD ((j+1,v35,xs2++[.bool (oG l[k])],adF,_)) (by exact (H.dY (Pl:=[_]) (dK:=[]) [] (by decide) rfl).sub ⟨rfl,rfl,rfl,rfl,rfl,aC⟩) ?_
   (try dsimp only);exact ⟨by omega,alV,by rw [List.replicate_succ',← iW,lY];exact (vT.mono KD).snoc (Xc _ _) rfl,fun b o h=>KD b o (iM b o h)⟩
  intro gY a H
  try have p25:=dF gY
  have hj2:j=n1 l[k]:=by omega
  subst hj2;rw [show (jr (l.take k)).length+n1 l[k]=(jr (l.take (k+1))).length by rw [Tg];simp,← Tg] at *;have hks:jr (l.take (k+1))=jr (l.take (k+1)):=rfl;refine dV ?_;refine K7 _ _ ?_;clear K7;refine kP H (SC (Rm rfl (Rd rfl (Ra rfl ?_))));clear H;intro a H;refine aD ?_;refine dD ((k+1,v2,xs2,PW,g2)) (by exact (H).sub ⟨rfl,rfl,rfl,aC⟩) ?_
  (try dsimp only);exact ⟨by omega,by rw [hks];exact hrw2,by rw [hks];exact vT,fun b o h=>iM b o (hgm b o h)⟩
 intro h11 a H
 try have oD:=dF h11
 refine dV ?_;refine K3 _ _ ?_;clear K3;refine kP H (SR fun _ cZ=>Rm rfl (ak cZ rfl ?_));clear H cZ;intro a H;refine bW ?_;rw [show l.take k=l from iC (by omega)] at hrw dP;obtain ⟨G',hm,hrep,H⟩:=H.nW (Li:=[]) hrw (rows:=(jr l).map wO) (by simp) dP;refine lv H results30 rfl ?_;exact H.rt hrep
theorem apX (G:GH) (w0:World) (hG:Hold G w0) (x:List Bool) (u v:aj) (hu:av G (.sl 1 (x.map wO)) u) (hv:av G (.sl 1 (x.map wO)) v) (hl:x.length≤4294967296) :
  Calls prog 29 #[u,v] w0 (aZ w0 G fun u G'=>u=.bool true):=by
 obtain ⟨A,c,rfl,hc1,hc2,-⟩:=hu.slice;obtain ⟨B,d,rfl,hd1,hd2,-⟩:=hv.slice
 simp only [bG] at *
 refine eN [(0,_),(1,_)] func29 rfl ntmps29 rfl rfl hG ?_;intro a H;refine kP H (SR fun _ K1=>ak K1 rfl (SQ fun _ K2=>SR fun _ K3=>Rm rfl (Rl BR rfl (Rm rfl (Rl BR rfl (Rc rfl (Kz K3 (Cd rfl ?_ ?_)))))))) <;> clear H K1 K3
 ·intro h10 a H
  try have kV:=dT h10
  exact absurd rfl kV
 intro h10 a H
 try have kV:=dF h10
 refine kP H (Kc K2 (SQ fun _ K4=>SR fun _ K5=>ak K5 rfl (SB ?_)));clear H K2 K5;intro a H;skip;refine eU (ι:=Nat × GH) (Tc:=[(0,_),(1,_)]) (Lc:=[]) (fun gh=>[(5,vi gh.1)]) (fun gh=>[]) (fun gh=>gh.2) (fun gh=>gh.1≤x.length∧(∀ b o,G b=some o→gh.2 b=some o)) (fun gh=>x.length - gh.1) ((0,G)) (by exact (H).sub ⟨rfl,rfl,rfl,aC⟩) ?_ ?_
 ·exact ⟨gW _,fun _ _ h=>h⟩
 clear H;rintro ⟨k,g⟩ a w hI H;dsimp only at hI H;obtain ⟨hk,hgm⟩:=hI;dsimp only [lca,bJ] at H;refine kP H (SQ fun _ K6=>SR fun _ K7=>Rm rfl (Rm rfl (Rl BR rfl (Rc rfl (Kz K7 (Cd rfl ?_ ?_)))))) <;> clear H K7
 ·intro gX a H
  try have sP:=dT gX
  have hk2:k < x.length:=by omega
  obtain ⟨b1,o1,rfl,h1⟩:=Xb hu hk2;obtain ⟨b2,o2,rfl,h2⟩:=Xb hv hk2;refine kP H (Kc K6 (SQ fun _ K8=>SB (SQ fun _ K9=>?_)));clear H K6;intro a H;refine dI hmx [[],[],[0,1],[0,1,2],[],[],[4,5],[4,5,6],(ra 0 8)] [] (by kernel_rfl) [_,_,_,_,_,_,_,_,.bool (x[k] != x[k])] H (aF (Z0 rfl (Rm rfl)) (Z0 rfl (Rm rfl)) (Z2 0 17 1 18 rfl (Ri BR oI rfl rfl)) (X1 2 19 rfl fun hG=>Rg oI rfl (aJ hG (aJ hgm h1))) (aF (Z0 rfl (Rm rfl)) (Z0 rfl (Rm rfl)) (Z2 4 21 5 22 rfl (Ri BR oI rfl rfl)) (X1 6 23 rfl fun hG=>Rg oI rfl (aJ hG (aJ hgm h2))) (bR ?_ dz))) ?_
  ·refine dJ 3 20 7 24 rfl rfl fun _ a w G1 hG HT H fin=>?_;refine apK arp H wn rfl rfl rfl ?_;clear H;intro a H;exact fin H iJ rfl
  clear H;intro a w G iL H hv;have H:=H.aM (hv 8 25 rfl rfl) rfl;clear hv;refine aD ⟨rfl,?_⟩;refine K9 _ _ ?_;clear K9;refine jD H rfl ?_ ?_
  ·intro gY
   simp at gY
  intro gY
  try have p25:=dF gY
  refine kP H (Kc K8 (SC (Rm rfl (Rd rfl (Ra rfl ?_)))));clear H K8;intro a H;refine aD ?_;refine dD ((k+1,_)) (by exact (H).sub ⟨rfl,rfl,rfl,aC⟩) ?_
  (try dsimp only);exact ⟨by omega,fun b o h=>iL b o (hgm b o h)⟩
 intro gX a H
 refine dV ?_;refine K4 _ _ ?_;clear K4;exact kP H (SR fun _ aR=>ak aR rfl (LR results29 rfl fun H=>H.rt rfl))
theorem agA:∀ args w,(callFunc 138 args).run prog w=.ok (.enter 138 args) w:=enters func138 rfl (by kernel_rfl)
theorem X4:∀ args w,(callFunc 137 args).run prog w=.ok (.enter 137 args) w:=enters func137 rfl (by kernel_rfl)
theorem Vn:Ty prog 57 1 24 [.slice none 0 0] false:=⟨by kernel_rfl,by kernel_rfl⟩
theorem agz:∀ args w,(callFunc 136 args).run prog w=.ok (.enter 136 args) w:=enters func136 rfl (by kernel_rfl)
def bP (b:Bool):AP:=fun args _=>args=[.bool b]
theorem WZ {A:List Bool} {k:Nat} {args:List aj} {g:GH} (h:wG (A.map bP) k args g):∃ hk:k < A.length,args=[.bool A[k]]:=by
 obtain ⟨p,hp,hargs⟩:=h;rw [pQ] at hp;obtain ⟨q,hq,rfl⟩:=ou.1 hp;obtain ⟨hk,rfl⟩:=jB.1 hq;exact ⟨hk,hargs⟩
set_option maxHeartbeats 4000000 in
theorem arw {G:GH} {bd:Nat} {l:List ay} {v:aj} (hb:aI G bd 0=some v) (hv:av G (.sl 11 (l.map ay.dat)) v) (hz:bK l≤1073741824) :
  Iter prog G (.func (.func 137) #[] #[(aK bd 0)]) ((jr l).map bP):=by
 intro J Jx fv G1 L w0 S9 hGi tJ hJx hJ hO hcb;refine jI (caps:=[(aK bd 0)]) X4 ?_;obtain ⟨A,c,rfl,hc1,hc2,hg⟩:=hv.slice;rw [bG] at *;have hll:=DI l;replace hb:=aJ hGi hb;refine iX (N:=33) (T:=[(0,_),(1,_)]) func137 rfl ntmps137 rfl rfl hO ?_;intro a H;refine kP H (SR fun _ K1=>Rg jc rfl hb (Rl iF rfl (Rm rfl (Kz K1 (SB ?_)))));clear H K1;intro a H;skip;refine eU (ι:=Nat × Nat × OL × GH) (Tc:=[(0,_),(1,_),(7,_),(8,_)]) (Lc:=[]) (fun gh=>[(9,vi gh.1)]) (fun gh=>[]++gh.2.2.1) (fun gh=>gh.2.2.2) (fun gh=>gh.1≤l.length∧(∀ b o,G1 b=some o→gh.2.2.2 b=some o)∧Now ((jr l).map bP) bP J (jr l).length gh.2.1 (jr (l.drop gh.1)) gh.2.2.2 gh.2.2.1) (fun gh=>l.length - gh.1) ((0,0,L,G1)) (by exact (H).sub ⟨rfl,rfl,rfl,rfl,rfl,aC⟩) ?_ ?_
 ·exact ⟨gW _,fun _ _ h=>h,⟨hJ,fun i a h=>by rw [gI,pQ];rw [vB] at h;rw [h];rfl,by simp⟩⟩
 clear H;rintro ⟨k,j1,Lt,g⟩ a w hI H;dsimp only at hI H;obtain ⟨hk,hgm,eP⟩:=hI;dsimp only [lca,bJ] at H;refine kP H (SR fun _ K2=>Rc rfl (Kz K2 (SQ fun _ K3=>Cd rfl ?_ ?_))) <;> clear H K2
 ·intro h10 a H
  try have kV:=dT h10
  have hk2:k < l.length:=by omega
  obtain ⟨b,o,pA,pn,pc,dA,dn,dc,yA,yn,yc,fA,fn,fc,rA,rn,rc,rfl,hrow,hhd,hfl,Tz⟩:=Bh hk2 hg
  have hc3:¬ c=k:=by omega
  have he1:((l.map ay.dat).drop k).take 1=[l[k]].map ay.dat:=by rw [ng (by simpa using hk2)];simp
  have Da:aU G l[k].dat [vi l[k].kind,vi l[k].code,vi l[k].id,.string l[k].text,.slice pA pn pc,vi l[k].head.marks.ins,vi l[k].head.marks.move,.slice dA dn dc,.slice yA yn yc,.slice fA fn fc,.slice rA rn rc]:=aU.mkItem hhd hfl Tz;have hG1:∀ b o,G b=some o→g b=some o:=fun b o h=>hgm b o (hGi b o h)
  have IK:Now ((jr l).map bP) bP J (jr l).length j1 (List.replicate (n1 l[k] - 0) (oG l[k])++jr (l.drop (k+1))) g Lt:=by
   rw [ng hk2,show l[k] :: l.drop (k+1)=[l[k]]++l.drop (k+1) from rfl,Ry,Rz] at eP;exact eP
  have hn1:n1 l[k]≤1073741824:=by
   have h1:=IK.len;have h2:=Nh l
   simp only [iI,List.length_replicate] at h1
   omega
  refine kP H (Kc K3 (SQ fun _ K4=>SB (SR fun _ K5=>Rm rfl (Ri iF fG rfl rfl ?_))));clear H K3;intro a H;refine bL fG (cs:=[vi l[k].kind,vi l[k].code,vi l[k].id,.string l[k].text,.slice pA pn pc,vi l[k].head.marks.ins,vi l[k].head.marks.move,.slice dA dn dc,.slice yA yn yc,.slice fA fn fc,.slice rA rn rc]) H wn rfl rfl (fun j v hj=>H.hp.aI (aJ hG1 (hrow j v hj))) rfl ?_;clear H;intro a H;refine dS fG H wn rfl ?_;clear H;intro b4 a w hb4 H;refine kH H (Ra rfl ?_);clear H;intro a H;refine bD fG 0 (vs:=[_,_,_,_,_,_,_,_,_,_,_]) _ H wn rfl rfl rfl rfl rfl rfl rfl rfl ?_;clear H;intro w H;dsimp only [List.set,setRow] at H;refine K5 _ _ ?_;clear K5;refine kP H (SR fun _ K6=>Rg jc rfl (aJ hgm hb) (Rm rfl (Rm rfl (Rd rfl ?_))));clear H;intro a H;refine U3 iF fG k (k+1) H wn rfl rfl rfl rfl (by omega) (by omega) (by omega) rfl ?_;clear H;intro a H;rw [ah hc3,rO,add_lit,Cj] at H;refine s_call Yp H wn rfl (aaE _ _ H.ro [l[k]] _ ((by have h:=hv.part k (k+1) (by omega) (by rw [bG];omega);rw [ah hc3,rO,add_lit,Cj,he1] at h;exact h:av G _ _).mono hG1) (by have:=Ji (rows:=l.map ay.dat) (k:=k) (r:=l[k].dat) (by simp [hk2]);simp only [bK,fK,qL,dU] at *;omega)) rfl ?_;clear H;rintro v20 _ a w ⟨rfl,rfl⟩ - H;rw [aaD] at H;refine kH H (Rm rfl ?_);clear H;intro a H;(iterate 2 refine lq H wn rfl rfl rfl ?_;clear H;intro a H);refine kH H (Ra rfl (ak K6 rfl (SR fun _ K7=>Rm rfl (Rm rfl (Kz K7 (SB ?_))))));clear H K6 K7;intro a H;skip;refine eU (ι:=Nat × Nat × OL × GH) (Tc:=[(0,_),(1,_),(4,_),(7,_),(8,_),(9,_),(23,_)]) (Lc:=[(_,_)]) (fun gh=>[(24,vi gh.1)]) (fun gh=>[]++gh.2.2.1) (fun gh=>gh.2.2.2) (fun gh=>gh.1≤n1 l[k]∧(∀ b o,g b=some o→gh.2.2.2 b=some o)∧Now ((jr l).map bP) bP J (jr l).length gh.2.1 (List.replicate (n1 l[k] - gh.1) (oG l[k])++jr (l.drop (k+1))) gh.2.2.2 gh.2.2.1) (fun gh=>n1 l[k] - gh.1) ((0,j1,Lt,g)) (by exact (H).sub ⟨rfl,rfl,rfl,rfl,rfl,rfl,rfl,rfl,aC⟩) ?_ ?_
  ·exact ⟨gW _,fun _ _ h=>h,IK⟩
  clear H;rintro ⟨m,j2,Lt2,g2⟩ a w hI H;dsimp only at hI H;obtain ⟨hm,iM,wZ⟩:=hI;dsimp only [lca,bJ] at H;refine kP H (SR fun _ K8=>Rc rfl (Kz K8 (SQ fun _ K9=>Cd rfl ?_ ?_))) <;> clear H K8
  ·intro gY a H
   try have p25:=dT gY
   have hm2:m < n1 l[k]:=by omega
   have sN:Now ((jr l).map bP) bP J (jr l).length j2 (oG l[k] :: (List.replicate (n1 l[k] - m - 1) (oG l[k])++jr (l.drop (k+1)))) g2 Lt2:=by
    rw [show n1 l[k] - m=(n1 l[k] - m - 1)+1 by omega,List.replicate_succ] at wZ;exact wZ
   refine kP H (Kc K9 (SQ fun _ aR=>SB (SR fun _ bQ=>Rm rfl ?_)));clear H K9;intro a H;refine bL fG (cs:=[_,_,_,_,_,_,_,_,_,_,_]) H wn rfl rfl (H.hp.cO 0 rfl rfl) rfl ?_;clear H;intro a H;refine s_call agA H wn rfl (aqD _ _ H.ro l[k] _ ((Da.mono hG1).mono iM)) rfl ?_;clear H;rintro v28 Mg a w rfl IB H;refine Aj (Li:=[_]) (L:=Lt2) H wn rfl rfl (hcb j2 _ _ _ _ ⟨_,sN.head,rfl⟩ (fun b o h=>IB b o (iM b o (hgm b o h))) (tJ _ _ _ _ IB sN.now) (Hp.owns (Li:=[_]) H.hp)) rfl ?_;clear H;rintro v29 VR PZ a w ⟨b29,rfl,hb1,hb2⟩ alp H;refine kH H (Rn rfl (Kz bQ (Cd rfl ?_ ?_))) <;> clear H bQ
   ·intro ow a H
    try have p30:=dT ow
    refine bW ?_;refine (leave0 H results137 ?_).1
    first
     | exact H.hp.iq (L':=PZ) (by repeat (first|exact gT _|apply List.Sublist.cons)) (.inr (hb2 (by simpa using ow)))
     | exact H.hp.dx (.inl (by
       have:=eP.len;rw [jC (by omega)] at this
       first|(rw [bG,← this];exact eP.now)|(rw [← this];exact eP.now)))
   intro ow a H
   try have p30:=dF ow
   refine kP H (Kc aR (SC (Rd rfl (Rm rfl ?_))));clear H aR;intro a H;refine aD ?_;refine dD ((m+1,j2+1,PZ,_)) (by exact (H).sub ⟨rfl,rfl,rfl,rfl,rfl,rfl,rfl,rfl,aC⟩) ?_
   (try dsimp only);exact ⟨by omega,fun b o h=>alp b o (IB b o (iM b o h)),by rw [show n1 l[k] - (m+1)=n1 l[k] - m - 1 by omega];exact sN.step (hb1 (by simpa using ow))⟩
  intro gY a H
  try have p25:=dF gY
  obtain rfl:m=n1 l[k]:=by omega
  rw [Nat.sub_self,List.replicate_zero,mZ] at wZ;refine dV ?_;refine K4 _ _ ?_;clear K4;refine kP H (SC (Rd rfl (Rm rfl ?_)));clear H;intro a H;refine aD ?_;refine dD ((k+1,j2,Lt2,g2)) (by exact (H.dY (Pl:=[_]) (dK:=[]) [] (by decide) rfl).sub ⟨rfl,rfl,rfl,rfl,rfl,aC⟩) ?_
  (try dsimp only);exact ⟨by omega,fun b o h=>iM b o (hgm b o h),wZ⟩
 intro h10 a H
 try have kV:=dF h10
 refine dV ?_;refine (leave0 H results137 ?_).2
 first
  | exact H.hp.iq (L':=PZ) (by repeat (first|exact gT _|apply List.Sublist.cons)) (.inr (hb2 (by simpa using ow)))
  | exact H.hp.dx (.inl (by
    have:=eP.len;rw [jC (by omega)] at this
    first|(rw [bG,← this];exact eP.now)|(rw [← this];exact eP.now)))
theorem arx (G:GH) (w0:World) (hG:Hold G w0) (l:List ay) (v:aj) (hv:av G (.sl 11 (l.map ay.dat)) v) (hz:bK l≤1073741824) :
  Calls prog 78 #[v] w0 (aZ w0 G fun u G'=>∃ bd,u=.func (.func 137) #[] #[(aK bd 0)]∧Iter prog G' u ((jr l).map bP)):=by
 obtain ⟨A,c,rfl,-,-,-⟩:=hv.slice;refine eN [(0,_)] func78 rfl ntmps78 rfl rfl hG ?_;intro a H;refine cu (fun _ K1=>?_);refine dQ (cs:=[_]) H wn rfl rfl rfl ?_;clear H;intro b1 a w hb1 H;refine kH H (ak K1 rfl (SR fun _ K2=>?_));clear H K1;intro a H;refine oZ H wn rfl rfl ?_;clear H;intro a H;refine kH H (ak K2 rfl ?_);clear H K2;intro a H;refine bW ?_;obtain ⟨G2,hm2,hb1,H⟩:=H.eH;refine lv H results78 rfl ?_;exact H.rt ⟨b1,rfl,arw (by unfold aI;rw [hb1];rfl) (hv.mono hm2) hz⟩
theorem adZ (G:GH) (w0:World) (hG:Hold G w0) (A:List Bool) (caps:List aj) (hit:Iter prog G (.func (.func 137) #[] caps.toArray) (A.map bP)) (hA:A.length≤4294967296) :
  Calls prog 136 #[.slice none 0 0,.func (.func 137) #[] caps.toArray] w0 (aZ w0 G fun u G'=>av G' (.sl 1 (A.map wO)) u):=by
 have hml:4294967297≤maxLen:=by decide
 refine eN [(0,_),(1,_)] func136 rfl ntmps136 rfl rfl hG ?_;intro a H;refine cu (fun _ K1=>?_);refine dQ (cs:=[_]) H wn rfl rfl rfl ?_;clear H;intro b2 a w hb2 H;refine kH H (ak K1 rfl (SQ fun _ K2=>SR fun _ K3=>Rm rfl (Kz K3 (SB ?_))));clear H K1 K3;intro a H;skip;refine Qn (ι:=aj × List aj × OL) (κ:=Empty) (Lc:=[]) (fun (k:Nat) (gh:aj × List aj × OL)=>[(b2,.cells #[gh.1] 57 (0,0))]) (fun (k:Nat) (gh:aj × List aj × OL)=>gh.2.2) (fun (k:Nat) (gh:aj × List aj × OL) (g:GH)=>bZ 4 1 gh.1 k gh.2.1 gh.2.2∧bT g 1 ((A.take k).map wO) gh.2.1) (fun x=>x.elim) (fun x=>x.elim) (fun x=>x.elim) (fun x=>x.elim) ((.slice none 0 0,[],[])) (by exact H.I4 (A:=[_])) rfl X4 (hit) (fun _ _ h=>h) rfl (fun k args g h=>by obtain ⟨_,rfl⟩:=WZ h;rfl) (fun k i G G' hm h=>⟨h.1,h.2.mono hm⟩) (fun x=>x.elim) (⟨bZ.nil,bT.nil⟩) ?_ ?_ ?_
 ·clear H;intro l2 Dm zG bk k args gh G2 w2 F2 B2 a hk2 hm2 hI SG Tm aag H;obtain ⟨v,xs,Lo⟩:=gh;dsimp only at hI H;obtain ⟨hk,rfl⟩:=WZ hk2;dsimp only [yS,List.cons_append,List.nil_append] at H;obtain ⟨hrw,dP⟩:=hI;refine kP H (SC (Ra rfl ?_));clear H;intro a H;refine aD ?_;refine SG _ _ _ _ _ _ (by exact H) ?_;clear H;intro w H;refine kP H (SB (SC (Ro Vn 1 rfl (Rm rfl ?_))));clear H;intro a H;refine iE BR oI [_] [_] H wn rfl rfl rfl rfl rfl (by intro i q h;match i,h with|0,h=>exact h|n+1,h=>simp at h) rfl rfl ?_;clear H;intro b10 a w Zj H;refine nE (Li:=[_,_,_]++bk) (Lo:=Lo) (news:=[.bool A[k]]) BR oI rfl rfl (St.un (A:=[_,_,_]) H) wn rfl rfl hrw rfl (H.hp.cO 0 rfl rfl) rfl (by omega) (by omega) rfl ?_;clear H;intro v11 adB a w vX H;obtain ⟨Pv,c11,rfl,-,-⟩:=vX.shape
  simp only [iW,nJ,mZ] at H
  refine bD Vn 2 (vs:=[_]) _ H wn rfl rfl rfl rfl rfl rfl rfl rfl ?_;clear H;intro w H;dsimp only [List.set,setRow] at H;refine aD ?_;refine Tm ((.slice Pv (k+1) c11,xs++[.bool A[k]],adB)) _ _ _ _ _ (by exact H.dY (Pl:=[_,_,_]) (dK:=[_,_]) [1,2] (by decide) rfl) ?_;exact ⟨vX,by rw [iU hk,lY];exact dP.snoc (Xc _ _) rfl⟩
 ·clear H;intro VJ gh V5 a w hm2 hI H;obtain ⟨v,xs,Lo⟩:=gh;dsimp only at hI H;dsimp only [lca,bJ] at H;obtain ⟨hrw,dP⟩:=hI;rw [bG] at hrw dP;rw [xL] at dP;refine K2 _ _ ?_;clear K2;refine kP H (SR fun _ K4=>Ro Vn 1 rfl (ak K4 rfl ?_));clear H K4;intro a H;refine bW ?_;refine (IX H 0 rfl ?_).1;clear H;intro a w H;dsimp only [List.eraseIdx_cons_succ,List.eraseIdx_cons_zero] at H;refine lv H results136 rfl ?_;obtain ⟨Gr,hmr,hrep,H⟩:=St.nW (Li:=[_]) H hrw (rows:=A.map wO) (by simp) dP;exact H.rt hrep
 intro Dk x;exact x.elim
theorem afA (G:GH) (w0:World) (hG:Hold G w0) (A:List Bool) (caps:List aj) (hit:Iter prog G (.func (.func 137) #[] caps.toArray) (A.map bP)) (hA:A.length≤4294967296) :
  Calls prog 77 #[.func (.func 137) #[] caps.toArray] w0 (aZ w0 G fun u G'=>av G' (.sl 1 (A.map wO)) u):=by
 refine eN [(0,_)] func77 rfl ntmps77 rfl rfl hG ?_;intro a H;refine kP H (SR fun _ K1=>ak K1 rfl (SR fun _ K2=>Rm rfl ?_));clear H K1;intro a H;refine s_call agz H wn rfl (adZ _ _ H.ro A caps hit hA) rfl ?_;clear H;rintro v4 G4 a w KL Bu H;exact kH H (ak K2 rfl (LR results77 rfl fun H=>H.rt KL))
theorem Yk:∀ args w,(callFunc 28 args).run prog w=.ok (.enter 28 args) w:=enters func28 rfl (by kernel_rfl)
theorem aiz:∀ args w,(callFunc 78 args).run prog w=.ok (.enter 78 args) w:=enters func78 rfl (by kernel_rfl)
theorem aiy:∀ args w,(callFunc 77 args).run prog w=.ok (.enter 77 args) w:=enters func77 rfl (by kernel_rfl)
theorem QH:∀ args w,(callFunc 12 args).run prog w=.ok (.enter 12 args) w:=enters func12 rfl (by kernel_rfl)
theorem agC:∀ args w,(callFunc 13 args).run prog w=.ok (.enter 13 args) w:=enters func13 rfl (by kernel_rfl)
theorem aie:∀ args w,(callFunc 27 args).run prog w=.ok (.enter 27 args) w:=enters func27 rfl (by kernel_rfl)
theorem aik:∀ args w,(callFunc 30 args).run prog w=.ok (.enter 30 args) w:=enters func30 rfl (by kernel_rfl)
theorem aij:∀ args w,(callFunc 29 args).run prog w=.ok (.enter 29 args) w:=enters func29 rfl (by kernel_rfl)
theorem Y0 (l:List ay) (id:Int):bK ((qQ l id).getD [])≤bK l:=by
 cases h:qQ l id with
 | none=>exact gW _
 | some f=>exact ajz h
theorem aoS (G:GH) (w0:World) (hG:Hold G w0) (D:jV) (d:jG) (hR:oK G D d) (hz:bK d.flow≤1073741824) (id:Int) :
  Calls prog 27 #[D.val,vi id] w0 (aZ w0 G fun u G'=>∃ v,u=.tuple #[v,vi (if (qQ d.flow id).isSome then 0 else 8)]∧av G' (.sl 1 ((jr ((qQ d.flow id).getD [])).map wO)) v):=by
 have hs:=Y0 d.flow id;have hfl:=Nh ((qQ d.flow id).getD []);refine eN [(0,_),(1,_)] func27 rfl ntmps27 rfl rfl hG ?_;intro a H;refine cu (fun _ K1=>?_);refine dQ (cs:=[_,_,_,_,_,_,_,_,_,_,_]) H wn rfl rfl rfl ?_;clear H;intro b2 a w hb2 H;refine kH H (Ra rfl (ak K1 rfl (SR fun _ K2=>?_)));clear H K1;intro a H;refine bL kG (cs:=[_,_,_,_,_,_,_,_,_,_,_]) H wn rfl rfl (H.hp.cO 0 rfl rfl) rfl ?_;clear H;intro a H;refine kH H (Rm rfl ?_);clear H;intro a H;refine s_call Yk H wn rfl (Y1 _ _ H.ro D d.flow id hR.fl (by omega)) rfl ?_;clear H;rintro v11 sw a w ⟨Ph,rfl,tT⟩ Br H;obtain ⟨Pv,n11,c11,rfl⟩:=tT.form;refine kH H (Rm rfl ?_);clear H;intro a H;(iterate 2 refine lq H wn rfl rfl rfl ?_;clear H;intro a H);refine kH H (Ra rfl (ak K2 rfl (SQ fun _ K3=>SR fun _ K4=>Rm rfl (Rn rfl (Kz K4 (Cd rfl ?_ ?_)))))) <;> clear H K2 K4
 ·intro iY a H
  try have qd:=dT iY
  refine kP H (SR fun _ K5=>Ra rfl (ak K5 rfl ?_));clear H K5;intro a H;refine bW ?_;refine (eY H results27 (.cons (aT H rfl) (.cons (aT H rfl) .nil)) ?_).1
  first
   | exact H.rt ⟨_,by rw [au (by simp_all)],CY⟩
   | exact H.rt ⟨_,by rw [ah (by simp_all)],by rw [show qQ d.flow id=none by simp_all];exact av.lg rfl (by decide)⟩
 intro iY a H
 try have qd:=dF iY
 refine kP H (Kc K3 (SR fun _ K6=>Rm rfl ?_));clear H K3;intro a H;refine s_call aiz H wn rfl (arx _ _ H.ro _ _ tT (by omega)) rfl ?_;clear H;rintro v17 vg a w ⟨bd,rfl,hit⟩ nN H;refine s_call aiy H wn rfl (afA _ _ H.ro _ [(aK bd 0)] hit (by omega)) rfl ?_;clear H;rintro v18 PE a w CY hm18 H;obtain ⟨VG,n18,c18,rfl⟩:=CY.form;refine kH H (Ra rfl (ak K6 rfl ?_));clear H K6;intro a H;refine bW ?_;refine (eY H results27 (.cons (aT H rfl) (.cons (aT H rfl) .nil)) ?_).1
 first
  | exact H.rt ⟨_,by rw [au (by simp_all)],CY⟩
  | exact H.rt ⟨_,by rw [ah (by simp_all)],by rw [show qQ d.flow id=none by simp_all];exact av.lg rfl (by decide)⟩
theorem arR (G:GH) (w0:World) (hG:Hold G w0) (D:jV) (d:jG) (hR:oK G D d) (hs:EW 536870912 d) (id:Int) :
    Calls prog 7 #[D.val,vi id] w0 (aZ w0 G fun u G'=>u=.bool true):=by
  have hz:=hs.fl;have hs0:=Y0 d.flow id;have hfl:=Nh ((qQ d.flow id).getD []);refine eN [(0,_),(1,_)] func7 rfl ntmps7 rfl rfl hG ?_;intro a H;refine cu (fun _ K1=>?_);refine dQ (cs:=[_,_,_,_,_,_,_,_,_,_,_]) H wn rfl rfl rfl ?_;clear H;intro b2 a w hb2 H;refine kH H (ak K1 rfl (SQ fun _ K2=>SQ fun _ K3=>?_));clear H K1;intro a H;obtain ⟨Ga,hma,hb',H⟩:=H.eH;have hgd:=fun j v hj=>vO hb' 0 D.cells rfl j v hj;replace hR:=hR.mono hma;refine pR ?_;refine s_call QH H wn rfl (Uc _ _ H.ro) rfl ?_;clear H;rintro v9 G9 a w rfl tN H;replace hR:=hR.mono tN;replace hgd:=fun j v hj=>aJ tN (hgd j v hj);refine kH H (Rn rfl (Rm rfl (Sp 11 rfl ?_ ?_))) <;> clear H
  · intro h11 a H
    try have oD:=dT h11
    refine kH H (aQ h11 rfl (aQ h11 rfl (Pt h11 rfl (Kn K3 (Ct rfl rfl (SR fun _ K4=>?_))))));clear H K3;intro a H;refine s_call QH H wn rfl (Uc _ _ H.ro) rfl ?_;clear H;rintro v17 vg a w rfl nN H;replace hR:=hR.mono nN;replace hgd:=fun j v hj=>aJ nN (hgd j v hj);refine kH H (ak K4 rfl ?_);clear H K4;intro a H;refine lr H results7 rfl ?_
    first
      | exact H.rt rfl
      | (have hno:qQ d.flow id=none:=by simp_all
         rw [hno] at hn
         exact H.rt (by first|rfl|(simp_all;done)|(simp_all [jr];done)))
      | exact H.rt (by simp_all)
  intro h11 a H
  try have oD:=dF h11
  refine bL kG (cs:=D.cells) H (wg H rfl rfl h11) rfl rfl (fun j v hj=>H.hp.aI (hgd j v hj)) rfl ?_;clear H;intro a H;refine jm aqX [_,_] H (wg H rfl rfl h11) rfl rfl rfl rfl ?_;clear H;intro a H;refine s_call agC H (wg H rfl rfl h11) rfl (aqJ _ _ H.ro D d hR hs.z [] [] _ _ ⟨av.lg rfl (by decide),av.lg rfl (by decide),by decide,by decide⟩) rfl ?_;clear H;rintro v14 Aw a w ⟨b14,rfl,Np⟩ yY H;replace hR:=hR.mono yY;replace hgd:=fun j v hj=>aJ yY (hgd j v hj);refine kH H (YN h11 rfl (Pf h11 rfl (Kn K3 (Cd rfl ?_ ?_)))) <;> clear H K3
  · intro h16 a H
    try have p16:=dT h16
    refine cu (fun _ K5=>?_);refine s_call QH H wn rfl (Uc _ _ H.ro) rfl ?_;clear H;rintro v17 vg a w rfl nN H;replace hR:=hR.mono nN;replace hgd:=fun j v hj=>aJ nN (hgd j v hj);refine kH H (ak K5 rfl ?_);clear H K5;intro a H;refine lr H results7 rfl ?_
    first
      | exact H.rt rfl
      | (have hno:qQ d.flow id=none:=by simp_all
         rw [hno] at hn
         exact H.rt (by first|rfl|(simp_all;done)|(simp_all [jr];done)))
      | exact H.rt (by simp_all)
  intro h16 a H
  try have p16:=dF h16
  refine gU ?_;refine K2 _ _ ?_;clear K2;refine cu (fun _ K6=>?_);refine bL kG (cs:=D.cells) H wn rfl rfl (fun j v hj=>H.hp.aI (hgd j v hj)) rfl ?_;clear H;intro a H;refine kH H (Rm rfl ?_);clear H;intro a H;refine s_call aie H wn rfl (aoS _ _ H.ro D d hR (by omega) id) rfl ?_;clear H;rintro v21 Me a w ⟨x21,rfl,Tp⟩ yg H;obtain ⟨A21,n21,c21,rfl⟩:=Tp.form;have hn:=Tp.len;replace hR:=hR.mono yg;replace hgd:=fun j v hj=>aJ yg (hgd j v hj);refine kH H (Rm rfl ?_);clear H;intro a H;(iterate 2 refine lq H wn rfl rfl rfl ?_;clear H;intro a H);refine kH H (Ra rfl (ak K6 rfl (SR fun _ K7=>?_)));clear H K6;intro a H;refine bL kG (cs:=D.cells) H wn rfl rfl (fun j v hj=>H.hp.aI (hgd j v hj)) rfl ?_;clear H;intro a H;refine kH H (Rm rfl ?_);clear H;intro a H;refine s_call Yk H wn rfl (Y1 _ _ H.ro D d.flow id hR.fl (by omega)) rfl ?_;clear H;rintro v27 PG a w ⟨x27,rfl,ZU⟩ NG H;obtain ⟨A27,n27,c27,rfl⟩:=ZU.form;refine kH H (Rm rfl ?_);clear H;intro a H;(iterate 2 refine lq H wn rfl rfl rfl ?_;clear H;intro a H);refine kH H (Ra rfl (ak K7 rfl (SQ fun _ K8=>SR fun _ K9=>Rm rfl (Rn rfl (Kz K9 (Cd rfl ?_ ?_)))))) <;> clear H K7 K9
  · intro h31 a H
    try have p31:=dT h31
    refine kP H (SR fun _ aR=>Rm rfl (Rl BR rfl (Rc rfl (Rm rfl (Sp 35 rfl ?_ ?_))))) <;> clear H
    · intro fP a H
      try have p35:=dT fP
      refine kH H (YM fP rfl (YC fP rfl (Pt fP rfl (ak aR rfl ?_))));clear H aR;intro a H;refine lr H results7 rfl ?_
      first
        | exact H.rt rfl
        | (have hno:qQ d.flow id=none:=by simp_all
           rw [hno] at hn
           exact H.rt (by first|rfl|(simp_all;done)|(simp_all [jr];done)))
        | exact H.rt (by simp_all)
    intro fP a H
    try have p35:=dF fP
    refine kH H (aQ fP rfl (Pf fP rfl (ak aR rfl ?_)));clear H aR;intro a H;refine lr H results7 rfl ?_
    first
      | exact H.rt rfl
      | (have hno:qQ d.flow id=none:=by simp_all
         rw [hno] at hn
         exact H.rt (by first|rfl|(simp_all;done)|(simp_all [jr];done)))
      | exact H.rt (by simp_all)
  intro h31 a H
  try have p31:=dF h31
  refine kP H (Kc K8 (SR fun _ bQ=>Rm rfl (Rm rfl ?_)));clear H K8;intro a H;refine s_call aik H wn rfl (ajy _ _ H.ro _ _ ZU (by omega)) rfl ?_;clear H;rintro v41 E5 a w KM tL H;refine s_call aij H wn rfl (apX _ _ H.ro _ _ _ ((Tp.mono NG).mono tL) KM (by omega)) rfl ?_;clear H;rintro v42 Mi a w rfl alq H;refine kH H (Rm rfl (Sp 43 rfl ?_ ?_)) <;> clear H
  · intro h43 a H
    try have p43:=dT h43
    refine kH H (YM h43 rfl (YC h43 rfl (Pt h43 rfl (ak bQ rfl ?_))));clear H bQ;intro a H;refine lr H results7 rfl ?_
    first
      | exact H.rt rfl
      | (have hno:qQ d.flow id=none:=by simp_all
         rw [hno] at hn
         exact H.rt (by first|rfl|(simp_all;done)|(simp_all [jr];done)))
      | exact H.rt (by simp_all)
  intro h43 a H
  cases h43
end Go.Proofs.YtdiflmikikiedaaGreat
