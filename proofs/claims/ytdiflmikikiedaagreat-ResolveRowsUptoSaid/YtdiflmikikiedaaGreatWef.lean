/-
  What the claim stands on, part 6: Rf0 Dlr Ccl Cst Dcl Nm Nml Nd13 Hg24 Ne13 Npre Rv24 Dx24 Cd24 Wh24 Dn Mw24 Kt Par Pas L14 L14b L14c It Div Nrm L14d L14e Sl Sm16 Kn24 Sn24 Fg24 Tbs Tz13 Rn24.
-/
import Derived.Test.YtdiflmikikiedaaGreatWee
namespace Go.Proofs.YtdiflmikikiedaaGreat
set_option linter.all false
open Go.Proofs.Tryz
open Go.RowKit
theorem aao {C:bP} {e:Int} {h:dQ} (hE:iE C e h=0):∀ q∈refs h,q=0∨q∈C.Bd:=by
 have z:=mE hE;have h3:=z (jZ C h.marks) (by simp);have h4:=z (kQ (uY C h.marks.bJ) h.marks.bJ.length) (by simp);have h6:=z (kQ (zI C e h.marks.layers) h.marks.layers.length) (by simp);intro q hq
 unfold refs at hq
 rcases kL.1 hq with rfl|hq
 ·unfold jZ at h3
  by_cases h0:h.marks.ins=0
  ·exact .inl h0
  refine .inr (Classical.byContradiction fun hn=>?_);rw [au ⟨h0,hn⟩] at h3;cases h3
 rcases oJ.1 hq with hq|hq
 ·obtain ⟨x,hx,rfl⟩:=List.mem_map.1 hq;obtain ⟨k,hk,rfl⟩:=List.getElem_of_mem hx;have h5:=FL h4 k hk
  unfold uY at h5
  rw [eD hk] at h5;dsimp only [uZ] at h5;refine .inr (Classical.byContradiction fun hn=>?_);rw [au hn] at h5;cases h5
 obtain ⟨x,hx,rfl⟩:=List.mem_map.1 hq;obtain ⟨k,hk,rfl⟩:=List.getElem_of_mem hx;have h5:=FL h6 k hk
 unfold zI at h5
 rw [eD hk] at h5;dsimp only [xI] at h5;refine .inr (Classical.byContradiction fun hn=>?_);rw [au hn] at h5;cases h5
def pY (C:bP) (L:List dQ):Prop:=∀ h∈L,∃ e,iE C e h=0
theorem pY.nil (C:bP):pY C []:=fun _ h=>by cases h
theorem pY.cons {C:bP} {e:Int} {h:dQ} {L:List dQ} (h1:iE C e h=0) (h2:pY C L):pY C (h :: L):=fun x hx=>by
 rcases kL.1 hx with rfl|hx
 ·exact ⟨e,h1⟩
 exact h2 x hx
theorem pY.app {C:bP} {A B:List dQ} (h1:pY C A) (h2:pY C B):pY C (A++B):=fun x hx=>(oJ.1 hx).elim (h1 x) (h2 x)
mutual
theorem amr (C:bP) (body note:Bool) (t:Int):∀ (x:ay) (s s':CS),fJ C body note t x s=(0,s')→pY C (LC x)
 | .mk k c i tx h f r,s,s',e=>by
  have hf:=OZ C false true t f;have hr:=aaK C note (t+1) r;rw [fJ] at e;(iterate 2 obtain ⟨-,e⟩:=mO e);obtain ⟨e1,e⟩:=mO e;rw [LC];refine pY.cons e1 ?_
  by_cases h6:k=6
  ·rw [au h6] at e ⊢;rw [ah (show ¬ k=7 by omega),jd];exact hf _ _ e
  rw [ah h6] at e ⊢;rw [lK]
  by_cases h7:k=7
  ·rw [au h7] at e ⊢;exact hr _ _ (VU e).2
  rw [ah h7];exact pY.nil C
theorem OZ (C:bP) (body note:Bool) (t:Int):∀ (l:List ay) (s s':CS),jF C body note t l s=(0,s')→pY C (pO l)
 | [],_,_,_=>by rw [pO];exact pY.nil C
 | x :: r,s,s',e=>by
  rw [jF] at e;obtain ⟨e1,e⟩:=mO e;rw [pO];exact (amr C body note t x s _ (Prod.ext e1 rfl)).app (OZ C body note t r _ _ e)
theorem ams (C:bP) (note:Bool) (t:Int):∀ (x:aS) (s s':CS),zN C note t x s=(0,s')→pY C (LG x)
 | .mk h cs,s,s',e=>by
  have hc:=aaJ C note t cs;rw [zN] at e;obtain ⟨e1,e⟩:=mO e;rw [LG];exact pY.cons (mE e1 _ gM) (hc _ _ e)
theorem aaK (C:bP) (note:Bool) (t:Int):∀ (l:List aS) (s s':CS),iP C note t l s=(0,s')→pY C (BU l)
 | [],_,_,_=>by rw [BU];exact pY.nil C
 | x :: r,s,s',e=>by
  rw [iP] at e;obtain ⟨e1,e⟩:=mO e;rw [BU];exact (ams C note t x s _ (Prod.ext e1 rfl)).app (aaK C note t r _ _ e)
theorem amq (C:bP) (note:Bool) (t:Int):∀ (x:aT) (s s':CS),cellC C note t x s=(0,s')→pY C (Lj x)
 | .mk i h f,s,s',e=>by
  have hf:=OZ C false note t f;rw [cellC] at e;obtain ⟨-,e⟩:=mO e;obtain ⟨e1,e⟩:=mO e;rw [Lj];exact pY.cons e1 (hf _ _ e)
theorem aaJ (C:bP) (note:Bool) (t:Int):∀ (l:List aT) (s s':CS),qE C note t l s=(0,s')→pY C (Df l)
 | [],_,_,_=>by rw [Df];exact pY.nil C
 | x :: r,s,s',e=>by
  rw [qE] at e;obtain ⟨e1,e⟩:=mO e;rw [Df];exact (amq C note t x s _ (Prod.ext e1 rfl)).app (aaJ C note t r _ _ e)
end
theorem acF {d:jA} (hc:jQ d=0):∀ q∈VR d,q=0∨q∈d.revs.map dh.id:=by
 have z:=mE hc;have h2:=z (dY [iE d.pG 3 d.fin,dx (tK d.fin.marks) 21]) (by simp);have h3:=z (jF d.pG true false 0 d.flow ⟨0,[]⟩).1 (by simp);have hi:=OZ d.pG true false 0 d.flow _ _ (RJ h3);intro q hq
 unfold VR at hq
 rcases oJ.1 hq with hq|hq
 ·obtain ⟨h,hh,hq⟩:=List.mem_flatMap.1 hq;obtain ⟨e,he⟩:=hi h hh;exact aao he q hq
 exact aao (mE h2 _ gM) q hq
theorem acH {d:jA} (hc:jQ d=0):(d.revs.map dh.id).Pairwise (· < ·)∧∀ q∈d.revs.map dh.id,1≤q∧q≤1073741824:=by
 have h:=mE (mE hc _ gM) (FQ d.revs) (by simp);have h1:=mE h _ (gM);have h2:=mE h _ (iO _ gM)
 have hl:d.revs.length≤256:=by
  unfold dx at h1
  by_cases hd:256 < (d.revs.length:Int)
  ·rw [au (aG hd)] at h1;cases h1
  omega
 have hi:∀ i (hi:i < d.revs.length),1≤d.revs[i].id∧d.revs[i].id≤1073741824∧(∀ k (hk:k < d.revs.length),k+1=i→d.revs[k].id < d.revs[i].id):=by
  intro i hi;have h3:=FL h2 i (by omega)
  unfold E5 at h3
  rw [eD hi] at h3;have h4:=Vb (mE h3 _ gM);rw [eD hi] at h4;refine ⟨h4.1,h4.2.1,fun k hk e=>?_⟩;subst e;have h5:=h4.2.2 (by omega);rw [Nat.add_sub_cancel,eD hk] at h5;exact h5
 refine ⟨List.pairwise_iff_getElem.2 ?_,fun q hq=>?_⟩
 ·intro i j hi' hj hij;rw [aZ] at hi' hj;rw [List.getElem_map,List.getElem_map]
  induction j with
  | zero=>omega
  | succ j ih =>
   have h1:=(hi (j+1) hj).2.2 j (by omega) rfl
   by_cases e:i=j
   ·subst e;exact h1
   exact Int.lt_trans (ih (by omega) (by omega) (by omega)) h1
 obtain ⟨x,hx,rfl⟩:=List.mem_map.1 hq;obtain ⟨k,hk,rfl⟩:=List.getElem_of_mem hx;exact ⟨(hi k hk).1,(hi k hk).2.1⟩
theorem asD {d:jA} (hc:jQ d=0) {q:Int} (h:q∈vT d):1≤q∧q≤1073741824:=by
 unfold vT at h
 rw [List.mem_filter,nN,XQ] at h;obtain ⟨h1|h1,h2⟩:=h
 ·cases h1
 exact (acH hc).2 q ((acF hc q h1).resolve_left h2)
theorem asC {d:jA} (hc:jQ d=0):(vT d).length≤d.revs.length:=by
 obtain ⟨hi,-⟩:=acH hc
 have hnd:(d.revs.map dh.id).Nodup:=hi.imp fun h=>by omega
 have hu:(vT d).Nodup:=(XR List.nodup_nil).sublist List.filter_sublist
 have hp:=(List.perm_ext_iff_of_nodup (hnd.sublist (List.filter_sublist (p:=fun q=>decide (q∈vT d)))) hu).2 fun q=>by
  rw [List.mem_filter,nN];refine ⟨fun h=>h.2,fun h=>⟨?_,h⟩⟩;have h1:=h
  unfold vT at h1
  rw [List.mem_filter,nN,XQ] at h1;obtain ⟨h2|h2,h3⟩:=h1
  ·cases h2
  exact (acF hc q h2).resolve_left h3
 rw [← hp.length_eq];exact Nat.le_trans (List.length_filter_le _ _) (by rw [aZ];exact bL _)
theorem ahh:∀ args w,(callFunc 113 args).run prog w=.ok (.enter 113 args) w:=enters func113 rfl (by kernel_rfl)
theorem MH (G:GH) (x:dh):aR G x.dat x.cells:=by
 simp only [dh.dat,dh.cells,aR]
 exact ⟨_,_,rfl,by simp [av,Value.oneCell'],_,_,rfl,by simp [av,Value.oneCell'],_,_,rfl,by simp [av,Value.oneCell'],rfl⟩
def oC (l:List dh):List aj:=(l.map dh.cells).flatten
theorem P7:∀ l:List dh,(oC l).length=l.length*3
 | []=>rfl
 | p :: l=>by
  have:=P7 l
  simp only [oC,fO,List.flatten_cons,iN] at this ⊢
  rw [this,show p.cells.length=3 from rfl,kW];omega
theorem V4:∀ {l:List dh} {k:Nat} (h:k < l.length) (j:Nat),j < 3→(oC l)[k*3+j]?=l[k].cells[j]?
 | p :: l,0,_,j,hj=>by
  simp only [oC,fO,List.flatten_cons,Nat.zero_mul,gJ,List.getElem_cons_zero]
  rw [zo (by rw [show p.cells.length=3 from rfl];exact hj)]
 | p :: l,k+1,h,j,hj=>by
  have ih:=V4 (l:=l) (k:=k) (by simpa using h) j hj
  simp only [oC,fO,List.flatten_cons,List.getElem_cons_succ] at ih ⊢
  rw [sW (by rw [show p.cells.length=3 from rfl];omega),show p.cells.length=3 from rfl,show (k+1)*3+j - 3=k*3+j by omega];exact ih
theorem V3 (l m:List dh):oC (l++m)=oC l++oC m:=by simp [oC]
theorem apY {w0 w:World} {F:Nat→Prop} {G0 G:GH} {L Lo:OL} {e c n:Nat} {A:Option Addr} {l:List dh} (h:bY e 3 (.slice A n c) n (oC l) Lo) (hn:n=l.length) (H:Hp w0 F G0 G L w) (hsub:∀ x∈Lo,x∈L) {k:Nat} (hk:k < l.length) :
  ∃ b,A=some ⟨b,0,none⟩∧∀ j u,[vi l[k].id,.string l[k].author,vi l[k].time][j]?=some u→w.cell? ⟨b,0+k*3+j,none⟩=some u:=by
 rcases h.2 with ⟨_,h0,_⟩|⟨b,cap,cur,he,hl,h1,h2,h3,h4⟩
 ·omega
 injection he with e1 e2 e3
 refine ⟨b,e1,fun j u hu=>?_⟩
 have hj:j < 3:=by have:=(jH.1 hu).1;simpa using this
 refine H.DF (c:=cur) (e:=e) (fz:=(0,0)) (hsub _ (by rw [hl];exact List.mem_singleton_self _)) ?_;have h5:=V4 hk j hj;rw [← h4,tT,au (by omega),Array.getElem?_toList] at h5;rw [show 0+k*3+j=k*3+j by omega,h5];exact hu
theorem anu {G:GH} {w0:World} {Lo:OL} {v fv:aj} (l:List dh) (p:dh→Bool) (hO:gL G Lo w0) (hrw:bY 102 3 v l.length (oC l) Lo) (hf:∀ x∈l,qV fv G x.dat (p x)) :
  Calls prog 113 #[v,fv] w0 (gy w0 G Lo fun u G' L'=>L'=Lo∧u=vi (nE (l.findIdx? p))):=by
 obtain ⟨A,c,rfl,hc1,hc2⟩:=hrw.shape;have hml:maxLen=9223372036854775807:=rfl;refine iY (N:=19) (T:=[(0,_),(1,_)]) func113 rfl ntmps113 rfl rfl hO ?_;intro a H;refine kP H (SR fun _ K1=>ak K1 rfl (SQ fun _ K2=>SR fun _ K3=>Rm rfl (Rl pW rfl (Rm rfl (Kz K3 (SB ?_))))));clear H K1 K3;intro a H;skip;refine fH (ι:=Nat × GH) (Tc:=[(0,_),(1,_),(7,_)]) (Lc:=[]) (fun gh=>[(8,vi gh.1)]) (fun gh=>[]++Lo) (fun gh=>gh.2) (fun gh=>gh.1≤l.length∧(l.take gh.1).findIdx? p=none∧(∀ b o,G b=some o→gh.2 b=some o)) (fun gh=>l.length - gh.1) ((0,G)) (by exact (H).sub ⟨rfl,rfl,rfl,rfl,aC⟩) ?_ ?_
 ·exact ⟨by omega,rfl,fun _ _ h=>h⟩
 clear H;rintro ⟨k,g⟩ a w hI H;dsimp only at hI H;obtain ⟨hk,hno,hgm⟩:=hI;dsimp only [lca,bq] at H;refine kP H (SR fun _ K4=>Rc rfl (Kz K4 (SQ fun _ K5=>Cd rfl ?_ ?_))) <;> clear H K4
 ·intro h9 a H
  try have p9:=dT h9
  have hk2:k < l.length:=by omega
  obtain ⟨b,rfl,hrow⟩:=apY hrw rfl H.hp (fun x hx=>by first|exact hx|exact iO _ hx|simpa using hx) hk2;refine kP H (Kc K5 (SQ fun _ K6=>SB (SR fun _ K7=>Rm rfl (ak K7 rfl (SR fun _ K8=>Rm rfl (Rm rfl (Rm rfl (Ri pW oU rfl rfl ?_))))))));clear H K5 K7;intro a H;refine bB oU (cs:=[vi l[k].id,.string l[k].author,vi l[k].time]) H wn rfl rfl hrow rfl ?_;clear H;intro a H;refine kD H wn rfl rfl (hf _ (kN hk2) _ _ _ hgm H.ro (MH _ l[k])) rfl ?_;clear H;rintro v16 nL a w rfl lH H;refine K8 _ _ ?_;clear K8;refine jC H rfl ?_ ?_
  ·intro h16
   try have p16:=dT h16
   refine kP H (SR fun _ K9=>Rm rfl (ak K9 rfl ?_));clear H K9;intro a H;refine lr H results113 rfl ?_
   first
    | exact H.hp.dJ ⟨rfl,by rw [sN hk2 hno h16];rfl⟩
    | exact H.hp.dJ ⟨rfl,by rw [show l.take k=l from iX (by omega)] at hno;rw [hno];rfl⟩
  intro h16
  try have p16:=dF h16
  refine kP H (Kc K6 (SC (Rd rfl (Rm rfl ?_))));clear H K6;intro a H;refine aD ?_;refine dM ((k+1,nL)) (by exact (H).sub ⟨rfl,rfl,rfl,rfl,aC⟩) ?_
  (try dsimp only);exact ⟨by omega,Cj hk2 hno h16,fun b o h=>lH b o (hgm b o h)⟩
 intro h9 a H
 try have p9:=dF h9
 refine eu ?_;refine K2 _ _ ?_;clear K2;refine kP H (SR fun _ aW=>ak aW rfl ?_);clear H aW;intro a H;refine lr H results113 rfl ?_
 first
  | exact H.hp.dJ ⟨rfl,by rw [sN hk2 hno h16];rfl⟩
  | exact H.hp.dJ ⟨rfl,by rw [show l.take k=l from iX (by omega)] at hno;rw [hno];rfl⟩
theorem apS {G:GH} {l:List dh} {xs:List aj} (h:bR G 3 (l.map dh.dat) xs):xs=oC l:=by
 obtain ⟨css,rfl,h2,h3⟩:=h;rw [aZ] at h2
 have e:css=l.map dh.cells:=by
  apply List.ext_getElem?
  intro j;rw [pE]
  by_cases hj:j < l.length
  ·have h4:=(h3 j l[j].dat css[j] (by simp [hj]) (eD (by omega))).1;rw [eD hj,eD (by omega),V6 h4];rfl
  rw [List.getElem?_eq_none (by omega),List.getElem?_eq_none (by omega)];rfl
 rw [e];rfl
theorem apE {l:List dh} {p:dh→Bool} {i:Nat} (h:l.findIdx? p=some i):∃ hi:i < l.length,(l.take (i+1)).filter (fun x=>!p x)=l.take i:=by
 obtain ⟨hi,h1,h2⟩:=List.findIdx?_eq_some_iff_getElem.1 h;refine ⟨hi,?_⟩;rw [iH hi,List.filter_append,List.filter_eq_self.2]
 ·simp [h1]
 intro x hx;obtain ⟨j,hj,rfl⟩:=List.getElem_of_mem hx;rw [List.getElem_take]
 have hj2:j < i:=by rw [List.length_take] at hj;omega
 have:=h2 j hj2
 simpa using this
theorem apF {l:List dh} {p:dh→Bool} (h:l.findIdx? p=none):l.filter (fun x=>!p x)=l:=by
 rw [List.findIdx?_eq_none_iff] at h
 exact List.filter_eq_self.2 fun x hx=>by rw [h x hx];rfl
theorem apG {cl:List aj} {i:Nat} {x y z:aj} (h:i*3+3≤cl.length):(setRow cl (0+i*3) [x,y,z]).length=cl.length∧(setRow cl (0+i*3) [x,y,z]).take ((i+1)*3)=cl.take (i*3)++[x,y,z]∧∀ m,(i+1)*3≤m→(setRow cl (0+i*3) [x,y,z])[m]?=cl[m]?:=by
 have e:setRow cl (0+i*3) [x,y,z]=cl.take (i*3)++[x,y,z]++cl.drop (i*3+3):=by
  rw [gJ,Qe _ _ _ (by simpa using h)];rfl
 have hl:(cl.take (i*3)++[x,y,z]).length=(i+1)*3:=by rw [iN,List.length_take];simp;omega
 refine ⟨Wm ..,?_,fun m hm=>?_⟩
 ·rw [e,← hl,List.take_left]
 rw [e,sW (by omega),hl,List.getElem?_drop];congr 1;omega
theorem apD {l:List dh} {cl:List aj} {i:Nat} (hi:i < l.length) (h:cl.take (l.length*3)=oC l):cl.take (i*3)=oC (l.take i):=by
 have e:cl.take (i*3)=(cl.take (l.length*3)).take (i*3):=by rw [List.take_take,Nat.min_eq_left (by omega)]
 have h2:oC l=oC (l.take i)++oC (l.drop i):=by rw [← V3,List.take_append_drop]
 have h3:(oC (l.take i)).length=i*3:=by rw [P7,List.length_take];omega
 rw [e,h,h2,← h3,List.take_left]
theorem apH {l:List dh} {p:dh→Bool} {j:Nat} (hj:j < l.length):(l.take (j+1)).filter (fun x=>!p x)=(l.take j).filter (fun x=>!p x)++if p l[j] then [] else [l[j]]:=by
 rw [iH hj,List.filter_append]
 cases h:p l[j] <;> simp [h]
set_option maxHeartbeats 1000000 in
theorem agO {G:GH} {w0:World} {Lo:OL} {v fv:aj} (l:List dh) (p:dh→Bool) (hO:gL G Lo w0) (hrw:bY 102 3 v l.length (oC l) Lo) (hf:∀ x∈l,qV fv G x.dat (p x)) :
  Calls prog 59 #[v,fv] w0 (gy w0 G Lo fun u G' L'=>bY 102 3 u (l.filter fun x=>!p x).length (oC (l.filter fun x=>!p x)) L'):=by
 obtain ⟨A,c,rfl,hc1,hc2⟩:=hrw.shape;have hml:maxLen=9223372036854775807:=rfl;have hdl:=P7 l;refine iY (N:=42) (T:=[(0,_),(1,_)]) func59 rfl ntmps59 rfl rfl hO ?_;intro a H;refine kP H (SR fun _ K1=>ak K1 rfl (SR fun _ K2=>Rm rfl (Rm rfl ?_)));clear H K1;intro a H;refine gW ahh (Li:=[]) (L:=Lo) H wn rfl (anu l p (Hp.owns (Li:=[]) H.hp) hrw hf) rfl ?_;clear H;rintro v10 CK L10 a w ⟨rfl,rfl⟩ EF H;dsimp only [List.nil_append] at H;obtain ⟨o,ho⟩:∃ o,o=l.findIdx? p:=⟨_,rfl⟩;rw [← ho] at H;refine kH H (ak K2 rfl (SQ fun _ K3=>SR fun _ K4=>Rm rfl (Rc rfl (Kz K4 (Cd rfl ?_ ?_))))) <;> clear H K2 K4
 ·intro h12 a H
  try have rO:=dT h12
  obtain rfl:o=none:=by cases o with|none=>rfl|some i=>first|(simp [nE] at rO;done)|(simp [nE] at rO;omega)
  exact kP H (SR fun _ K5=>Rm rfl (ak K5 rfl (LR results59 rfl fun H=>H.hp.dJ (by rw [apF ho.symm];exact hrw))))
 intro h12 a H
 try have rO:=dF h12
 obtain ⟨i0,rfl⟩:∃ i,o=some i:=by cases o with|none=>simp [nE] at rO|some i=>exact ⟨i,rfl⟩
 obtain ⟨hi0,hinit⟩:=apE ho.symm
 rcases hrw.2 with ⟨_,h0,_⟩|⟨b,cap,cur,he,rfl,hcap1,hcap2,hsz,htk⟩
 ·omega
 injection he with e1 e2 e3
 subst e1;subst e3;obtain ⟨cl0,rfl⟩:∃ cl:List aj,cur=cl.toArray:=⟨cur.toList,by simp⟩;rw [List.size_toArray] at hsz;dsimp only [nE] at H;refine kP H (Kc K3 (SQ fun _ K6=>SR fun _ K7=>Rm rfl (Rd rfl (ak K7 rfl (SB ?_)))));clear H K3 K7;intro a H;skip;refine fH (ι:=Nat × Nat × List aj × GH) (Tc:=[(0,_),(1,_)]) (Lc:=[]) (fun gh=>[(5,vi gh.2.1),(6,vi gh.1)]) (fun gh=>[(b,.cells gh.2.2.1.toArray 102 (0,0))]) (fun gh=>gh.2.2.2) (fun gh=>gh.2.1 < gh.1∧gh.1≤l.length∧gh.2.2.1.length=c*3∧gh.2.1=((l.take gh.1).filter fun x=>!p x).length∧gh.2.2.1.take (gh.2.1*3)=oC ((l.take gh.1).filter fun x=>!p x)∧(∀ m,gh.1*3≤m→m < l.length*3→gh.2.2.1[m]?=(oC l)[m]?)∧(∀ b o,G b=some o→gh.2.2.2 b=some o)) (fun gh=>l.length - gh.1) ((i0+1,i0,cl0,CK)) (by exact (H).sub ⟨rfl,rfl,rfl,rfl,aC⟩) ?_ ?_
 ·exact ⟨Nat.lt_succ_self _,hi0,hsz,by rw [hinit,List.length_take];exact (Nat.min_eq_left (Nat.le_of_lt hi0)).symm,by rw [hinit];exact apD hi0 htk,fun m h1 h2=>by rw [← htk,tT,au h2],EF⟩
 clear H;rintro ⟨j,i,cl,g⟩ a w hI H;dsimp only at hI H;obtain ⟨hij,hj,hcl,hil,hkept,hrest,hgm⟩:=hI;dsimp only [lca,bq] at H;refine kP H (SQ fun _ K8=>SR fun _ K9=>Rm rfl (Rm rfl (Rl pW rfl (Rc rfl (Kz K9 (Cd rfl ?_ ?_)))))) <;> clear H K9
 ·intro h19 a H
  try have sO:=dT h19
  have hj2:j < l.length:=by omega
  have hjc:∀ q u,[vi l[j].id,.string l[j].author,vi l[j].time][q]?=some u→cl.toArray[0+j*3+q]?=some u:=fun q u hq=>by
   have hq2:q < 3:=by have:=(jH.1 hq).1;simpa using this
   rw [List.getElem?_toArray,gJ,hrest _ (by omega) (by omega),V4 hj2 q hq2];exact hq
  have hdt:=apH (p:=p) hj2;refine kP H (Kc K8 (SQ fun _ aW=>SB (SR fun _ bO=>Rm rfl (Rm rfl (Ri pW oU rfl rfl ?_)))));clear H K8;intro a H;refine bB oU (cs:=[vi l[j].id,.string l[j].author,vi l[j].time]) H wn rfl rfl (fun q u hq=>H.hp.DF (c:=cl.toArray) gM (hjc q u hq)) rfl ?_;clear H;intro a H;refine dB oU H wn rfl ?_;clear H;intro b7 a w zC H;refine aY oU 0 (vs:=[_,_,_]) _ H wn rfl rfl rfl rfl rfl rfl rfl rfl ?_;clear H;intro w H;dsimp only [List.set,setRow] at H;refine bO _ _ ?_;clear bO;refine kP H (SR fun _ bW=>Rm rfl ?_);clear H;intro a H;refine bB oU (cs:=[_,_,_]) H wn rfl rfl (H.hp.bU 0 rfl rfl) rfl ?_;clear H;intro a H;refine kD H wn rfl rfl (hf _ (kN hj2) _ _ _ hgm H.ro (MH _ l[j])) rfl ?_;clear H;rintro v28 J9 a w rfl EH H;refine kH H (Rn rfl (Kz bW (Cd rfl ?_ ?_))) <;> clear H bW
  ·intro gU a H
   try have p29:=dT gU
   rw [ah (by simpa using gU)] at hdt;have hds:=apG (cl:=cl) (i:=i) (x:=vi l[j].id) (y:=.string l[j].author) (z:=vi l[j].time) (by omega);refine kP H (SR fun _ cB=>Rm rfl (Rm rfl ?_));clear H;intro a H;refine bB oU (cs:=[_,_,_]) H wn rfl rfl (H.hp.bU 0 rfl rfl) rfl ?_;clear H;intro a H;refine kH H (Ri pW oU rfl rfl ?_);clear H;intro a H;refine aY oU 1 (c:=cl) (vs:=[vi l[j].id,.string l[j].author,vi l[j].time]) _ H wn rfl rfl rfl rfl rfl rfl (Nat.ble_eq_true_of_le (by simp only [kW,List.length_nil];omega)) rfl ?_;clear H;intro w H;dsimp only [List.set] at H;refine cB _ _ ?_;clear cB;refine kP H (SC (Rm rfl (Rd rfl (bC aW rfl (SC (Rm rfl (Rd rfl (Ra rfl ?_))))))));clear H aW;intro a H;refine aD ?_;refine dM ((j+1,i+1,setRow cl (0+i*3) [vi l[j].id,.string l[j].author,vi l[j].time],J9)) (by exact (H.dG (Pl:=[_,_]) (cZ:=[_]) [1] (by decide) rfl).sub ⟨rfl,rfl,rfl,rfl,aC⟩) ?_
   (try dsimp only);exact ⟨by omega,by omega,by rw [hds.1,hcl],by rw [hdt,iN,← hil];rfl,by rw [hdt,V3,← hkept,hds.2.1];rfl,fun m h1 h2=>by rw [hds.2.2 m (by omega),hrest m (by omega) h2],fun b o h=>EH b o (hgm b o h)⟩
  intro gU a H
  try have p29:=dF gU
  rw [au (by simpa using gU),jd] at hdt;refine kP H (Kc aW (SC (Rm rfl (Rd rfl (Ra rfl ?_)))));clear H aW;intro a H;refine aD ?_;refine dM ((j+1,i,cl,J9)) (by exact (H.dG (Pl:=[_,_]) (cZ:=[_]) [1] (by decide) rfl).sub ⟨rfl,rfl,rfl,rfl,aC⟩) ?_
  (try dsimp only);exact ⟨by omega,by omega,hcl,by rw [hdt];exact hil,by rw [hdt];exact hkept,fun m h1 h2=>hrest m (by omega) h2,fun b o h=>EH b o (hgm b o h)⟩
 intro h19 a H
 try have sO:=dF h19
 refine eu ?_;refine K6 _ _ ?_;clear K6;refine kP H (SR fun _ dw=>Rm rfl (Rm rfl ?_));clear H;intro a H;refine zP pW oU i H wn rfl rfl rfl (by omega) rfl ?_;clear H;intro a H;rw [ah (by omega),vW,add_lit] at H;refine acZ pW oU rfl rfl 0 H wn rfl rfl (by omega) (by omega) ?_;clear H;intro cz w hz1 hz2 H;dsimp only [List.set] at H;refine dw _ _ ?_;clear dw;refine kP H (SR fun _ dR=>Rm rfl (Rm rfl ?_));clear H;intro a H;refine Fb pW oU i H wn rfl rfl rfl (by omega) rfl ?_;clear H;intro a H;refine kH H (ak dR rfl ?_);clear H dR;intro a H;refine lr H results59 rfl ?_
 obtain rfl:j=l.length:=by omega
 rw [tX] at hil hkept;exact H.hp.dJ ⟨P7 _,.inr ⟨b,c,cz.toArray,by rw [← hil],rfl,by omega,hcap2,by rw [List.size_toArray,hz1,hcl],by rw [← hkept,← hil];rw [gJ] at hz2;exact hz2⟩⟩
theorem Yp (G:GH) (w0:World) (hO:gL G [] w0) (rows:List (List Dat)) (A:Option Addr) (n c:Nat) (hv:av G (.sl 3 rows) (.slice A n c)) (hz:rows.length≤4294967296) :
  Calls prog 60 #[.slice A n c] w0 (gy w0 G [] fun u G' L'=>∃ xs,bY 102 3 u rows.length xs L'∧bR G' 3 rows xs):=by
 obtain ⟨hn,hc1,hc2,hnil,hx⟩:=hv.cells;refine iY (N:=8) (T:=[(0,_)]) func60 rfl ntmps60 rfl rfl hO ?_;intro a H;refine kP H (SR fun _ K1=>ak K1 rfl (SQ fun _ K2=>SR fun _ K3=>Rm rfl ?_));clear H K1;intro a H;refine Cu pW H wn rfl rfl ?_;clear H;intro a H;refine K3 _ _ ?_;clear K3;refine jC H rfl ?_ ?_
 ·intro h4
  refine kP H (SR fun _ K4=>ak K4 rfl ?_);clear H K4;intro a H;refine lr H results60 rfl ?_;have hr0:=hnil (by simpa using h4);subst hr0;exact H.hp.dJ ⟨[],bY.nil,bR.nil⟩
 intro h4
 try have p4:=dF h4
 refine fZ ?_;refine K2 _ _ ?_;clear K2;refine bN (fun _ K5=>?_)
 have hA:¬ A=none:=by intro e;rw [e] at h4;cases h4
 refine mP ?_;refine Cq pW oU H wn rfl ?_;clear H;intro b5 a w hb5 H;refine kH H (Rm rfl ?_);clear H;intro a H
 by_cases hr0:rows=[]
 ·have hn0:n=0:=by rw [hn,hr0];rfl
  subst hn0;refine Bf pW oU H wn rfl rfl (bL _) rfl ?_;clear H;intro a H;refine kH H (bC K5 rfl ?_);clear H K5;intro a H;refine lr H results60 rfl ?_;subst hr0;exact H.hp.dJ ⟨[],bY.empty,bR.nil⟩
 obtain ⟨b,o,xs,rfl,hxl,hxc,hx1,dP⟩:=hx hr0;refine nk (Li:=[]) (Lo:=[_]) (news:=xs) pW oU rfl rfl H wn rfl rfl bY.empty hxl (fun j u hj=>H.hp.aI (hxc j u hj)) hx1 (by omega) (by omega) rfl ?_;clear H;intro v7 Lo a w hrow H;dsimp only [List.nil_append] at H;exact kH H (bC K5 rfl (LR results60 rfl fun H=>H.hp.dJ ⟨_,by rw [gJ,hn] at hrow;exact hrow,dP⟩))
theorem agp (G:GH) (w0:World) (hO:gL G [] w0) (rows:List (List Dat)) (A:Option Addr) (n c:Nat) (hv:av G (.sl 6 rows) (.slice A n c)) (hz:rows.length≤4294967296) :
  Calls prog 175 #[.slice A n c] w0 (gy w0 G [] fun u G' L'=>∃ xs,bY 192 6 u rows.length xs L'∧bR G' 6 rows xs):=by
 obtain ⟨hn,hc1,hc2,hnil,hx⟩:=hv.cells;refine iY (N:=8) (T:=[(0,_)]) func175 rfl ntmps175 rfl rfl hO ?_;intro a H;refine kP H (SR fun _ K1=>ak K1 rfl (SQ fun _ K2=>SR fun _ K3=>Rm rfl ?_));clear H K1;intro a H;refine Cu mg H wn rfl rfl ?_;clear H;intro a H;refine K3 _ _ ?_;clear K3;refine jC H rfl ?_ ?_
 ·intro h4
  refine kP H (SR fun _ K4=>ak K4 rfl ?_);clear H K4;intro a H;refine lr H results175 rfl ?_;have hr0:=hnil (by simpa using h4);subst hr0;exact H.hp.dJ ⟨[],bY.nil,bR.nil⟩
 intro h4
 try have p4:=dF h4
 refine fZ ?_;refine K2 _ _ ?_;clear K2;refine bN (fun _ K5=>?_)
 have hA:¬ A=none:=by intro e;rw [e] at h4;cases h4
 refine mP ?_;refine Cq mg kE H wn rfl ?_;clear H;intro b5 a w hb5 H;refine kH H (Rm rfl ?_);clear H;intro a H
 by_cases hr0:rows=[]
 ·have hn0:n=0:=by rw [hn,hr0];rfl
  subst hn0;refine Bf mg kE H wn rfl rfl (bL _) rfl ?_;clear H;intro a H;refine kH H (bC K5 rfl ?_);clear H K5;intro a H;refine lr H results175 rfl ?_;subst hr0;exact H.hp.dJ ⟨[],bY.empty,bR.nil⟩
 obtain ⟨b,o,xs,rfl,hxl,hxc,hx1,dP⟩:=hx hr0;refine nk (Li:=[]) (Lo:=[_]) (news:=xs) mg kE rfl rfl H wn rfl rfl bY.empty hxl (fun j u hj=>H.hp.aI (hxc j u hj)) hx1 (by omega) (by omega) rfl ?_;clear H;intro v7 Lo a w hrow H;dsimp only [List.nil_append] at H;exact kH H (bC K5 rfl (LR results175 rfl fun H=>H.hp.dJ ⟨_,by rw [gJ,hn] at hrow;exact hrow,dP⟩))
theorem agn (G:GH) (w0:World) (hO:gL G [] w0) (rows:List (List Dat)) (A:Option Addr) (n c:Nat) (hv:av G (.sl 2 rows) (.slice A n c)) (hz:rows.length≤4294967296) :
  Calls prog 176 #[.slice A n c] w0 (gy w0 G [] fun u G' L'=>∃ xs,bY 93 2 u rows.length xs L'∧bR G' 2 rows xs):=by
 obtain ⟨hn,hc1,hc2,hnil,hx⟩:=hv.cells;refine iY (N:=8) (T:=[(0,_)]) func176 rfl ntmps176 rfl rfl hO ?_;intro a H;refine kP H (SR fun _ K1=>ak K1 rfl (SQ fun _ K2=>SR fun _ K3=>Rm rfl ?_));clear H K1;intro a H;refine Cu xS H wn rfl rfl ?_;clear H;intro a H;refine K3 _ _ ?_;clear K3;refine jC H rfl ?_ ?_
 ·intro h4
  refine kP H (SR fun _ K4=>ak K4 rfl ?_);clear H K4;intro a H;refine lr H results176 rfl ?_;have hr0:=hnil (by simpa using h4);subst hr0;exact H.hp.dJ ⟨[],bY.nil,bR.nil⟩
 intro h4
 try have p4:=dF h4
 refine fZ ?_;refine K2 _ _ ?_;clear K2;refine bN (fun _ K5=>?_)
 have hA:¬ A=none:=by intro e;rw [e] at h4;cases h4
 refine mP ?_;refine Cq xS Bq H wn rfl ?_;clear H;intro b5 a w hb5 H;refine kH H (Rm rfl ?_);clear H;intro a H
 by_cases hr0:rows=[]
 ·have hn0:n=0:=by rw [hn,hr0];rfl
  subst hn0;refine Bf xS Bq H wn rfl rfl (bL _) rfl ?_;clear H;intro a H;refine kH H (bC K5 rfl ?_);clear H K5;intro a H;refine lr H results176 rfl ?_;subst hr0;exact H.hp.dJ ⟨[],bY.empty,bR.nil⟩
 obtain ⟨b,o,xs,rfl,hxl,hxc,hx1,dP⟩:=hx hr0;refine nk (Li:=[]) (Lo:=[_]) (news:=xs) xS Bq rfl rfl H wn rfl rfl bY.empty hxl (fun j u hj=>H.hp.aI (hxc j u hj)) hx1 (by omega) (by omega) rfl ?_;clear H;intro v7 Lo a w hrow H;dsimp only [List.nil_append] at H;exact kH H (bC K5 rfl (LR results176 rfl fun H=>H.hp.dJ ⟨_,by rw [gJ,hn] at hrow;exact hrow,dP⟩))
theorem agl (G:GH) (w0:World) (hO:gL G [] w0) (rows:List (List Dat)) (A:Option Addr) (n c:Nat) (hv:av G (.sl 6 rows) (.slice A n c)) (hz:rows.length≤4294967296) :
  Calls prog 177 #[.slice A n c] w0 (gy w0 G [] fun u G' L'=>∃ xs,bY 107 6 u rows.length xs L'∧bR G' 6 rows xs):=by
 obtain ⟨hn,hc1,hc2,hnil,hx⟩:=hv.cells;refine iY (N:=8) (T:=[(0,_)]) func177 rfl ntmps177 rfl rfl hO ?_;intro a H;refine kP H (SR fun _ K1=>ak K1 rfl (SQ fun _ K2=>SR fun _ K3=>Rm rfl ?_));clear H K1;intro a H;refine Cu zS H wn rfl rfl ?_;clear H;intro a H;refine K3 _ _ ?_;clear K3;refine jC H rfl ?_ ?_
 ·intro h4
  refine kP H (SR fun _ K4=>ak K4 rfl ?_);clear H K4;intro a H;refine lr H results177 rfl ?_;have hr0:=hnil (by simpa using h4);subst hr0;exact H.hp.dJ ⟨[],bY.nil,bR.nil⟩
 intro h4
 try have p4:=dF h4
 refine fZ ?_;refine K2 _ _ ?_;clear K2;refine bN (fun _ K5=>?_)
 have hA:¬ A=none:=by intro e;rw [e] at h4;cases h4
 refine mP ?_;refine Cq zS Bj H wn rfl ?_;clear H;intro b5 a w hb5 H;refine kH H (Rm rfl ?_);clear H;intro a H
 by_cases hr0:rows=[]
 ·have hn0:n=0:=by rw [hn,hr0];rfl
  subst hn0;refine Bf zS Bj H wn rfl rfl (bL _) rfl ?_;clear H;intro a H;refine kH H (bC K5 rfl ?_);clear H K5;intro a H;refine lr H results177 rfl ?_;subst hr0;exact H.hp.dJ ⟨[],bY.empty,bR.nil⟩
 obtain ⟨b,o,xs,rfl,hxl,hxc,hx1,dP⟩:=hx hr0;refine nk (Li:=[]) (Lo:=[_]) (news:=xs) zS Bj rfl rfl H wn rfl rfl bY.empty hxl (fun j u hj=>H.hp.aI (hxc j u hj)) hx1 (by omega) (by omega) rfl ?_;clear H;intro v7 Lo a w hrow H;dsimp only [List.nil_append] at H;exact kH H (bC K5 rfl (LR results177 rfl fun H=>H.hp.dJ ⟨_,by rw [gJ,hn] at hrow;exact hrow,dP⟩))
theorem agf (G:GH) (w0:World) (hG:Hold G w0) (rows:List (List Dat)) (A:Option Addr) (n c:Nat) (hv:av G (.sl 6 rows) (.slice A n c)) (hz:rows.length≤4294967296) :
  Calls prog 177 #[.slice A n c] w0 (bH w0 G fun u G'=>av G' (.sl 6 rows) u):=IV hG (agl G w0 (yR hG) rows A n c hv hz) rfl
theorem agq (G:GH) (w0:World) (hO:gL G [] w0) (rows:List (List Dat)) (A:Option Addr) (n c:Nat) (hv:av G (.sl 2 rows) (.slice A n c)) (hz:rows.length≤4294967296) :
  Calls prog 178 #[.slice A n c] w0 (gy w0 G [] fun u G' L'=>∃ xs,bY 110 2 u rows.length xs L'∧bR G' 2 rows xs):=by
 obtain ⟨hn,hc1,hc2,hnil,hx⟩:=hv.cells;refine iY (N:=8) (T:=[(0,_)]) func178 rfl ntmps178 rfl rfl hO ?_;intro a H;refine kP H (SR fun _ K1=>ak K1 rfl (SQ fun _ K2=>SR fun _ K3=>Rm rfl ?_));clear H K1;intro a H;refine Cu wQ H wn rfl rfl ?_;clear H;intro a H;refine K3 _ _ ?_;clear K3;refine jC H rfl ?_ ?_
 ·intro h4
  refine kP H (SR fun _ K4=>ak K4 rfl ?_);clear H K4;intro a H;refine lr H results178 rfl ?_;have hr0:=hnil (by simpa using h4);subst hr0;exact H.hp.dJ ⟨[],bY.nil,bR.nil⟩
 intro h4
 try have p4:=dF h4
 refine fZ ?_;refine K2 _ _ ?_;clear K2;refine bN (fun _ K5=>?_)
 have hA:¬ A=none:=by intro e;rw [e] at h4;cases h4
 refine mP ?_;refine Cq wQ Bl H wn rfl ?_;clear H;intro b5 a w hb5 H;refine kH H (Rm rfl ?_);clear H;intro a H
 by_cases hr0:rows=[]
 ·have hn0:n=0:=by rw [hn,hr0];rfl
  subst hn0;refine Bf wQ Bl H wn rfl rfl (bL _) rfl ?_;clear H;intro a H;refine kH H (bC K5 rfl ?_);clear H K5;intro a H;refine lr H results178 rfl ?_;subst hr0;exact H.hp.dJ ⟨[],bY.empty,bR.nil⟩
 obtain ⟨b,o,xs,rfl,hxl,hxc,hx1,dP⟩:=hx hr0;refine nk (Li:=[]) (Lo:=[_]) (news:=xs) wQ Bl rfl rfl H wn rfl rfl bY.empty hxl (fun j u hj=>H.hp.aI (hxc j u hj)) hx1 (by omega) (by omega) rfl ?_;clear H;intro v7 Lo a w hrow H;dsimp only [List.nil_append] at H;exact kH H (bC K5 rfl (LR results178 rfl fun H=>H.hp.dJ ⟨_,by rw [gJ,hn] at hrow;exact hrow,dP⟩))
theorem agi (G:GH) (w0:World) (hG:Hold G w0) (rows:List (List Dat)) (A:Option Addr) (n c:Nat) (hv:av G (.sl 2 rows) (.slice A n c)) (hz:rows.length≤4294967296) :
  Calls prog 178 #[.slice A n c] w0 (bH w0 G fun u G'=>av G' (.sl 2 rows) u):=IV hG (agq G w0 (yR hG) rows A n c hv hz) rfl
theorem agm (G:GH) (w0:World) (hO:gL G [] w0) (rows:List (List Dat)) (A:Option Addr) (n c:Nat) (hv:av G (.sl 4 rows) (.slice A n c)) (hz:rows.length≤4294967296) :
  Calls prog 179 #[.slice A n c] w0 (gy w0 G [] fun u G' L'=>∃ xs,bY 96 4 u rows.length xs L'∧bR G' 4 rows xs):=by
 obtain ⟨hn,hc1,hc2,hnil,hx⟩:=hv.cells;refine iY (N:=8) (T:=[(0,_)]) func179 rfl ntmps179 rfl rfl hO ?_;intro a H;refine kP H (SR fun _ K1=>ak K1 rfl (SQ fun _ K2=>SR fun _ K3=>Rm rfl ?_));clear H K1;intro a H;refine Cu Fj H wn rfl rfl ?_;clear H;intro a H;refine K3 _ _ ?_;clear K3;refine jC H rfl ?_ ?_
 ·intro h4
  refine kP H (SR fun _ K4=>ak K4 rfl ?_);clear H K4;intro a H;refine lr H results179 rfl ?_;have hr0:=hnil (by simpa using h4);subst hr0;exact H.hp.dJ ⟨[],bY.nil,bR.nil⟩
 intro h4
 try have p4:=dF h4
 refine fZ ?_;refine K2 _ _ ?_;clear K2;refine bN (fun _ K5=>?_)
 have hA:¬ A=none:=by intro e;rw [e] at h4;cases h4
 refine mP ?_;refine Cq Fj Ic H wn rfl ?_;clear H;intro b5 a w hb5 H;refine kH H (Rm rfl ?_);clear H;intro a H
 by_cases hr0:rows=[]
 ·have hn0:n=0:=by rw [hn,hr0];rfl
  subst hn0;refine Bf Fj Ic H wn rfl rfl (bL _) rfl ?_;clear H;intro a H;refine kH H (bC K5 rfl ?_);clear H K5;intro a H;refine lr H results179 rfl ?_;subst hr0;exact H.hp.dJ ⟨[],bY.empty,bR.nil⟩
 obtain ⟨b,o,xs,rfl,hxl,hxc,hx1,dP⟩:=hx hr0;refine nk (Li:=[]) (Lo:=[_]) (news:=xs) Fj Ic rfl rfl H wn rfl rfl bY.empty hxl (fun j u hj=>H.hp.aI (hxc j u hj)) hx1 (by omega) (by omega) rfl ?_;clear H;intro v7 Lo a w hrow H;dsimp only [List.nil_append] at H;exact kH H (bC K5 rfl (LR results179 rfl fun H=>H.hp.dJ ⟨_,by rw [gJ,hn] at hrow;exact hrow,dP⟩))
theorem agh (G:GH) (w0:World) (hG:Hold G w0) (rows:List (List Dat)) (A:Option Addr) (n c:Nat) (hv:av G (.sl 4 rows) (.slice A n c)) (hz:rows.length≤4294967296) :
  Calls prog 179 #[.slice A n c] w0 (bH w0 G fun u G'=>av G' (.sl 4 rows) u):=IV hG (agm G w0 (yR hG) rows A n c hv hz) rfl
theorem ahS:∀ args w,(callFunc 175 args).run prog w=.ok (.enter 175 args) w:=enters func175 rfl (by kernel_rfl)
theorem ahT:∀ args w,(callFunc 176 args).run prog w=.ok (.enter 176 args) w:=enters func176 rfl (by kernel_rfl)
theorem ahU:∀ args w,(callFunc 177 args).run prog w=.ok (.enter 177 args) w:=enters func177 rfl (by kernel_rfl)
theorem ahV:∀ args w,(callFunc 178 args).run prog w=.ok (.enter 178 args) w:=enters func178 rfl (by kernel_rfl)
theorem arS:qd prog 36 [(0,1),(1,1),(2,1),(3,1)] [.slice none 0 0,.slice none 0 0,.slice none 0 0,.slice none 0 0]:=⟨by kernel_rfl,by kernel_rfl⟩
theorem ahW:∀ args w,(callFunc 179 args).run prog w=.ok (.enter 179 args) w:=enters func179 rfl (by kernel_rfl)
theorem aR.setAt {G:GH}:∀ {r:List Dat} {cs:List aj} {k:Nat} {d:Dat} {v:aj},aR G r cs→r[k]?=some d→av G d v→aR G r (cs.set k v)
 | [],_,_,_,_,_,h,_=>by simp at h
 | e :: r,cs,k,d,v,h,hk,hv=>by
  simp only [aR] at h ⊢
  obtain ⟨x,vs,rfl,h1,h2⟩:=h
  cases k with
  | zero =>
   simp only [BJ,oI] at hk
   subst hk;exact ⟨v,vs,rfl,hv,h2⟩
  | succ k=>exact ⟨x,vs.set k v,rfl,h1,aR.setAt h2 (by simpa using hk) hv⟩
theorem bR.setAt {G:GH} {sz:Nat}:∀ {rows:List (List Dat)} {xs:List aj} {i k:Nat} {r:List Dat} {d:Dat} {v:aj},bR G sz rows xs→rows[i]?=some r→r[k]?=some d→k < sz→av G d v→bR G sz rows (xs.set (i*sz+k) v)
 | [],_,_,_,_,_,_,_,h,_,_,_=>by simp at h
 | q :: rows,xs,i,k,r,d,v,h,hr,hk,hs,hv=>by
  obtain ⟨css,rfl,h2,h3⟩:=h
  cases css with
  | nil=>simp at h2
  | cons c css =>
   obtain ⟨h4,h5⟩:=h3 0 q c rfl rfl;have h6:bR G sz rows css.flatten:=⟨css,rfl,by simpa using h2,fun j r' cs hr' hc=>h3 (j+1) r' cs (by simpa using hr') (by simpa using hc)⟩
   have h7:∀ {c' x':List aj},aR G q c'→c'.length=sz→bR G sz rows x'→bR G sz (q :: rows) (c'++x'):=fun a b e=>by
    have h8:=((bR.nil (G:=G) (sz:=sz)).snoc a b).append e
    simpa using h8
   rw [List.flatten_cons]
   cases i with
   | zero =>
    simp only [BJ,oI] at hr
    subst hr;rw [Nat.zero_mul,gJ,List.set_append_left _ _ (by omega)];exact h7 (h4.setAt hk hv) (by rw [List.length_set];exact h5) h6
   | succ i =>
    rw [List.set_append_right _ _ (by rw [h5,Nat.succ_mul];omega),h5,show (i+1)*sz+k - sz=i*sz+k by rw [Nat.succ_mul];omega];exact h7 h4 h5 (bR.setAt h6 (by simpa using hr) hk hs hv)
theorem arW {G:GH} {l:List cu} {xs:List aj} {k:Nat} (h:bR G 6 (l.map cu.dat) xs) (hk:k < l.length):∃ A c,xs[k*6+5]?=some (.slice A l[k].props.length c)∧av G (.sl 2 (l[k].props.map aO.dat)) (.slice A l[k].props.length c):=by
 obtain ⟨cs,hcl,hcx,hcr⟩:=h.at (k:=k) (r:=l[k].dat) (by simp [hk]);obtain ⟨A,c,rfl,hp⟩:=Qj hcr;exact ⟨A,c,hcx 5 _ rfl,hp⟩
theorem anP {G:GH} {l:List fK} {xs:List aj} {k:Nat} (h:bR G 2 (l.map fK.dat) xs) (hk:k < l.length):∃ A n c,xs[k*2+1]?=some (.slice A n c)∧av G (.sl 4 (l[k].levels.map pz.dat)) (.slice A n c):=by
 obtain ⟨cs,hcl,hcx,hcr⟩:=h.at (k:=k) (r:=l[k].dat) (by simp [hk]);obtain ⟨v1,vs,rfl,-,v2,vs2,rfl,h2,-⟩:=hcr;obtain ⟨A,n,c,rfl⟩:=av.form h2;exact ⟨A,n,c,hcx 1 _ rfl,h2⟩
set_option maxHeartbeats 2000000 in
theorem agu (G:GH) (w0:World) (hG:Hold G w0) (s:BH) (a1 Eo c1 d1:aj) (hR:Ab G s a1 Eo c1 d1) (z1:s.styles.length≤4294967296) (z2:s.lists.length≤4294967296) (z3:s.comments.length≤4294967296) (z4:s.vars.length≤4294967296) (z5:∀ x∈s.styles,x.props.length≤4294967296) (z6:∀ x∈s.lists,x.levels.length≤4294967296) :
  Calls prog 116 #[.agg #[a1,Eo,c1,d1]] w0 (bH w0 G fun u G'=>∃ a' b' c' d',u=.agg #[a',b',c',d']∧Ab G' s a' b' c' d'):=by
 have hml:maxLen=9223372036854775807:=rfl;obtain ⟨aA,an,ac,rfl⟩:=hR.st.form;obtain ⟨bA,bn,bc,rfl⟩:=hR.li.form;obtain ⟨cA,cn,cc,rfl⟩:=hR.cm.form;obtain ⟨dA,dn,dc,rfl⟩:=hR.va.form;obtain ⟨hs1,hs2,hs3,hs4⟩:=hR;refine eN [(0,_)] func116 rfl ntmps116 rfl rfl hG ?_;intro a H;refine bZ (fun _ K1=>?_);refine dZ (cs:=[_,_,_,_]) H wn rfl rfl rfl ?_;clear H;intro b1 a w hb1 H;refine dB Bp H wn rfl ?_;clear H;intro b2 a w hb2 H;refine K1 _ _ ?_;clear K1;refine bN (fun _ K2=>?_);have H:=H.dG (Pl:=[_,_]) (cZ:=[_,_]) [1,0] (by decide) rfl;obtain ⟨Ga,hma,hb1',H⟩:=H.eH;have hga:=fun j v hj=>vw hb1' 0 [.slice aA an ac,.slice bA bn bc,.slice cA cn cc,.slice dA dn dc] rfl j v hj;replace hs1:=hs1.mono hma;replace hs2:=hs2.mono hma;replace hs3:=hs3.mono hma;replace hs4:=hs4.mono hma
 have dS:QY (fun (aN:Nat→aj × OL) (dD:Nat) (v:aj) (G:GH)=>match dD with|0=>v=(aK b1 0)|1=>v=.slice aA an ac|2=>v=(aN 2).1∧∃ xs,bY 192 6 v s.styles.length xs (aN 2).2∧bR G 6 (s.styles.map cu.dat) xs|3=>v=(aK b1 1)|4=>v=.slice bA bn bc|5=>v=(aN 5).1∧∃ xs,bY 93 2 v s.lists.length xs (aN 5).2∧bR G 2 (s.lists.map fK.dat) xs|6=>v=(aK b1 2)|7=>v=.slice cA cn cc|8=>av G (.sl 6 (s.comments.map iT.dat)) v|9=>v=(aK b1 3)|10=>v=.slice dA dn dc|11=>av G (.sl 2 (s.vars.map mq.dat)) v|12=>∃ c' d',v=.agg #[(aN 2).1,(aN 5).1,c',d']∧av G (.sl 6 (s.comments.map iT.dat)) c'∧av G (.sl 2 (s.vars.map mq.dat)) d'|13=>∃ b,v=(aK b 0)∧aN 13=((aK b 0),[(b,.cells #[.slice none 0 0,.slice none 0 0,.slice none 0 0,.slice none 0 0] 36 (0,0))])|_=>True):=by intro aN dD v G G' hm h;(iterate 15 (rcases dD with _|dD;(first|exact h|exact let ⟨h1,xs,h2,h3⟩:=h;⟨h1,xs,h2,h3.mono hm⟩|exact av.mono hm h|exact let ⟨c',d',h1,h2,h3⟩:=h;⟨c',d',h1,h2.mono hm,h3.mono hm⟩)));exact trivial
 refine Ru [2,5,13] (hmx) [[],[0],[0,1],[],[3],(ra 0 5),[],[6],(ra 0 8),[],[9],(ra 0 11),(ra 0 12),[],(ra 0 14)] [14] (by kernel_rfl) (by kernel_rfl) (by decide) (by kernel_rfl) (fun (aN:Nat→aj × OL) (dD:Nat) (v:aj) (G:GH)=>match dD with|0=>v=(aK b1 0)|1=>v=.slice aA an ac|2=>v=(aN 2).1∧∃ xs,bY 192 6 v s.styles.length xs (aN 2).2∧bR G 6 (s.styles.map cu.dat) xs|3=>v=(aK b1 1)|4=>v=.slice bA bn bc|5=>v=(aN 5).1∧∃ xs,bY 93 2 v s.lists.length xs (aN 5).2∧bR G 2 (s.lists.map fK.dat) xs|6=>v=(aK b1 2)|7=>v=.slice cA cn cc|8=>av G (.sl 6 (s.comments.map iT.dat)) v|9=>v=(aK b1 3)|10=>v=.slice dA dn dc|11=>av G (.sl 2 (s.vars.map mq.dat)) v|12=>∃ c' d',v=.agg #[(aN 2).1,(aN 5).1,c',d']∧av G (.sl 6 (s.comments.map iT.dat)) c'∧av G (.sl 2 (s.vars.map mq.dat)) d'|13=>∃ b,v=(aK b 0)∧aN 13=((aK b 0),[(b,.cells #[.slice none 0 0,.slice none 0 0,.slice none 0 0,.slice none 0 0] 36 (0,0))])|_=>True) (fun m hm x y i v G hi hc h=>by
  have hm:m=2∨m=5∨m=13:=by simpa using hm
  rcases hm with rfl|rfl|rfl
  ·(iterate 15 (rcases i with _|i;(first|exact h|exact absurd hi (by decide)|exact absurd hc (by decide))));exact trivial
  ·(iterate 15 (rcases i with _|i;(first|exact h|exact absurd hi (by decide)|exact absurd hc (by decide))));exact trivial
  ·(iterate 15 (rcases i with _|i;(first|exact h|exact absurd hi (by decide)|exact absurd hc (by decide))));exact trivial
  ) H ?_ ?_ ?_
 ·clear H;refine aF ?_ ?_ ?_ ?_ (aF ?_ ?_ ?_ ?_ (aF ?_ ?_ ?_ ?_ (bM ?_ (bM ?_ (bM ?_ dz)))))
  ·intro aN fM bE a w G1 gF _ _ aQ hc hG HT hv;have H:=HT;clear aQ;have Hb:=H.full;have H:=Hb;clear hc;refine kH H (Rf FY rfl ?_);clear H;intro a H;refine aD ⟨rfl,?_⟩;exact fI (by kernel_rfl) (dS aN) rfl rfl HT Hb hG hv (fun _ _ h=>h) (rfl) H
  ·intro aN fM bE a w G1 gF _ _ aQ hc hG HT hv;have H:=HT;clear aQ;have H:=H.aM (hv 0 6 (hc 0 (by decide)) rfl) rfl;have Hb:=H.full;have H:=Hb;clear hc;refine kH H (Rg rR rfl (aJ hG (hga 0 _ rfl)) ?_);clear H;intro a H;refine aD ⟨rfl,?_⟩;exact fI (by kernel_rfl) (dS aN) rfl rfl HT Hb hG hv (fun _ _ h=>h) (rfl) H
  ·intro _ _ _ _ _ _ _ _ hB;exact absurd hB (by decide)
  ·intro aN fM bE a w G1 gF _ _ aQ hc hG HT hv;have H:=HT;clear aQ;have Hb:=H.full;have H:=Hb;clear hc;refine kH H (Rf FZ rfl ?_);clear H;intro a H;refine aD ⟨rfl,?_⟩;exact fI (by kernel_rfl) (dS aN) rfl rfl HT Hb hG hv (fun _ _ h=>h) (rfl) H
  ·intro aN fM bE a w G1 gF _ _ aQ hc hG HT hv;have H:=HT;clear aQ;have H:=H.aM (hv 3 9 (hc 3 (by decide)) rfl) rfl;have Hb:=H.full;have H:=Hb;clear hc;refine kH H (Rg Bo rfl (aJ hG (hga 1 _ rfl)) ?_);clear H;intro a H;refine aD ⟨rfl,?_⟩;exact fI (by kernel_rfl) (dS aN) rfl rfl HT Hb hG hv (fun _ _ h=>h) (rfl) H
  ·intro _ _ _ _ _ _ _ _ hB;exact absurd hB (by decide)
  ·intro aN fM bE a w G1 gF _ _ aQ hc hG HT hv;have H:=HT;clear aQ;have Hb:=H.full;have H:=Hb;clear hc;refine kH H (Rf Sz rfl ?_);clear H;intro a H;refine aD ⟨rfl,?_⟩;exact fI (by kernel_rfl) (dS aN) rfl rfl HT Hb hG hv (fun _ _ h=>h) (rfl) H
  ·intro aN fM bE a w G1 gF _ _ aQ hc hG HT hv;have H:=HT;clear aQ;have H:=H.aM (hv 6 12 (hc 6 (by decide)) rfl) rfl;have Hb:=H.full;have H:=Hb;clear hc;refine kH H (Rg Fh rfl (aJ hG (hga 2 _ rfl)) ?_);clear H;intro a H;refine aD ⟨rfl,?_⟩;exact fI (by kernel_rfl) (dS aN) rfl rfl HT Hb hG hv (fun _ _ h=>h) (rfl) H
  ·intro aN fM bE a w G1 gF _ _ aQ hc hG HT hv;have H:=HT;clear aQ;have H:=H.aM (hv 7 13 (hc 7 (by decide)) rfl) rfl;have Hb:=H.full;have H:=Hb;clear hc;refine s_call ahU H wn rfl (agf _ _ H.ro _ _ _ _ (hs3.mono hG) (by simpa using z3)) rfl ?_;clear H;rintro v14 ze a w sM Dg H;refine aD ⟨rfl,?_⟩;exact fI (by kernel_rfl) (dS aN) rfl rfl HT Hb hG hv Dg (sM) H
  ·intro aN fM bE a w G1 gF _ _ aQ hc hG HT hv;have H:=HT;clear aQ;have Hb:=H.full;have H:=Hb;clear hc;refine kH H (Rf SA rfl ?_);clear H;intro a H;refine aD ⟨rfl,?_⟩;exact fI (by kernel_rfl) (dS aN) rfl rfl HT Hb hG hv (fun _ _ h=>h) (rfl) H
  ·intro aN fM bE a w G1 gF _ _ aQ hc hG HT hv;have H:=HT;clear aQ;have H:=H.aM (hv 9 15 (hc 9 (by decide)) rfl) rfl;have Hb:=H.full;have H:=Hb;clear hc;refine kH H (Rg yZ rfl (aJ hG (hga 3 _ rfl)) ?_);clear H;intro a H;refine aD ⟨rfl,?_⟩;exact fI (by kernel_rfl) (dS aN) rfl rfl HT Hb hG hv (fun _ _ h=>h) (rfl) H
  ·intro aN fM bE a w G1 gF _ _ aQ hc hG HT hv;have H:=HT;clear aQ;have H:=H.aM (hv 10 16 (hc 10 (by decide)) rfl) rfl;have Hb:=H.full;have H:=Hb;clear hc;refine s_call ahV H wn rfl (agi _ _ H.ro _ _ _ _ (hs4.mono hG) (by simpa using z4)) rfl ?_;clear H;rintro v17 xX a w L9 akD H;refine aD ⟨rfl,?_⟩;exact fI (by kernel_rfl) (dS aN) rfl rfl HT Hb hG hv akD (L9) H
  ·intro aN fM bE a w G1 gF _ _ aQ hc hG HT hv;have H:=HT;clear aQ;obtain ⟨u8,AU,mU⟩:=hv 2 8 (hc 2 (by decide)) rfl;(try dsimp only at mU);obtain ⟨h8,Qv,Dy,OD⟩:=mU;obtain ⟨sA,sc,rfl,-,-⟩:=Dy.shape;have H:=H.jV AU;obtain ⟨Wz,GV,xE⟩:=hv 5 11 (hc 5 (by decide)) rfl;(try dsimp only at xE);obtain ⟨h11,J4,zG,Jh⟩:=xE;obtain ⟨lA,lc,rfl,-,-⟩:=zG.shape;have H:=H.jV GV;obtain ⟨u14,Mj,sM⟩:=hv 8 14 (hc 8 (by decide)) rfl;(try dsimp only at sM);obtain ⟨QA,n14,c14,rfl⟩:=sM.form;have H:=H.jV Mj;obtain ⟨u17,anb,L9⟩:=hv 11 17 (hc 11 (by decide)) rfl;(try dsimp only at L9);obtain ⟨A17,n17,c17,rfl⟩:=L9.form;have H:=H.jV anb;have Hb:=H.full;have H:=Hb;clear hc;refine jv arS [_,_,_,_] H wn rfl rfl rfl rfl ?_;clear H;intro a H;refine aD ⟨rfl,?_⟩;exact fI (by kernel_rfl) (dS aN) rfl rfl HT Hb hG hv (fun _ _ h=>h) (⟨_,_,by rw [← h8,← h11],sM,L9⟩) H
  ·intro _ _ _ _ _ _ _ _ hB;exact absurd hB (by decide)
  intro _ _ _ _ _ _ _ hB;exact absurd hB (by decide)
 ·clear H;refine aF ?_ ?_ ?_ ?_ (aF ?_ ?_ ?_ ?_ (aF ?_ ?_ ?_ ?_ (bM ?_ (bM ?_ (bM ?_ dz)))))
  ·intro hB;exact absurd hB (by decide)
  ·intro hB;exact absurd hB (by decide)
  ·intro _ aN fM bE a w G1 gF _ hc hG HT hv;have H:=HT;have H:=H.aM (hv (.bool false,[]) 1 7 (by decide) (hc 1 (by decide)) rfl) rfl;have Hb:=H.full;have H:=Hb;clear hc;refine gW ahS (Li:=fM) (L:=[]) (H.cast (jd _).symm) wn rfl (agp _ _ (yR H.ro) _ _ _ _ (hs1.mono hG) (by simpa using z1)) rfl ?_;clear H;rintro v8 G8 L8 a w ⟨Qv,Dy,OD⟩ ql H;rw [aZ] at Dy;have H:=H.perm vX;refine aD ⟨rfl,(v8,L8),?_⟩;exact FU (by kernel_rfl) (dS (xV aN 2 (v8,L8))) rfl HT Hb hG (fun j e h1 h2 h3=>hv (v8,L8) j e h1 h2 h3) ql (⟨rfl,Qv,Dy,OD⟩) H
  ·intro hB;exact absurd hB (by decide)
  ·intro hB;exact absurd hB (by decide)
  ·intro _ aN fM bE a w G1 gF _ hc hG HT hv;have H:=HT;have H:=H.aM (hv (.bool false,[]) 4 10 (by decide) (hc 4 (by decide)) rfl) rfl;have Hb:=H.full;have H:=Hb;clear hc;refine gW ahT (Li:=fM) (L:=[]) (H.cast (jd _).symm) wn rfl (agn _ _ (yR H.ro) _ _ _ _ (hs2.mono hG) (by simpa using z2)) rfl ?_;clear H;rintro v11 tO FD a w ⟨J4,zG,Jh⟩ lW H;rw [aZ] at zG;have H:=H.perm vX;refine aD ⟨rfl,(v11,FD),?_⟩;exact FU (by kernel_rfl) (dS (xV aN 5 (v11,FD))) rfl HT Hb hG (fun j e h1 h2 h3=>hv (v11,FD) j e h1 h2 h3) lW (⟨rfl,J4,zG,Jh⟩) H
  ·intro hB;exact absurd hB (by decide)
  ·intro hB;exact absurd hB (by decide)
  ·intro hB;exact absurd hB (by decide)
  ·intro hB;exact absurd hB (by decide)
  ·intro hB;exact absurd hB (by decide)
  ·intro hB;exact absurd hB (by decide)
  ·intro hB;exact absurd hB (by decide)
  ·intro _ aN fM bE a w G1 gF _ hc hG HT hv;have H:=HT;have Hb:=H.full;have H:=Hb;clear hc;refine dB Bp H wn rfl ?_;clear H;intro b3 a w hb3 H;refine aD ⟨rfl,((aK b3 0),[(b3,.cells #[.slice none 0 0,.slice none 0 0,.slice none 0 0,.slice none 0 0] 36 (0,0))]),?_⟩;exact FU (by kernel_rfl) (dS (xV aN 13 ((aK b3 0),[(b3,.cells #[.slice none 0 0,.slice none 0 0,.slice none 0 0,.slice none 0 0] 36 (0,0))]))) rfl HT Hb hG (fun j e h1 h2 h3=>hv ((aK b3 0),[(b3,.cells #[.slice none 0 0,.slice none 0 0,.slice none 0 0,.slice none 0 0] 36 (0,0))]) j e h1 h2 h3) (fun _ _ h=>h) (⟨b3,rfl,rfl⟩) H
  intro hB;exact absurd hB (by decide)
 clear H;intro aN a w G nA H hv
 simp only [qH,List.flatMap_cons,List.flatMap_nil,cond_true,jd,iI] at H
 obtain ⟨u3,hu3,hp3⟩:=hv 13 3 (by decide) rfl;(try dsimp only at hp3);obtain ⟨b3,rfl,e13⟩:=hp3;have H:=H.jV hu3;obtain ⟨u8,AU,mU⟩:=hv 2 8 (by decide) rfl;(try dsimp only at mU);obtain ⟨h8,Qv,Dy,OD⟩:=mU;obtain ⟨sA,sc,rfl,-,-⟩:=Dy.shape;have H:=H.jV AU;obtain ⟨Wz,GV,xE⟩:=hv 5 11 (by decide) rfl;(try dsimp only at xE);obtain ⟨h11,J4,zG,Jh⟩:=xE;obtain ⟨lA,lc,rfl,-,-⟩:=zG.shape;have H:=H.jV GV;obtain ⟨u18,UW,Dr⟩:=hv 12 18 (by decide) rfl;(try dsimp only at Dr);obtain ⟨auP,auQ,rfl,hc18,aal⟩:=Dr;obtain ⟨eA,en,ec,rfl⟩:=hc18.form;obtain ⟨fA,fn,fc,rfl⟩:=aal.form;have H:=H.jV UW;clear hv;obtain ⟨⟨vS,LS⟩,eS⟩:∃ y,y=aN 2:=⟨_,rfl⟩;obtain ⟨⟨vL,LL⟩,eL⟩:∃ y,y=aN 5:=⟨_,rfl⟩;rw [← eS,← eL,e13] at H;rw [← eS] at Dy h8;rw [← eL] at zG h11;dsimp only at H Dy zG h8 h11;subst h8;subst h11;rw [← iI] at H;have H:=H.perm (vX (l₁:=LS++LL) (l₂:=[_,_]));dsimp only [lca,bq] at H;refine aY Bp 0 (vs:=[_,_,_,_]) _ H wn rfl rfl rfl rfl rfl rfl rfl rfl ?_;clear H;intro w H;dsimp only [List.set,setRow] at H;refine aD ⟨rfl,?_⟩;refine K2 _ _ ?_;clear K2;refine kP H (SQ fun _ K3=>SR fun _ K4=>bG FY rR 0 rfl rfl (Rl mg rfl (Rm rfl (Kz K4 (SB ?_)))));clear H K4;intro a H;skip;refine fH (ι:=Nat × List aj × OL × GH) (Tc:=[(2,_),(3,_),(21,_)]) (Lc:=[(_,_),(_,_)]) (fun gh=>[(22,vi gh.1)]) (fun gh=>[]++(gh.2.2.1++LL)) (fun gh=>gh.2.2.2) (fun gh=>gh.1≤s.styles.length∧bY 192 6 (.slice sA s.styles.length sc) s.styles.length gh.2.1 gh.2.2.1∧bR gh.2.2.2 6 (s.styles.map cu.dat) gh.2.1∧(∀ b o,G b=some o→gh.2.2.2 b=some o)) (fun gh=>s.styles.length - gh.1) ((0,Qv,LS,G)) (by exact (H).sub ⟨rfl,rfl,rfl,rfl,aC⟩) ?_ ?_
 ·exact ⟨gY _,Dy,OD,fun _ _ h=>h⟩
 clear H;rintro ⟨k,xs,Lo,g⟩ a w hI H;dsimp only at hI H;obtain ⟨hk,hrw,dP,hgm⟩:=hI;dsimp only [lca,bq] at H;refine kP H (SR fun _ K5=>Rc rfl (Kz K5 (SQ fun _ K6=>Cd rfl ?_ ?_))) <;> clear H K5
 ·intro h23 a H
  try have vJ:=dT h23
  have hk2:k < s.styles.length:=by omega
  obtain ⟨bs,rfl⟩:=hrw.ptr (by omega);obtain ⟨pA,pc,hpx,hpr⟩:=arW dP hk2;obtain ⟨cur,-,rfl,hcur,hset⟩:=hrw.set1;have hpz:=z5 _ (kN hk2);refine kP H (Kc K6 (SQ fun _ K7=>SB (SR fun _ K8=>Rm rfl (ak K8 rfl ?_))));clear H K6 K8;intro a H
  have AO:CQ (fun (dD:Nat) (v:aj) (G:GH)=>match dD with|0=>v=(aK b3 0)|1=>v=.slice (some ⟨bs,0,none⟩) s.styles.length sc|2=>v=vi k|3=>v=(aK b3 0)|4=>v=.slice (some ⟨bs,0,none⟩) s.styles.length sc|5=>v=vi k|6=>v=(aK bs (0+k*6))|7=>v=(aK bs (0+k*6+5))|8=>v=.slice pA s.styles[k].props.length pc|9=>av G (.sl 2 (s.styles[k].props.map aO.dat)) v|_=>True):=by intro dD v G G' hm h;(iterate 13 (rcases dD with _|dD;(first|exact h|exact av.mono hm h)));exact trivial
  refine BO (hmx) [[],[0],[],[],[3],[],[3,4,5],(ra 3 4),(ra 3 5),(ra 3 6),(ra 0 10),(ra 0 11),(ra 0 12)] [10,11,12] (by kernel_rfl) (by kernel_rfl) _ AO H ?_ ?_
  ·clear H;refine aF ?_ ?_ ?_ ?_ (aF ?_ ?_ ?_ ?_ (aF ?_ ?_ (bQ rfl) (bQ rfl) (bM (bQ rfl) dz)))
   ·refine eB [] rfl trivial (by kernel_rfl) AO rfl rfl ?_;intro bE a w G1 hG HT H fin;exact kH H (Rf FY rfl fun _ H=>fin H iJ rfl)
   ·refine eB [(0,25,_)] rfl ⟨fun _ _ h=>h,aC⟩ (by kernel_rfl) AO rfl rfl ?_;intro bE a w G1 hG HT H fin;exact kH H (Ro rR 0 rfl fun _ H=>fin H iJ rfl)
   ·refine eB [] rfl trivial (by kernel_rfl) AO rfl rfl ?_;intro bE a w G1 hG HT H fin;exact kH H (Rm rfl fun _ H=>fin H iJ rfl)
   ·refine eB [] rfl trivial (by kernel_rfl) AO rfl rfl ?_;intro bE a w G1 hG HT H fin;exact kH H (Rf FY rfl fun _ H=>fin H iJ rfl)
   ·refine eB [(3,28,_)] rfl ⟨fun _ _ h=>h,aC⟩ (by kernel_rfl) AO rfl rfl ?_;intro bE a w G1 hG HT H fin;exact kH H (Ro rR 0 rfl fun _ H=>fin H iJ rfl)
   ·refine eB [] rfl trivial (by kernel_rfl) AO rfl rfl ?_;intro bE a w G1 hG HT H fin;exact kH H (Rm rfl fun _ H=>fin H iJ rfl)
   ·refine eB [(4,29,_),(5,30,_)] rfl ⟨fun _ _ h=>h,fun _ _ h=>h,aC⟩ (by kernel_rfl) AO rfl rfl ?_;intro bE a w G1 hG HT H fin;exact kH H (Ri mg kE rfl rfl fun _ H=>fin H iJ rfl)
   ·refine eB [(6,31,_)] rfl ⟨fun _ _ h=>h,aC⟩ (by kernel_rfl) AO rfl rfl ?_;intro bE a w G1 hG HT H fin;exact kH H (Rf Oo rfl fun _ H=>fin H iJ rfl)
   ·refine eB [(7,32,_)] rfl ⟨fun _ _ h=>h,aC⟩ (by kernel_rfl) AO rfl rfl ?_;intro bE a w G1 hG HT H fin;refine rP uO H wn rfl (hrw.at H.hp (fun x hx=>iO _ (iO _ (List.mem_append_left _ hx))) (by rw [gJ];exact hpx)) rfl ?_;clear H;intro a H;exact fin H iJ rfl
   refine eB [(8,33,_)] rfl ⟨fun _ _ h=>h,aC⟩ (by kernel_rfl) AO rfl rfl ?_;intro bE a w G1 hG HT H fin;refine s_call Oc H wn rfl (RD _ _ H.ro _ _ _ _ (hpr.mono hG) (by simpa using hpz)) rfl ?_;clear H;rintro v34 Nn a w EN akJ H;exact fin H akJ (EN)
  clear H;intro a w G mR H hv;have H:=H.aM (hv 1 26 rfl rfl) rfl;have H:=H.aM (hv 2 27 rfl rfl) rfl;obtain ⟨u34,anc,EN⟩:=hv 9 34 (by decide) rfl;(try dsimp only at EN);obtain ⟨D7,n34,c34,rfl⟩:=EN.form;have H:=H.jV anc;clear hv;refine kH H (Ri mg kE rfl rfl (Rf Oo rfl ?_));clear H;intro a H;refine aY uO 2 (c:=cur) (vs:=[.slice D7 n34 c34]) (cur.set (k*6+5) (.slice D7 n34 c34)) H wn rfl rfl rfl rfl rfl rfl (by simp;omega) (by rw [gJ];rfl) ?_;clear H;intro w H;dsimp only [List.set,List.cons_append,List.nil_append] at H;have hrwn:=hset (k*6+5) (.slice D7 n34 c34);have alz:=(dP.mono mR).setAt (i:=k) (k:=5) (r:=s.styles[k].dat) (v:=.slice D7 n34 c34) (by simp [hk2]) rfl (by decide) EN;refine aD ⟨rfl,?_⟩;refine K7 _ _ ?_;clear K7;refine kP H (SC (Rd rfl (Rm rfl ?_)));clear H;intro a H;refine aD ?_;refine dM ((k+1,xs.set (k*6+5) (.slice D7 n34 c34),[(bs,.cells (cur.set (k*6+5) (.slice D7 n34 c34)).toArray 192 (0,0))],_)) (by exact (H).sub ⟨rfl,rfl,rfl,rfl,aC⟩) ?_
  (try dsimp only);exact ⟨by omega,hrwn,alz,fun b o h=>mR b o (hgm b o h)⟩
 intro h23 a H
 try have vJ:=dF h23
 obtain rfl:k=s.styles.length:=by omega
 refine eu ?_;refine K3 _ _ ?_;clear K3;refine kP H (SQ fun _ K9=>SR fun _ aW=>bG FZ Bo 0 rfl rfl (Rl xS rfl (Rm rfl (Kz aW (SB ?_)))));clear H aW;intro a H;skip;refine fH (ι:=Nat × List aj × OL × GH) (Tc:=[(2,_),(3,_),(40,_)]) (Lc:=[(_,_),(_,_)]) (fun gh=>[(41,vi gh.1)]) (fun gh=>[]++(Lo++gh.2.2.1)) (fun gh=>gh.2.2.2) (fun gh=>gh.1≤s.lists.length∧bY 93 2 (.slice lA s.lists.length lc) s.lists.length gh.2.1 gh.2.2.1∧bR gh.2.2.2 2 (s.lists.map fK.dat) gh.2.1∧(∀ b o,g b=some o→gh.2.2.2 b=some o)) (fun gh=>s.lists.length - gh.1) ((0,J4,LL,g)) (by exact (H).sub ⟨rfl,rfl,rfl,rfl,aC⟩) ?_ ?_
 ·exact ⟨gY _,zG,Jh.mono hgm,fun _ _ h=>h⟩
 clear H;rintro ⟨k2,xs2,Lo2,g2⟩ a w hI H;dsimp only at hI H;obtain ⟨hk2,hrw2,zF,jY⟩:=hI;dsimp only [lca,bq] at H;refine kP H (SR fun _ bO=>Rc rfl (Kz bO (SQ fun _ bW=>Cd rfl ?_ ?_))) <;> clear H bO
 ·intro jW a H
  try have p42:=dT jW
  have hk3:k2 < s.lists.length:=by omega
  obtain ⟨bl,rfl⟩:=hrw2.ptr (by omega);obtain ⟨qA,qn,qc,hqx,hqr⟩:=anP zF hk3;obtain ⟨Er,-,rfl,atZ,amT⟩:=hrw2.set1;have hqz:=z6 _ (kN hk3);refine kP H (Kc bW (SQ fun _ cB=>SB (SR fun _ dw=>Rm rfl (ak dw rfl ?_))));clear H bW dw;intro a H
  have AL:CQ (fun (dD:Nat) (v:aj) (G:GH)=>match dD with|0=>v=(aK b3 1)|1=>v=.slice (some ⟨bl,0,none⟩) s.lists.length lc|2=>v=vi k2|3=>v=(aK b3 1)|4=>v=.slice (some ⟨bl,0,none⟩) s.lists.length lc|5=>v=vi k2|6=>v=(aK bl (0+k2*2))|7=>v=(aK bl (0+k2*2+1))|8=>v=.slice qA qn qc|9=>av G (.sl 4 (s.lists[k2].levels.map pz.dat)) v|_=>True):=by intro dD v G G' hm h;(iterate 13 (rcases dD with _|dD;(first|exact h|exact av.mono hm h)));exact trivial
  refine BO (hmx) [[],[0],[],[],[3],[],[3,4,5],(ra 3 4),(ra 3 5),(ra 3 6),(ra 0 10),(ra 0 11),(ra 0 12)] [10,11,12] (by kernel_rfl) (by kernel_rfl) _ AL H ?_ ?_
  ·clear H;refine aF ?_ ?_ ?_ ?_ (aF ?_ ?_ ?_ ?_ (aF ?_ ?_ (bQ rfl) (bQ rfl) (bM (bQ rfl) dz)))
   ·refine eB [] rfl trivial (by kernel_rfl) AL rfl rfl ?_;intro bE a w G1 hG HT H fin;exact kH H (Rf FZ rfl fun _ H=>fin H iJ rfl)
   ·refine eB [(0,44,_)] rfl ⟨fun _ _ h=>h,aC⟩ (by kernel_rfl) AL rfl rfl ?_;intro bE a w G1 hG HT H fin;exact kH H (Ro Bo 0 rfl fun _ H=>fin H iJ rfl)
   ·refine eB [] rfl trivial (by kernel_rfl) AL rfl rfl ?_;intro bE a w G1 hG HT H fin;exact kH H (Rm rfl fun _ H=>fin H iJ rfl)
   ·refine eB [] rfl trivial (by kernel_rfl) AL rfl rfl ?_;intro bE a w G1 hG HT H fin;exact kH H (Rf FZ rfl fun _ H=>fin H iJ rfl)
   ·refine eB [(3,47,_)] rfl ⟨fun _ _ h=>h,aC⟩ (by kernel_rfl) AL rfl rfl ?_;intro bE a w G1 hG HT H fin;exact kH H (Ro Bo 0 rfl fun _ H=>fin H iJ rfl)
   ·refine eB [] rfl trivial (by kernel_rfl) AL rfl rfl ?_;intro bE a w G1 hG HT H fin;exact kH H (Rm rfl fun _ H=>fin H iJ rfl)
   ·refine eB [(4,48,_),(5,49,_)] rfl ⟨fun _ _ h=>h,fun _ _ h=>h,aC⟩ (by kernel_rfl) AL rfl rfl ?_;intro bE a w G1 hG HT H fin;exact kH H (Ri xS Bq rfl rfl fun _ H=>fin H iJ rfl)
   ·refine eB [(6,50,_)] rfl ⟨fun _ _ h=>h,aC⟩ (by kernel_rfl) AL rfl rfl ?_;intro bE a w G1 hG HT H fin;exact kH H (Rf SE rfl fun _ H=>fin H iJ rfl)
   ·refine eB [(7,51,_)] rfl ⟨fun _ _ h=>h,aC⟩ (by kernel_rfl) AL rfl rfl ?_;intro bE a w G1 hG HT H fin;refine rP Wy H wn rfl (hrw2.at H.hp (fun x hx=>iO _ (iO _ (List.mem_append_right _ hx))) (by rw [gJ];exact hqx)) rfl ?_;clear H;intro a H;exact fin H iJ rfl
   refine eB [(8,52,_)] rfl ⟨fun _ _ h=>h,aC⟩ (by kernel_rfl) AL rfl rfl ?_;intro bE a w G1 hG HT H fin;refine s_call ahW H wn rfl (agh _ _ H.ro _ _ _ _ (hqr.mono hG) (by simpa using hqz)) rfl ?_;clear H;rintro v53 Xh a w Ce LA H;exact fin H LA (Ce)
  clear H;intro a w G ru H hv;have H:=H.aM (hv 1 45 rfl rfl) rfl;have H:=H.aM (hv 2 46 rfl rfl) rfl;obtain ⟨u53,UY,Ce⟩:=hv 9 53 (by decide) rfl;(try dsimp only at Ce);obtain ⟨zX,n53,c53,rfl⟩:=Ce.form;have H:=H.jV UY;clear hv;refine kH H (Ri xS Bq rfl rfl (Rf SE rfl ?_));clear H;intro a H;refine aY Wy (2+Lo.length) (c:=Er) (vs:=[.slice zX n53 c53]) (Er.set (k2*2+1) (.slice zX n53 c53)) H wn rfl (anl [_,_] Lo _) rfl rfl rfl rfl (by simp;omega) (by rw [gJ];rfl) ?_;clear H;intro w H;have H:=H.cast (ard [_,_] Lo _ _);have amS:=amT (k2*2+1) (.slice zX n53 c53);have alA:=(zF.mono ru).setAt (i:=k2) (k:=1) (r:=s.lists[k2].dat) (v:=.slice zX n53 c53) (by simp [hk3]) rfl (by decide) Ce;refine aD ⟨rfl,?_⟩;refine cB _ _ ?_;clear cB;refine kP H (SC (Rd rfl (Rm rfl ?_)));clear H;intro a H;refine aD ?_;refine dM ((k2+1,xs2.set (k2*2+1) (.slice zX n53 c53),[(bl,.cells (Er.set (k2*2+1) (.slice zX n53 c53)).toArray 93 (0,0))],_)) (by exact (H).sub ⟨rfl,rfl,rfl,rfl,aC⟩) ?_
  (try dsimp only);exact ⟨by omega,amS,alA,fun b o h=>ru b o (jY b o h)⟩
 intro jW a H
 try have p42:=dF jW
 obtain rfl:k2=s.lists.length:=by omega
 refine eu ?_;refine K9 _ _ ?_;clear K9;refine bZ (fun _ dR=>?_);refine bB Bp (cs:=[_,_,_,_]) H wn rfl rfl (H.hp.bU 0 rfl rfl) rfl ?_;clear H;intro a H;refine aY Bp 1 (vs:=[_,_,_,_]) _ H wn rfl rfl rfl rfl rfl rfl rfl rfl ?_;clear H;intro w H;dsimp only [List.set,setRow] at H;refine dR _ _ ?_;clear dR;refine bS ?_;have H:=H.un (A:=[_,_]);obtain ⟨Gr,hmr,yO,H⟩:=St.nQ (Li:=[_,_]++Lo) H hrw2 (rows:=s.lists.map fK.dat) (by simp) zF;obtain ⟨Gs,hms,amB,H⟩:=St.nQ (Li:=[_,_]) H hrw (rows:=s.styles.map cu.dat) (by simp) ((dP.mono jY).mono hmr);refine (leave1 H results116 (.cons (ng Bp (cs:=[_,_,_,_]) H rfl rfl (H.hp.bU 1 rfl rfl)) .nil) ?_).1;exact H.rt ⟨_,_,_,_,rfl,amB,yO.mono hms,(((hc18.mono hgm).mono jY).mono hmr).mono hms,(((aal.mono hgm).mono jY).mono hmr).mono hms⟩
theorem Zm:∀ args w,(callFunc 60 args).run prog w=.ok (.enter 60 args) w:=enters func60 rfl (by kernel_rfl)
theorem ahk:∀ args w,(callFunc 116 args).run prog w=.ok (.enter 116 args) w:=enters func116 rfl (by kernel_rfl)
theorem adt:qd prog 38 [(0,1),(1,5),(6,1),(7,4)] [.slice none 0 0,.slice none 0 0,.int .i64 0,.int .i64 0,.slice none 0 0,.slice none 0 0,.slice none 0 0,.slice none 0 0,.slice none 0 0,.slice none 0 0,.slice none 0 0]:=⟨by kernel_rfl,by kernel_rfl⟩
theorem agj (G:GH) (w0:World) (hO:gL G [] w0) (l:List ay) (v:aj) (hv:av G (.sl 11 (l.map ay.dat)) v) (hz:bV l≤4294967296) :
  Calls prog 80 #[v] w0 (gy w0 G [] fun u G' L'=>∃ xs,bY 68 11 u l.length xs L'∧bR G' 11 (l.map ay.dat) xs):=by
 have ih:=NT 4294967297 (by omega);have hl:=Ih l;refine iY (N:=5) (T:=[(0,_)]) func80 rfl ntmps80 rfl rfl hO ?_;intro a H;refine kP H (SR fun _ K1=>ak K1 rfl (SR fun _ K2=>Rm rfl ?_));clear H K1;intro a H;refine gW Y4 (Li:=[]) (L:=[]) H wn rfl (YW (fun x=>x) _ _ (yR H.ro) l _ _ hv (by omega) (fun y hy=>Yo (n:=4294967296) (NT 4294967296 (by omega)) (by omega) y (by have:=Qw hy;omega))) rfl ?_;clear H;rintro v4 G4 L4 a w ⟨xs4,amK,alv⟩ LV H;dsimp only [List.nil_append] at H;exact kH H (ak K2 rfl (LR results80 rfl fun H=>H.hp.dJ ⟨xs4,amK,alv⟩))
def aex (G:GH) (D:jM) (d:jA) (L:OL):Prop :=
 ∃ xf Lf xr Lr,L=Lf++Lr∧bY 68 11 (cK D.f) d.flow.length xf Lf∧bR G 11 (d.flow.map ay.dat) xf∧bY 102 3 (cK D.r) d.revs.length xr Lr∧bR G 3 (d.revs.map dh.dat) xr ∧
  jc G d.fin (cK D.p) (cK D.d) (cK D.y)∧D.ins=d.fin.marks.ins∧D.move=d.fin.marks.move∧Ab G d.lT (cK D.s1) (cK D.s2) (cK D.s3) (cK D.s4)
set_option maxHeartbeats 2000000 in
theorem agP (G:GH) (w0:World) (hO:gL G [] w0) (D:jM) (d:jA) (hR:oD G D d) (hz:CG d) :
  Calls prog 63 #[D.val] w0 (gy w0 G [] fun u G' L'=>∃ D':jM,u=D'.val∧aex G' D' d L'):=by
 obtain ⟨hfl,hhd,hins,hmv,pQ,hst⟩:=hR;obtain ⟨zf,zh,zr,zt,zs,Ii⟩:=hz;refine iY (N:=16) (T:=[(0,_)]) func63 rfl ntmps63 rfl rfl hO ?_;intro a H;refine bZ (fun _ K1=>?_);refine dZ (cs:=[_,_,_,_,_,_,_,_,_,_,_]) H wn rfl rfl rfl ?_;clear H;intro b1 a w hb1 H;refine dB ko H wn rfl ?_;clear H;intro b2 a w hb2 H;refine K1 _ _ ?_;clear K1;refine bN (fun _ K2=>?_);have H:=H.dG (Pl:=[_,_]) (cZ:=[_,_]) [1,0] (by decide) rfl;obtain ⟨Ga,hma,hb1',H⟩:=H.eH;have hga:=fun j v hj=>vw hb1' 0 D.cells rfl j v hj;replace hfl:=hfl.mono hma;replace hhd:=hhd.mono hma;replace pQ:=pQ.mono hma;replace hst:=hst.mono hma
 have dS:QY (fun (aN:Nat→aj × OL) (dD:Nat) (v:aj) (G:GH)=>match dD with|0=>v=(aK b1 0)|1=>v=cK D.f|2=>v=(aN 2).1∧∃ xs,bY 68 11 v d.flow.length xs (aN 2).2∧bR G 11 (d.flow.map ay.dat) xs|3=>v=(aK b1 1)|4=>v=rz d.fin (cK D.p) (cK D.d) (cK D.y)|5=>∃ p y z,v=.agg #[p,vi d.fin.marks.ins,vi d.fin.marks.move,y,z]∧jc G d.fin p y z|6=>v=(aK b1 6)|7=>v=cK D.r|8=>v=(aN 8).1∧∃ xs,bY 102 3 v d.revs.length xs (aN 8).2∧bR G 3 (d.revs.map dh.dat) xs|9=>v=(aK b1 7)|10=>v=.agg #[cK D.s1,cK D.s2,cK D.s3,cK D.s4]|11=>∃ a' b' c' d',v=.agg #[a',b',c',d']∧Ab G d.lT a' b' c' d'|_=>True):=by intro aN dD v G G' hm h;(iterate 14 (rcases dD with _|dD;(first|exact h|exact let ⟨h1,xs,h2,h3⟩:=h;⟨h1,xs,h2,h3.mono hm⟩|exact let ⟨p,y,z,h1,h2⟩:=h;⟨p,y,z,h1,h2.mono hm⟩|exact let ⟨p,q,y,z,h1,h2⟩:=h;⟨p,q,y,z,h1,h2.mono hm⟩)));exact trivial
 refine Ru [2,8] (hmx) [[],[0],[0,1],[],[3],(ra 0 5),[],[6],(ra 0 8),[],[9],(ra 0 11),(ra 0 12),(ra 0 13)] [12,13] (by kernel_rfl) (by kernel_rfl) (by decide) (by kernel_rfl) (fun (aN:Nat→aj × OL) (dD:Nat) (v:aj) (G:GH)=>match dD with|0=>v=(aK b1 0)|1=>v=cK D.f|2=>v=(aN 2).1∧∃ xs,bY 68 11 v d.flow.length xs (aN 2).2∧bR G 11 (d.flow.map ay.dat) xs|3=>v=(aK b1 1)|4=>v=rz d.fin (cK D.p) (cK D.d) (cK D.y)|5=>∃ p y z,v=.agg #[p,vi d.fin.marks.ins,vi d.fin.marks.move,y,z]∧jc G d.fin p y z|6=>v=(aK b1 6)|7=>v=cK D.r|8=>v=(aN 8).1∧∃ xs,bY 102 3 v d.revs.length xs (aN 8).2∧bR G 3 (d.revs.map dh.dat) xs|9=>v=(aK b1 7)|10=>v=.agg #[cK D.s1,cK D.s2,cK D.s3,cK D.s4]|11=>∃ a' b' c' d',v=.agg #[a',b',c',d']∧Ab G d.lT a' b' c' d'|_=>True) (fun m hm x y i v G hi hc h=>by
  have hm:m=2∨m=8:=by simpa using hm
  rcases hm with rfl|rfl
  ·(iterate 14 (rcases i with _|i;(first|exact h|exact absurd hi (by decide)|exact absurd hc (by decide))));exact trivial
  ·(iterate 14 (rcases i with _|i;(first|exact h|exact absurd hi (by decide)|exact absurd hc (by decide))));exact trivial
  ) H ?_ ?_ ?_
 ·clear H;refine aF ?_ ?_ ?_ ?_ (aF ?_ ?_ ?_ ?_ (aF ?_ ?_ ?_ ?_ (bM ?_ (bM ?_ dz))))
  ·intro aN fM bE a w G1 gF _ _ aQ hc hG HT hv;have H:=HT;clear aQ;have Hb:=H.full;have H:=Hb;clear hc;refine kH H (Rf wo rfl ?_);clear H;intro a H;refine aD ⟨rfl,?_⟩;exact fI (by kernel_rfl) (dS aN) rfl rfl HT Hb hG hv (fun _ _ h=>h) (rfl) H
  ·intro aN fM bE a w G1 gF _ _ aQ hc hG HT hv;have H:=HT;clear aQ;have H:=H.aM (hv 0 3 (hc 0 (by decide)) rfl) rfl;have Hb:=H.full;have H:=Hb;clear hc;refine kH H (Rg kg rfl (aJ hG (hga 0 _ rfl)) ?_);clear H;intro a H;refine aD ⟨rfl,?_⟩;exact fI (by kernel_rfl) (dS aN) rfl rfl HT Hb hG hv (fun _ _ h=>h) (rfl) H
  ·intro _ _ _ _ _ _ _ _ hB;exact absurd hB (by decide)
  ·intro aN fM bE a w G1 gF _ _ aQ hc hG HT hv;have H:=HT;clear aQ;have Hb:=H.full;have H:=Hb;clear hc;refine kH H (Rf Eu rfl ?_);clear H;intro a H;refine aD ⟨rfl,?_⟩;exact fI (by kernel_rfl) (dS aN) rfl rfl HT Hb hG hv (fun _ _ h=>h) (rfl) H
  ·intro aN fM bE a w G1 gF _ _ aQ hc hG HT hv;have H:=HT;clear aQ;have H:=H.aM (hv 3 6 (hc 3 (by decide)) rfl) rfl;have Hb:=H.full;have H:=Hb;clear hc;refine bB eO (cs:=[cK D.p,vi d.fin.marks.ins,vi d.fin.marks.move,cK D.d,cK D.y]) H wn rfl rfl (fun j v hj=>H.hp.aI (aJ hG (by rw [← hins,← hmv] at hj;exact vw hb1' 1 _ rfl j v hj))) rfl ?_;clear H;intro a H;refine aD ⟨rfl,?_⟩;exact fI (by kernel_rfl) (dS aN) rfl rfl HT Hb hG hv (fun _ _ h=>h) (rfl) H
  ·intro aN fM bE a w G1 gF _ _ aQ hc hG HT hv;have H:=HT;clear aQ;have H:=H.aM (hv 4 7 (hc 4 (by decide)) rfl) rfl;have Hb:=H.full;have H:=Hb;clear hc;refine s_call FV H wn rfl (FR _ _ H.ro d.fin _ _ _ _ _ _ _ _ _ (hhd.mono hG) zh) rfl ?_;clear H;rintro v8 G8 a w mU ql H;refine aD ⟨rfl,?_⟩;exact fI (by kernel_rfl) (dS aN) rfl rfl HT Hb hG hv ql (mU) H
  ·intro aN fM bE a w G1 gF _ _ aQ hc hG HT hv;have H:=HT;clear aQ;have Hb:=H.full;have H:=Hb;clear hc;refine kH H (Rf Ev rfl ?_);clear H;intro a H;refine aD ⟨rfl,?_⟩;exact fI (by kernel_rfl) (dS aN) rfl rfl HT Hb hG hv (fun _ _ h=>h) (rfl) H
  ·intro aN fM bE a w G1 gF _ _ aQ hc hG HT hv;have H:=HT;clear aQ;have H:=H.aM (hv 6 9 (hc 6 (by decide)) rfl) rfl;have Hb:=H.full;have H:=Hb;clear hc;refine kH H (Rg yY rfl (aJ hG (hga 6 _ rfl)) ?_);clear H;intro a H;refine aD ⟨rfl,?_⟩;exact fI (by kernel_rfl) (dS aN) rfl rfl HT Hb hG hv (fun _ _ h=>h) (rfl) H
  ·intro _ _ _ _ _ _ _ _ hB;exact absurd hB (by decide)
  ·intro aN fM bE a w G1 gF _ _ aQ hc hG HT hv;have H:=HT;clear aQ;have Hb:=H.full;have H:=Hb;clear hc;refine kH H (Rf La rfl ?_);clear H;intro a H;refine aD ⟨rfl,?_⟩;exact fI (by kernel_rfl) (dS aN) rfl rfl HT Hb hG hv (fun _ _ h=>h) (rfl) H
  ·intro aN fM bE a w G1 gF _ _ aQ hc hG HT hv;have H:=HT;clear aQ;have H:=H.aM (hv 9 12 (hc 9 (by decide)) rfl) rfl;have Hb:=H.full;have H:=Hb;clear hc;refine bB Bp (cs:=[cK D.s1,cK D.s2,cK D.s3,cK D.s4]) H wn rfl rfl (fun j v hj=>H.hp.aI (aJ hG (vw hb1' 7 _ rfl j v hj))) rfl ?_;clear H;intro a H;refine aD ⟨rfl,?_⟩;exact fI (by kernel_rfl) (dS aN) rfl rfl HT Hb hG hv (fun _ _ h=>h) (rfl) H
  ·intro aN fM bE a w G1 gF _ _ aQ hc hG HT hv;have H:=HT;clear aQ;have H:=H.aM (hv 10 13 (hc 10 (by decide)) rfl) rfl;have Hb:=H.full;have H:=Hb;clear hc;refine s_call ahk H wn rfl (agu _ _ H.ro d.lT _ _ _ _ (hst.mono hG) zs Ii.ln Ii.cn Ii.vn Ii.pl Ii.ll) rfl ?_;clear H;rintro v14 ze a w sM Dg H;refine aD ⟨rfl,?_⟩;exact fI (by kernel_rfl) (dS aN) rfl rfl HT Hb hG hv Dg (sM) H
  ·intro _ _ _ _ _ _ _ hB;exact absurd hB (by decide)
  intro _ _ _ _ _ _ _ hB;exact absurd hB (by decide)
 ·clear H;refine aF ?_ ?_ ?_ ?_ (aF ?_ ?_ ?_ ?_ (aF ?_ ?_ ?_ ?_ (bM ?_ (bM ?_ dz))))
  ·intro hB;exact absurd hB (by decide)
  ·intro hB;exact absurd hB (by decide)
  ·intro _ aN fM bE a w G1 gF _ hc hG HT hv;have H:=HT;have H:=H.aM (hv (.bool false,[]) 1 4 (by decide) (hc 1 (by decide)) rfl) rfl;have Hb:=H.full;have H:=Hb;clear hc;refine gW Og (Li:=fM) (L:=[]) (H.cast (jd _).symm) wn rfl (agj _ _ (yR H.ro) d.flow _ (hfl.mono hG) (by omega)) rfl ?_;clear H;rintro v5 G5 L5 a w ⟨xs5,amM,alx⟩ mR H;have H:=H.perm vX;refine aD ⟨rfl,(v5,L5),?_⟩;exact FU (by kernel_rfl) (dS (xV aN 2 (v5,L5))) rfl HT Hb hG (fun j e h1 h2 h3=>hv (v5,L5) j e h1 h2 h3) mR (⟨rfl,xs5,amM,alx⟩) H
  ·intro hB;exact absurd hB (by decide)
  ·intro hB;exact absurd hB (by decide)
  ·intro hB;exact absurd hB (by decide)
  ·intro hB;exact absurd hB (by decide)
  ·intro hB;exact absurd hB (by decide)
  ·intro _ aN fM bE a w G1 gF _ hc hG HT hv;have H:=HT;have H:=H.aM (hv (.bool false,[]) 7 10 (by decide) (hc 7 (by decide)) rfl) rfl;have Hb:=H.full;have H:=Hb;clear hc;refine gW Zm (Li:=fM) (L:=[]) (H.cast (jd _).symm) wn rfl (Yp _ _ (yR H.ro) _ _ _ _ (pQ.mono hG) (by simpa using zr)) rfl ?_;clear H;rintro v11 tO FD a w ⟨J4,zG,Jh⟩ lW H;rw [aZ] at zG;have H:=H.perm vX;refine aD ⟨rfl,(v11,FD),?_⟩;exact FU (by kernel_rfl) (dS (xV aN 8 (v11,FD))) rfl HT Hb hG (fun j e h1 h2 h3=>hv (v11,FD) j e h1 h2 h3) lW (⟨rfl,J4,zG,Jh⟩) H
  ·intro hB;exact absurd hB (by decide)
  ·intro hB;exact absurd hB (by decide)
  ·intro hB;exact absurd hB (by decide)
  ·intro hB;exact absurd hB (by decide)
  intro hB;exact absurd hB (by decide)
 clear H;intro aN a w G nA H hv
 simp only [qH,List.flatMap_cons,List.flatMap_nil,cond_true,jd,iI] at H
 obtain ⟨u5,GX,rF⟩:=hv 2 5 (by decide) rfl;(try dsimp only at rF);obtain ⟨h5,xf,Ju,Uf⟩:=rF;obtain ⟨fA,fc,rfl,-,-⟩:=Ju.shape;have H:=H.jV GX;obtain ⟨u8,AU,mU⟩:=hv 5 8 (by decide) rfl;(try dsimp only at mU);obtain ⟨p8,y8,z8,rfl,OP⟩:=mU;obtain ⟨a1,a2,a3,rfl⟩:=OP.props.form;obtain ⟨a4,a5,a6,rfl⟩:=OP.bJ.form;obtain ⟨a7,a8,a9,rfl⟩:=OP.layers.form;have H:=H.jV AU;obtain ⟨Wz,GV,xE⟩:=hv 8 11 (by decide) rfl;(try dsimp only at xE);obtain ⟨h11,xr,Jv,Ug⟩:=xE;obtain ⟨rA,rc,rfl,-,-⟩:=Jv.shape;have H:=H.jV GV;obtain ⟨u14,Mj,sM⟩:=hv 11 14 (by decide) rfl;(try dsimp only at sM);obtain ⟨xL,q14,y14,z14,rfl,Mh⟩:=sM;obtain ⟨c1,c2,c3,rfl⟩:=Mh.st.form;obtain ⟨c4,c5,c6,rfl⟩:=Mh.li.form;obtain ⟨c7,c8,c9,rfl⟩:=Mh.cm.form;obtain ⟨d1,d2,d3,rfl⟩:=Mh.va.form;have H:=H.jV Mj;clear hv;obtain ⟨⟨vF,LF⟩,eF⟩:∃ y,y=aN 2:=⟨_,rfl⟩;obtain ⟨⟨vR,LR⟩,eR⟩:∃ y,y=aN 8:=⟨_,rfl⟩;rw [← eF,← eR] at H;rw [← eF] at Ju h5;rw [← eR] at Jv h11;dsimp only at H Ju Jv h5 h11;subst h5;subst h11;rw [← iI] at H;have H:=H.perm (vX (l₁:=LF++LR) (l₂:=[_]));dsimp only [lca,bq] at H;refine jv adt [_,_,_,_,_,_,_,_,_,_,_] H wn rfl rfl rfl rfl ?_;clear H;intro a H;refine aY ko 0 (vs:=[_,_,_,_,_,_,_,_,_,_,_]) _ H wn rfl rfl rfl rfl rfl rfl rfl rfl ?_;clear H;intro w H;dsimp only [List.set,setRow] at H;refine aD ⟨rfl,?_⟩;refine K2 _ _ ?_;clear K2;refine bS ?_;refine (leave1 H results63 (.cons (ng ko (cs:=[_,_,_,_,_,_,_,_,_,_,_]) H rfl rfl (H.hp.bU 0 rfl rfl)) .nil) ?_).1;exact H.hp.gB (L':=LF++LR) (BK _ _) ⟨⟨(fA,d.flow.length,fc),(a1,a2,a3),(a4,a5,a6),(a7,a8,a9),(rA,d.revs.length,rc),(c1,c2,c3),(c4,c5,c6),(c7,c8,c9),(d1,d2,d3),d.fin.marks.ins,d.fin.marks.move⟩,rfl,xf,LF,xr,LR,rfl,Ju,Uf,Jv,Ug,OP,rfl,rfl,Mh⟩
theorem Sk:∀ args w,(callFunc 58 args).run prog w=.ok (.enter 58 args) w:=enters func58 rfl (by kernel_rfl)
theorem ahe:∀ args w,(callFunc 109 args).run prog w=.ok (.enter 109 args) w:=enters func109 rfl (by kernel_rfl)
theorem Zl:∀ args w,(callFunc 52 args).run prog w=.ok (.enter 52 args) w:=enters func52 rfl (by kernel_rfl)
theorem ahg:∀ args w,(callFunc 112 args).run prog w=.ok (.enter 112 args) w:=enters func112 rfl (by kernel_rfl)
theorem ahR:∀ args w,(callFunc 173 args).run prog w=.ok (.enter 173 args) w:=enters func173 rfl (by kernel_rfl)
theorem ahf:∀ args w,(callFunc 111 args).run prog w=.ok (.enter 111 args) w:=enters func111 rfl (by kernel_rfl)
theorem aoy {G:GH} (r:aS):qV (.func (.func 112) #[] #[]) G r.dat (decide (r.cells.length=0)):=by
 intro G1 w0 cs hm hG hr;refine jI (caps:=[]) ahg ?_;obtain ⟨pA,pn,pc,dA,dn,dc,yA,yn,yc,fA,fn,fc,rfl,-,hf⟩:=hr.row;have hn:=hf.len;rw [aZ] at hn;subst hn;refine eN [(0,_)] func112 rfl ntmps112 rfl rfl hG ?_;intro a H;refine bZ (fun _ K1=>?_);refine dZ (cs:=[_,_,_,_,_,_]) H wn rfl rfl rfl ?_;clear H;intro b1 a w hb1 H;exact kH H (ak K1 rfl (SR fun _ K2=>bG uh uP 0 rfl rfl (Rl lu rfl (Rc rfl (ak K2 rfl (LR results112 rfl fun H=>H.rt (dO (decide_eq_decide.2 (by omega)))))))))
theorem agN (G:GH) (w0:World) (hG:Hold G w0) (l:List aS) (v:aj) (hv:av G (.sl 6 (l.map aS.dat)) v) (hne:∀ r∈l,r.cells≠[]) :
  Calls prog 109 #[v,.func (.func 112) #[] #[]] w0 (bH w0 G fun u G'=>av G' (.sl 6 (l.map aS.dat)) u):=by
 obtain ⟨A,n,c,rfl⟩:=hv.form
 have hno:l.findIdx? (fun r=>decide (r.cells.length=0))=none:=by
  rw [List.findIdx?_eq_none_iff];intro r hr;exact kX fun h=>hne r hr (List.length_eq_zero_iff.1 h)
 refine eN [(0,_),(1,_)] func109 rfl ntmps109 rfl rfl hG ?_;intro a H;refine kP H (SR fun _ K1=>ak K1 rfl (SR fun _ K2=>Rm rfl (Rm rfl ?_)));clear H K1;intro a H;refine s_call ahQ H wn rfl (anq _ _ H.ro l (fun r=>decide (r.cells.length=0)) _ _ hv (fun r _=>aoy r)) rfl ?_;clear H;rintro v10 CK a w rfl EF H;rw [hno] at H;refine kH H (ak K2 rfl (SQ fun _ K3=>SR fun _ K4=>Rm rfl (Rc rfl (Kz K4 (Cd rfl ?_ ?_))))) <;> clear H K2 K4
 ·intro h12 a H
  exact kP H (SR fun _ K5=>Rm rfl (ak K5 rfl (LR results109 rfl fun H=>H.rt (hv.mono EF))))
 intro h12 a H
 try have rO:=dF h12
 exact absurd rfl rO
def FI (n:Nat):Prop:=∀ (G:GH) (w0:World),Hold G w0→∀ (l:List ay) (v:aj),av G (.sl 11 (l.map ay.dat)) v→wM l→bV l < n →
 Calls prog 58 #[v] w0 (bH w0 G fun u G'=>av G' (.sl 11 ((oz l).map ay.dat)) u)
theorem aot {n:Nat} (ih:FI n) (hn:n≤4294967296) (G:GH) (w0:World) (hG:Hold G w0) (x:aT) (cs:List aj) (hv:aR G x.dat cs) (hne:EW x) (hz:bT x.dat < n+1) :
  Calls prog 173 #[.agg cs.toArray] w0 (bH w0 G fun u G'=>∃ cs',u=.agg cs'.toArray∧aR G' (nC x).dat cs'):=by
 have he:=Bt x;obtain ⟨pA,pn,pc,dA,dn,dc,yA,yn,yc,fA,fn,fc,rfl,hh,hf⟩:=hv.cell;rw [aoj] at hne;refine eN [(0,_)] func173 rfl ntmps173 rfl rfl hG ?_;intro a H;refine bZ (fun _ K1=>?_);refine dZ (cs:=[_,_,_,_,_,_,_]) H wn rfl rfl rfl ?_;clear H;intro b1 a w hb1 H;refine dB iQ H wn rfl ?_;clear H;intro b2 a w hb2 H;refine K1 _ _ ?_;clear K1;refine bN (fun _ K2=>?_)
 have dS:CQ (fun (dD:Nat) (v:aj) (G:GH)=>match dD with|0=>v=(aK b1 0)|1=>v=vi x.id|2=>v=(aK b1 1)|3=>v=.agg #[.slice pA pn pc,vi x.head.marks.ins,vi x.head.marks.move,.slice dA dn dc,.slice yA yn yc]|4=>∃ p d l,v=.agg #[p,vi x.head.marks.ins,vi x.head.marks.move,d,l]∧jc G x.head p d l|5=>v=(aK b1 6)|6=>v=.slice fA fn fc|7=>av G (.sl 11 ((oz x.flow).map ay.dat)) v|_=>True):=by intro dD v G G' hm h;(iterate 10 (rcases dD with _|dD;(first|exact h|exact let ⟨p,d,l,h1,h2⟩:=h;⟨p,d,l,h1,h2.mono hm⟩|exact av.mono hm h)));exact trivial
 refine BO (hmx) [[],[0],[],[2],[2,3],[],[5],(ra 2 5),(ra 0 8),(ra 0 9)] [8,9] (by kernel_rfl) (by kernel_rfl) _ dS H ?_ ?_
 ·clear H;refine aF ?_ ?_ ?_ ?_ (aF ?_ ?_ ?_ ?_ (bM (bQ rfl) (bM (bQ rfl) dz)))
  ·refine eB [] rfl trivial (by kernel_rfl) dS rfl rfl ?_;intro bE a w G1 hG HT H fin;exact kH H (Rf I9 rfl fun _ H=>fin H iJ rfl)
  ·refine eB [(0,3,_)] rfl ⟨fun _ _ h=>h,aC⟩ (by kernel_rfl) dS rfl rfl ?_;intro bE a w G1 hG HT H fin;exact kH H (Ro aH 1 rfl fun _ H=>fin H iJ rfl)
  ·refine eB [] rfl trivial (by kernel_rfl) dS rfl rfl ?_;intro bE a w G1 hG HT H fin;exact kH H (Rf C8 rfl fun _ H=>fin H iJ rfl)
  ·refine eB [(2,5,_)] rfl ⟨fun _ _ h=>h,aC⟩ (by kernel_rfl) dS rfl rfl ?_;intro bE a w G1 hG HT H fin;refine bB eO (cs:=[_,_,_,_,_]) H wn rfl rfl (H.hp.bU 1 rfl rfl) rfl ?_;clear H;intro a H;exact fin H iJ rfl
  ·refine eB [(3,6,_)] rfl ⟨fun _ _ h=>h,aC⟩ (by kernel_rfl) dS rfl rfl ?_;intro bE a w G1 hG HT H fin;refine s_call FV H wn rfl (FR _ _ H.ro x.head _ _ _ _ _ _ _ _ _ (hh.mono hG) (by omega)) rfl ?_;clear H;rintro v7 G7 a w Du LB H;exact fin H LB (Du)
  ·refine eB [] rfl trivial (by kernel_rfl) dS rfl rfl ?_;intro bE a w G1 hG HT H fin;exact kH H (Rf Ew rfl fun _ H=>fin H iJ rfl)
  ·refine eB [(5,8,_)] rfl ⟨fun _ _ h=>h,aC⟩ (by kernel_rfl) dS rfl rfl ?_;intro bE a w G1 hG HT H fin;exact kH H (Ro kg 1 rfl fun _ H=>fin H iJ rfl)
  refine eB [(6,9,_)] rfl ⟨fun _ _ h=>h,aC⟩ (by kernel_rfl) dS rfl rfl ?_;intro bE a w G1 hG HT H fin;refine s_call Sk H wn rfl (ih _ _ H.ro x.flow _ (hf.mono hG) hne (by omega)) rfl ?_;clear H;rintro v10 CK a w uz ru H;exact fin H ru (uz)
 clear H;intro a w G nA H hv;have H:=H.aM (hv 1 4 rfl rfl) rfl;obtain ⟨u7,UZ,Du⟩:=hv 4 7 (by decide) rfl;(try dsimp only at Du);obtain ⟨p7,d7,l7,rfl,Dn⟩:=Du;obtain ⟨a1,a2,a3,rfl⟩:=Dn.props.form;obtain ⟨a4,a5,a6,rfl⟩:=Dn.bJ.form;obtain ⟨a7,a8,a9,rfl⟩:=Dn.layers.form;have H:=H.jV UZ;obtain ⟨u10,Mi,uz⟩:=hv 7 10 (by decide) rfl;(try dsimp only at uz);obtain ⟨WW,n10,c10,rfl⟩:=uz.form;have H:=H.jV Mi;clear hv;refine jv Qh [_,_,_,_,_,_,_] H wn rfl rfl rfl rfl ?_;clear H;intro a H;refine aY iQ 0 (vs:=[_,_,_,_,_,_,_]) _ H wn rfl rfl rfl rfl rfl rfl rfl rfl ?_;clear H;intro w H;dsimp only [List.set,setRow] at H;refine aD ⟨rfl,?_⟩;refine K2 _ _ ?_;clear K2;refine bS ?_;refine (leave1 H results173 (.cons (ng iQ (cs:=[_,_,_,_,_,_,_]) H rfl rfl (H.hp.bU 0 rfl rfl)) .nil) ?_).1;exact H.rt ⟨_,rfl,by rw [aof];exact aR.MB (x:=.mk x.id x.head (oz x.flow)) Dn uz⟩
theorem aou {n:Nat} (ih:FI n) (hn:n≤4294967296) {G:GH} {w0:World} (x:aT) (hne:EW x) (hz:bT x.dat < n+1):CF (.func (.func 173) #[] #[]) w0 G x.dat (nC x).dat:=by
 intro G1 w1 cs hm1 hG1 hr;have h:=aot ih hn _ _ hG1 x cs hr hne hz;have h2:=jI (P:=prog) (caps:=[]) (args:=[.agg cs.toArray]) ahR h;exact h2
theorem aov {n:Nat} (ih:FI n) (hn:n≤4294967296) (G:GH) (w0:World) (hG:Hold G w0) (x:aS) (cs:List aj) (hv:aR G x.dat cs) (hne:EY x) (hz:bT x.dat < n+1) :
  Calls prog 111 #[.agg cs.toArray] w0 (bH w0 G fun u G'=>∃ cs',u=.agg cs'.toArray∧aR G' (nR x).dat cs'):=by
 have he:=zW x;have hl:=Fv x.cells;obtain ⟨pA,pn,pc,dA,dn,dc,yA,yn,yc,fA,fn,fc,rfl,hh,hf⟩:=hv.row;rw [abV] at hne;refine eN [(0,_)] func111 rfl ntmps111 rfl rfl hG ?_;intro a H;refine bZ (fun _ K1=>?_);refine dZ (cs:=[_,_,_,_,_,_]) H wn rfl rfl rfl ?_;clear H;intro b1 a w hb1 H;refine dB iW H wn rfl ?_;clear H;intro b2 a w hb2 H;refine K1 _ _ ?_;clear K1;refine bN (fun _ K2=>?_)
 have dS:CQ (fun (dD:Nat) (v:aj) (G:GH)=>match dD with|0=>v=(aK b1 0)|1=>v=.agg #[.slice pA pn pc,vi x.head.marks.ins,vi x.head.marks.move,.slice dA dn dc,.slice yA yn yc]|2=>∃ p d l,v=.agg #[p,vi x.head.marks.ins,vi x.head.marks.move,d,l]∧jc G x.head p d l|3=>v=(aK b1 5)|4=>v=.slice fA fn fc|5=>av G (.sl 7 (x.cells.map fun y=>(nC y).dat)) v|_=>True):=by intro dD v G G' hm h;(iterate 8 (rcases dD with _|dD;(first|exact h|exact let ⟨p,d,l,h1,h2⟩:=h;⟨p,d,l,h1,h2.mono hm⟩|exact av.mono hm h)));exact trivial
 refine BO (hmx) [[],[0],[0,1],[],[3],(ra 0 5),(ra 0 6),(ra 0 7)] [6,7] (by kernel_rfl) (by kernel_rfl) _ dS H ?_ ?_
 ·clear H;refine aF ?_ ?_ ?_ ?_ (aF ?_ ?_ (bQ rfl) (bQ rfl) dz)
  ·refine eB [] rfl trivial (by kernel_rfl) dS rfl rfl ?_;intro bE a w G1 hG HT H fin;exact kH H (Rf F3 rfl fun _ H=>fin H iJ rfl)
  ·refine eB [(0,3,_)] rfl ⟨fun _ _ h=>h,aC⟩ (by kernel_rfl) dS rfl rfl ?_;intro bE a w G1 hG HT H fin;refine bB eO (cs:=[_,_,_,_,_]) H wn rfl rfl (H.hp.bU 1 rfl rfl) rfl ?_;clear H;intro a H;exact fin H iJ rfl
  ·refine eB [(1,4,_)] rfl ⟨fun _ _ h=>h,aC⟩ (by kernel_rfl) dS rfl rfl ?_;intro bE a w G1 hG HT H fin;refine s_call FV H wn rfl (FR _ _ H.ro x.head _ _ _ _ _ _ _ _ _ (hh.mono hG) (by omega)) rfl ?_;clear H;rintro v5 G5 a w rF mR H;exact fin H mR (rF)
  ·refine eB [] rfl trivial (by kernel_rfl) dS rfl rfl ?_;intro bE a w G1 hG HT H fin;exact kH H (Rf uh rfl fun _ H=>fin H iJ rfl)
  ·refine eB [(3,6,_)] rfl ⟨fun _ _ h=>h,aC⟩ (by kernel_rfl) dS rfl rfl ?_;intro bE a w G1 hG HT H fin;exact kH H (Ro uP 1 rfl fun _ H=>fin H iJ rfl)
  refine eB [(4,7,_)] rfl ⟨fun _ _ h=>h,aC⟩ (by kernel_rfl) dS rfl rfl ?_;intro bE a w G1 hG HT H fin;refine s_call Y7 H wn rfl (YX nC _ _ H.ro x.cells _ _ (hf.mono hG) (by omega) (fun y hy=>aou ih hn y (abT hne.2 y hy) (by have:=WR hy;omega))) rfl ?_;clear H;rintro v8 G8 a w mU ql H;exact fin H ql (mU)
 clear H;intro a w G nA H hv;obtain ⟨u5,GX,rF⟩:=hv 2 5 (by decide) rfl;(try dsimp only at rF);obtain ⟨p5,d5,l5,rfl,tJ⟩:=rF;obtain ⟨a1,a2,a3,rfl⟩:=tJ.props.form;obtain ⟨a4,a5,a6,rfl⟩:=tJ.bJ.form;obtain ⟨a7,a8,a9,rfl⟩:=tJ.layers.form;have H:=H.jV GX;obtain ⟨u8,AU,mU⟩:=hv 5 8 (by decide) rfl;(try dsimp only at mU);obtain ⟨A8,n8,c8,rfl⟩:=mU.form;have H:=H.jV AU;clear hv;refine jv Wp [_,_,_,_,_,_] H wn rfl rfl rfl rfl ?_;clear H;intro a H;refine aY iW 0 (vs:=[_,_,_,_,_,_]) _ H wn rfl rfl rfl rfl rfl rfl rfl rfl ?_;clear H;intro w H;dsimp only [List.set,setRow] at H;refine aD ⟨rfl,?_⟩;refine K2 _ _ ?_;clear K2;refine bS ?_;refine (leave1 H results111 (.cons (ng iW (cs:=[_,_,_,_,_,_]) H rfl rfl (H.hp.bU 0 rfl rfl)) .nil) ?_).1;exact H.rt ⟨_,rfl,by rw [abP];exact aR.Pp (x:=.mk x.head (x.cells.map nC)) tJ (by show av _ (.sl 7 ((x.cells.map nC).map aT.dat)) _;rw [List.map_map];exact mU)⟩
theorem aow {n:Nat} (ih:FI n) (hn:n≤4294967296) {G:GH} {w0:World} (x:aS) (hne:EY x) (hz:bT x.dat < n+1):CF (.func (.func 111) #[] #[]) w0 G x.dat (nR x).dat:=by
 intro G1 w1 cs hm1 hG1 hr;have h:=aov ih hn _ _ hG1 x cs hr hne hz;have h2:=jI (P:=prog) (caps:=[]) (args:=[.agg cs.toArray]) ahf h;exact h2
theorem joined {G:GH} {o:List ay} {z y:ay} {x0:List aj} {s p d q f r:aj} (hc:bR G 11 (o.map ay.dat) x0) (hl:x0.length=o.length*11) (hh:jc G z.head p d q) (hf:av G (.sl 11 (z.flow.map ay.dat)) f) (hr:av G (.sl 6 (z.rows.map aS.dat)) r) (hs:s=.string (z.text++y.text)) :
  bR G 11 ((o++[rH z y]).map ay.dat) ((x0++[vi z.kind,vi z.code,vi z.id,.string z.text,p,vi z.head.marks.ins,vi z.head.marks.move,d,q,f,r]).set (((o++[z]).length - 1)*11+3) s):=by
 rw [kY,iN,List.length_singleton,Nat.add_sub_cancel,List.set_append_right _ _ (by omega),hl,Kr];refine hc.snoc ?_ rfl;rw [hs];exact aR.mkItem (x:=rH z y) hh hf hr
theorem NJ {s:ByteArray} {k:Int} {n:Nat} (hk:k=1):(s.toList == (⟨#[]⟩:ByteArray).toList)=true↔(k=7∧n=0)∨(k=1∧s.size=0):=by
 rw [beq_iff_eq,ByteArray.toList_eq,ByteArray.toList_eq]
 constructor
 ·intro h;refine .inr ⟨hk,?_⟩;have:=aB List.length h
  simpa using this
 rintro (⟨h,-⟩|⟨-,h⟩)
 ·omega
 have:s.data.toList.length=0:=by simpa using h
 rw [List.length_eq_zero_iff.1 this]
set_option maxHeartbeats 4000000 in
theorem aox {n:Nat} (ih:FI n) (hn:n≤1073741824):FI (n+1):=by
  intro G w0 hG l v hv hne hz;obtain ⟨A,c,rfl,hc1,hc2,hg⟩:=hv.slice
  have hml:4294967297≤maxLen:=by decide
  have htl:nX l≤bV l:=adG l;have hll:l.length≤nX l:=Vn l;rw [aZ] at *;refine eN [(0,_)] func58 rfl ntmps58 rfl rfl hG ?_;intro a H;refine kP H (SR fun _ K1=>ak K1 rfl (SR fun _ K2=>ak K2 rfl (SQ fun _ K3=>SR fun _ K4=>Rm rfl (Rl jk rfl (Rm rfl (Kz K4 (SB ?_)))))));clear H K1 K2 K4;intro a H;skip;refine fH (ι:=Nat × aj × List aj × OL × GH) (Tc:=[(7,_),(8,_)]) (Lc:=[]) (fun gh=>[(3,gh.2.1),(9,vi gh.1)]) (fun gh=>[]++gh.2.2.2.1) (fun gh=>gh.2.2.2.2) (fun gh=>gh.1≤l.length∧bY 68 11 gh.2.1 (uJ l gh.1).length gh.2.2.1 gh.2.2.2.1∧bR gh.2.2.2.2 11 ((uJ l gh.1).map ay.dat) gh.2.2.1∧(∀ b o,G b=some o→gh.2.2.2.2 b=some o)) (fun gh=>l.length - gh.1) ((0,.slice none 0 0,[],[],G)) (by exact (H).sub ⟨rfl,rfl,rfl,rfl,aC⟩) ?_ ?_
  · exact ⟨by omega,bY.nil,bR.nil,fun _ _ h=>h⟩
  clear H;rintro ⟨k,v,xs,Lo,g⟩ a w hI H;dsimp only at hI H;obtain ⟨hk,hrw,dP,hgm⟩:=hI;have hol:=aoI hk;obtain ⟨out,hout⟩:∃ o,o=uJ l k:=⟨_,rfl⟩;rw [← hout] at hrw dP hol;dsimp only [lca,bq] at H;refine kP H (SR fun _ K5=>Rc rfl (Kz K5 (SQ fun _ K6=>Cd rfl ?_ ?_))) <;> clear H K5
  · intro h10 a H
    try have nV:=dT h10
    have hk2:k < l.length:=by omega
    have hos:=ach hk2;have hot:=VA (l:=l) (k:=k) (by omega);have htt:=adH l (k+1);rw [iH hk2,Ia] at htt
    simp only [nX] at htt
    rw [← hout] at hos hot;obtain ⟨vA,vc,rfl,-,-⟩:=hrw.shape;obtain ⟨b,o,pA,pn,pc,dA,dn,dc,yA,yn,yc,fA,fn,fc,rA,rn,rc,rfl,hrow,hhd,hfl,hrs⟩:=F4 hk2 hg;replace hrow:=fun j u hj=>aJ hgm (hrow j u hj);have hnx:=abU hne _ (kN hk2);rw [aok] at hnx;obtain ⟨hnf,hnr⟩:=hnx;have hzi:=WS hk2;have hze:=tN l[k];have hrl:=D6 l[k].rows
    have amD:∀ r∈l[k].rows.map nR,r.cells≠[]:=fun r hr=>by
      obtain ⟨x,hx,rfl⟩:=List.mem_map.1 hr;have h1:=Vw hnr x hx;rw [abV] at h1;rw [abP];exact fun e=>h1.1 (List.map_eq_nil_iff.1 e)
    refine kP H (Kc K6 (SQ fun _ K7=>SB (SR fun _ K8=>Ri jk dL rfl rfl ?_)));clear H K6;intro a H;refine bB dL (cs:=[_,_,_,_,_,_,_,_,_,_,_]) H wn rfl rfl (fun j v hj=>H.hp.aI (hrow j v hj)) rfl ?_;clear H;intro a H;refine dB dL H wn rfl ?_;clear H;intro b5 a w hb5 H;refine aY dL 0 (vs:=[_,_,_,_,_,_,_,_,_,_,_]) _ H wn rfl rfl rfl rfl rfl rfl rfl rfl ?_;clear H;intro w H;dsimp only [List.set,setRow] at H;refine K8 _ _ ?_;clear K8;refine kP H (SR fun _ K9=>Rf yE rfl ?_);clear H;intro a H;refine bB eO (cs:=[_,_,_,_,_]) H wn rfl rfl (H.hp.bU 0 rfl rfl) rfl ?_;clear H;intro a H;refine s_call FV H wn rfl (FR _ _ H.ro _ _ _ _ _ _ _ _ _ _ (hhd.mono hgm) (by omega)) rfl ?_;clear H;rintro v15 CO a w ⟨pR,d15,l15,rfl,Jj⟩ sI H;obtain ⟨a1,a2,a3,rfl⟩:=Jj.props.form;obtain ⟨a4,a5,a6,rfl⟩:=Jj.bJ.form;obtain ⟨a7,a8,a9,rfl⟩:=Jj.layers.form;refine kH H (Rf yE rfl ?_);clear H;intro a H;refine aY eO 0 (vs:=[_,_,_,_,_]) _ H wn rfl rfl rfl rfl rfl rfl rfl rfl ?_;clear H;intro w H;dsimp only [List.set,setRow] at H;refine K9 _ _ ?_;clear K9;refine kP H (SR fun _ aW=>bG Ah kg 0 rfl rfl ?_);clear H;intro a H;refine s_call Sk H wn rfl (ih _ _ H.ro l[k].flow _ (hfl.mono fun b o h=>sI b o (hgm b o h)) hnf (by omega)) rfl ?_;clear H;rintro v19 Im a w Ma sJ H;obtain ⟨Ij,n19,c19,rfl⟩:=Ma.form;refine kH H (Rf Ah rfl ?_);clear H;intro a H;refine aY kg 0 (vs:=[_]) _ H wn rfl rfl rfl rfl rfl rfl rfl rfl ?_;clear H;intro w H;dsimp only [List.set,setRow] at H;refine aW _ _ ?_;clear aW;refine kP H (SR fun _ bO=>bG oL oV 0 rfl rfl ?_);clear H;intro a H;refine s_call Y1 H wn rfl (YZ nR _ _ H.ro l[k].rows _ _ (hrs.mono fun b o h=>sJ b o (sI b o (hgm b o h))) (by omega) (fun x hx=>aow ih (by omega) x (Vw hnr x hx) (by have:=WU hx;omega))) rfl ?_;clear H;rintro v23 Xe a w UF EG H;rw [show (l[k].rows.map fun x=>(nR x).dat)=(l[k].rows.map nR).map aS.dat by rw [List.map_map];rfl] at UF;obtain ⟨A23,n23,c23,rfl⟩:=UF.form;refine s_call ahe H wn rfl (agN _ _ H.ro (l[k].rows.map nR) _ UF amD) rfl ?_;clear H;rintro v24 Bu a w UG yK H;obtain ⟨QB,n24,c24,rfl⟩:=UG.form;have aaF:=UG.len;rw [aZ,aZ] at aaF;subst aaF;refine kH H (Rf oL rfl ?_);clear H;intro a H;refine aY oV 0 (vs:=[_]) _ H wn rfl rfl rfl rfl rfl rfl rfl rfl ?_;clear H;intro w H;dsimp only [List.set,setRow] at H;refine bO _ _ ?_;clear bO;refine bN (fun _ bW=>?_);obtain ⟨y,hy⟩:∃ y,y=nI l[k]:=⟨_,rfl⟩;have hye:=hy.trans (abO l[k])
    have hyk:y.kind=l[k].kind:=by rw [hye];rfl
    have Ml:y.text=l[k].text:=by rw [hye];rfl
    have Jw:y.head=l[k].head:=by rw [hye];rfl
    have Pg:y.rows.length=l[k].rows.length:=by rw [hye];simp [ay.rows]
    rw [← hy] at hos;obtain ⟨RL,OG⟩:∃ x,x=[vi l[k].kind,vi l[k].code,vi l[k].id,.string l[k].text,.slice a1 a2 a3,vi l[k].head.marks.ins,vi l[k].head.marks.move,.slice a4 a5 a6,.slice a7 a8 a9,.slice Ij n19 c19,.slice QB l[k].rows.length c24]:=⟨_,rfl⟩
    have aaS:aR Bu y.dat RL:=by
      rw [OG,hye];exact aR.mkItem (x:=.mk l[k].kind l[k].code l[k].id l[k].text l[k].head (oz l[k].flow) (l[k].rows.map nR)) (Jj.mono fun b o h=>yK b o (EG b o (sJ b o h))) (Ma.mono fun b o h=>yK b o (EG b o h)) UG
    have OC:=dP.mono fun b o h=>yK b o (EG b o (sJ b o (sI b o h)));have aas:∀ b o,G b=some o→Bu b=some o:=fun b o h=>yK b o (EG b o (sJ b o (sI b o (hgm b o h))));refine kP H (SC (Rm rfl (Rl jk rfl (bC bW rfl (SB ?_)))));clear H bW;intro a H;refine tZ (ι:=Bool) (Tc:=[(3,_),(5,_),(6,_),(7,_),(8,_),(9,_)]) (Lc:=[]) (fun gh=>[(32,.bool gh)]) (fun gh=>[(b5,.cells [vi l[k].kind,vi l[k].code,vi l[k].id,.string l[k].text,.slice a1 a2 a3,vi l[k].head.marks.ins,vi l[k].head.marks.move,.slice a4 a5 a6,.slice a7 a8 a9,.slice Ij n19 c19,.slice QB l[k].rows.length c24].toArray 68 (0,0))]++Lo) (fun gh=>Bu) (fun gh=>gh=true↔wh y) (by exact (H).sub ⟨rfl,rfl,rfl,rfl,rfl,rfl,aC⟩) ?_ ?_
    · skip;refine kP H (SC (bG kG aH 0 rfl rfl (Rc rfl (Rm rfl (Sp 36 rfl ?_ ?_))))) <;> clear H
      · intro wD a H
        try have p36:=dT wD
        refine kH H (YF oL wD rfl (YO oV 0 wD rfl (YL kT wD rfl (YC wD rfl (Pt wD rfl (Rm rfl (Sp 42 rfl ?_ ?_))))))) <;> clear H
        · intro jW a H
          try have p42:=dT jW
          refine kH H (aP jW rfl (aP jW rfl (Ku rfl (Ku rfl (Ku rfl (Ks jW rfl (Pt jW rfl (Ra rfl ?_))))))));clear H;intro a H;refine aD ?_;refine ⟨_,by exact (H).sub ⟨rfl,rfl,rfl,rfl,rfl,rfl,rfl,aC⟩,?_⟩;rw [wh,hyk,Pg,Ml]
          first
            | exact ⟨fun _=>.inl ⟨p36,by omega⟩,fun _=>by first|rfl|exact jB p42⟩
            | exact ⟨fun h=>(by cases h),fun h=>(by exfalso;omega)⟩
            | exact NJ p46
            | fail
        intro jW a H
        try have p42:=dF jW
        refine kH H (YF kG jW rfl (YO aH 0 jW rfl (YC jW rfl (YM jW rfl (Sp 46 rfl ?_ ?_))))) <;> clear H
        · intro h46 a H
          try have p46:=dT h46
          exfalso;omega
        intro h46 a H
        try have p46:=dF h46
        refine kH H (bD h46 rfl (PF jW h46 rfl (Pf jW rfl (Ra rfl ?_))));clear H;intro a H;refine aD ?_;refine ⟨_,by exact (H).sub ⟨rfl,rfl,rfl,rfl,rfl,rfl,rfl,aC⟩,?_⟩;rw [wh,hyk,Pg,Ml]
        first
          | exact ⟨fun _=>.inl ⟨p36,by omega⟩,fun _=>by first|rfl|exact jB p42⟩
          | exact ⟨fun h=>(by cases h),fun h=>(by exfalso;omega)⟩
          | exact NJ p46
          | fail
      intro wD a H
      try have p36:=dF wD
      refine kH H (aP wD rfl (aP wD rfl (Pf wD rfl (Rm rfl ?_))));clear H;intro a H;refine JO kG H (wg H rfl rfl rfl) rfl rfl ?_;clear H;intro a H;refine rP aH H (wg H rfl rfl rfl) rfl (H.hp.qM 0 rfl rfl) rfl ?_;clear H;intro a H;refine JN H (wg H rfl rfl rfl) rfl rfl rfl rfl ?_;clear H;intro a H;refine JQ H (wg H rfl rfl rfl) rfl rfl ?_;clear H;intro a H;refine Wd H 46 rfl ?_ ?_
      · intro h46
        try have p46:=dT h46
        refine kH H (YF wu h46 rfl (YO iM 0 h46 rfl ?_));clear H;intro a H;refine E9 H (wg H rfl rfl h46) rfl rfl rfl ?_;clear H;intro a H;refine MJ H (wg H rfl rfl rfl) rfl h46 rfl rfl ?_;clear H;intro a H;refine kH H (Pf rfl rfl (Ra rfl ?_));clear H;intro a H;refine aD ?_;refine ⟨_,by exact (H).sub ⟨rfl,rfl,rfl,rfl,rfl,rfl,rfl,aC⟩,?_⟩;rw [wh,hyk,Pg,Ml]
        first
          | exact ⟨fun _=>.inl ⟨p36,by omega⟩,fun _=>by first|rfl|exact jB p42⟩
          | exact ⟨fun h=>(by cases h),fun h=>(by exfalso;omega)⟩
          | exact NJ p46
          | fail
      intro h46
      try have p46:=dF h46
      refine kH H (bD h46 rfl ?_);clear H;intro a H;refine Qc H (wg H rfl rfl rfl) rfl h46 rfl rfl ?_;clear H;intro a H;refine kH H (Pf rfl rfl (Ra rfl ?_));clear H;intro a H;refine aD ?_;refine ⟨_,by exact (H).sub ⟨rfl,rfl,rfl,rfl,rfl,rfl,rfl,aC⟩,?_⟩;rw [wh,hyk,Pg,Ml]
      first
        | exact ⟨fun _=>.inl ⟨p36,by omega⟩,fun _=>by first|rfl|exact jB p42⟩
        | exact ⟨fun h=>(by cases h),fun h=>(by exfalso;omega)⟩
        | exact NJ p46
        | fail
    clear H;intro db a w hI H;skip;dsimp only [lca,bq] at H;refine jC H rfl ?_ ?_
    · intro h32
      try have p32:=dT h32
      have hdp:=hI.1 (by assumption);rw [Q9 hdp] at hos;refine kP H (Kc K7 (SC (Rd rfl (Rm rfl ?_))));clear H K7;intro a H;refine aD ?_;refine dM ((k+1,_,xs,Lo,_)) (by exact (H.dG (Pl:=[_]) (cZ:=[]) [] (by decide) rfl).sub ⟨rfl,rfl,rfl,rfl,aC⟩) ?_
      (try dsimp only);exact ⟨by omega,by rw [hos];exact hrw,by rw [hos];exact OC,aas⟩
    intro h32
    try have p32:=dF h32
    have hnd:¬ wh y:=fun h=>by have:=hI.2 h;simp_all
    obtain ⟨bo,pk,pt,pp,pd,pl,xG⟩:∃ (bo:Nat) (pk:dQ × Int) (pt:ByteArray) (pp pd pl:aj),0 < (out.length:Int)→∃ (o:List ay) (z:ay) (x0:List aj) (f r:aj),out=o++[z]∧vA=some ⟨bo,0,none⟩∧pk=(z.head,z.kind)∧pt=z.text ∧
        xs=x0++[vi z.kind,vi z.code,vi z.id,.string z.text,pp,vi z.head.marks.ins,vi z.head.marks.move,pd,pl,f,r]∧x0.length=o.length*11∧bR Bu 11 (o.map ay.dat) x0∧jc Bu z.head pp pd pl∧av Bu (.sl 11 (z.flow.map ay.dat)) f∧av Bu (.sl 6 (z.rows.map aS.dat)) r ∧
        ∀ j u,[vi pk.2,vi z.code,vi z.id,.string pt,pp,vi pk.1.marks.ins,vi pk.1.marks.move,pd,pl][j]?=some u→xs[(out.length - 1)*11+j]?=some u:=by
      by_cases h0:0 < out.length
      · obtain ⟨bo,hbo⟩:=hrw.ptr h0;obtain ⟨o,z,e⟩:∃ o z,out=o++[z]:=⟨_,_,(List.dropLast_concat_getLast (fun e=>by rw [e] at h0;simp at h0)).symm⟩;rw [e,kY] at OC;obtain ⟨x0,cs,hxs,hc0,hrz,hcl,hxl⟩:=OC.arH;obtain ⟨qA,qn,qc,sA,sn,sc,tA,tn,tc,fA2,fn2,fc2,rA2,rn2,rc2,rfl,hh,hf2,hr2⟩:=hrz.item;rw [aZ] at hxl;refine ⟨bo,(z.head,z.kind),z.text,.slice qA qn qc,.slice sA sn sc,.slice tA tn tc,fun _=>⟨o,z,x0,_,_,e,hbo,rfl,rfl,hxs,hxl,hc0,hh,hf2,hr2,fun j u hj=>?_⟩⟩;rw [hxs,e,iN,List.length_singleton,Nat.add_sub_cancel,sW (by omega),hxl,Kr];rw [← hj]
        match j,hj with
        | 0,hj=>rfl
        | 1,hj=>rfl
        | 2,hj=>rfl
        | 3,hj=>rfl
        | 4,hj=>rfl
        | 5,hj=>rfl
        | 6,hj=>rfl
        | 7,hj=>rfl
        | 8,hj=>rfl
        | _+9,hj=>simp at hj
      exact ⟨0,(⟨[],⟨0,0,[],[]⟩⟩,0),⟨#[]⟩,.slice none 0 0,.slice none 0 0,.slice none 0 0,fun h=>by omega⟩
    have Mk:0 < (out.length:Int)→vA=some ⟨bo,0,none⟩:=fun h=>by obtain ⟨_,_,_,_,_,_,e,_⟩:=xG h;exact e
    refine tZ (ι:=Bool × GH) (Tc:=[(3,_),(5,_),(6,_),(7,_),(8,_),(9,_)]) (Lc:=[]) (fun gh=>[(52,.bool gh.1)]) (fun gh=>[(b5,.cells [vi l[k].kind,vi l[k].code,vi l[k].id,.string l[k].text,.slice a1 a2 a3,vi l[k].head.marks.ins,vi l[k].head.marks.move,.slice a4 a5 a6,.slice a7 a8 a9,.slice Ij n19 c19,.slice QB l[k].rows.length c24].toArray 68 (0,0))]++Lo) (fun gh=>gh.2) (fun gh=>(gh.1=true→(l[k].kind=1∧0 < (out.length:Int)∧pk.2=1∧pk.1=l[k].head))∧(gh.1=false→uJ l (k+1)=out++[y])∧(∀ b o,Bu b=some o→gh.2 b=some o)) (by exact (H).sub ⟨rfl,rfl,rfl,rfl,rfl,rfl,aC⟩) ?_ ?_
    · skip
      by_cases c1:l[k].kind=1
      · skip
        by_cases c2:0 < (out.length:Int)
        · skip
          by_cases c3:pk.2=1
          · skip
            by_cases c4:pk.1=l[k].head
            · skip;refine dI hmx [[],[0],[0,1],[0,1,2],(ra 0 4),(ra 0 5),(ra 0 6),(ra 0 7),(ra 0 8),(ra 0 8),(ra 0 8++[9]),(ra 0 11),(ra 0 12),(ra 0 13),(ra 0 14),(ra 0 15),(ra 0 16),(ra 0 17),(ra 0 17),(ra 0 17++[18]),(ra 0 20),(ra 0 21),(ra 0 22),(ra 0 17),(ra 0 17++[23]),(ra 0 25),(ra 0 26),(ra 0 27)] [] (by kernel_rfl) [_,vi l[k].kind,_,_,_,_,_,_,.slice (some ⟨bo,0,none⟩) out.length vc,_,vi ((out.length - 1:Nat):Int),_,_,vi pk.2,_,_,_,.slice (some ⟨bo,0,none⟩) out.length vc,_,vi ((out.length - 1:Nat):Int),_,_,rz pk.1 pp pd pl,_,rz l[k].head (.slice a1 a2 a3) (.slice a4 a5 a6) (.slice a7 a8 a9),.bool (decide (pk.1=l[k].head)),_,_] H (aF (Z0 rfl (Rf kG rfl)) (Z1 0 53 rfl (Ro aH 0 rfl)) (Z1 1 54 rfl (Rc rfl)) (Z1 2 55 rfl (Rm rfl)) (aF (Z1 3 56 rfl (YM (aG c1) rfl)) (Z2 4 57 3 56 rfl (YC (aG c1) rfl)) (Z2 3 56 5 58 rfl (Pt (aG c1) rfl)) (Z1 6 59 rfl (Rm rfl)) (aF ?_ (Z1 7 60 rfl (YM (aG c2) rfl)) ?_ (Z3 8 61 10 63 7 60 rfl (YI jk dL (aG c2) rfl rfl)) (aF (Z2 11 64 7 60 rfl (YF kG (aG c2) rfl)) ?_ (Z2 13 66 7 60 rfl (YC (aG c2) rfl)) (Z2 7 60 14 67 rfl (Pt (aG c2) rfl)) (aF (Z1 15 68 rfl (Rm rfl)) ?_ (Z1 16 69 rfl (YM (aG c3) rfl)) ?_ (aF (Z3 17 70 19 72 16 69 rfl (YI jk dL (aG c3) rfl rfl)) (Z2 20 73 16 69 rfl (YF yE (aG c3) rfl)) ?_ (Z1 16 69 rfl (YF yE (aG c3) rfl)) (aF ?_ ?_ (Z2 16 69 25 78 rfl (Pt (aG c3) rfl)) (Z1 26 79 rfl (Ra rfl)) dz))))))) ?_
              · refine eP 7 60 rfl rfl fun _ a w G1 hG HT H fin=>?_;refine kH H (YM (aG c2) rfl ?_);clear H;intro a H;exact fin H iJ (by show _=_;first|rfl|exact aB (fun A=>Value.slice A out.length vc) (Mk c2))
              · refine dK 9 62 7 60 rfl rfl fun _ a w G1 hG HT H fin=>?_;refine nW _ H (wg H rfl rfl (aG c2)) rfl rfl rfl (by omega) (by omega) rfl ?_;clear H;intro a H;exact fin H iJ (by show _=_;first|rfl|exact aB vi (by omega))
              · refine dK 12 65 7 60 rfl rfl fun _ a w G1 hG HT H fin=>?_;obtain ⟨_,_,_,_,_,_,rfl,_,_,_,_,_,_,_,_,hx⟩:=xG c2;refine rP aH H (wg H rfl rfl (aG c2)) rfl (hrw.at H.hp (fun x hx=>iO _ hx) (by rw [gJ];exact hx 0 _ rfl)) rfl ?_;clear H;intro a H;exact fin H iJ rfl
              · refine eP 16 69 rfl rfl fun _ a w G1 hG HT H fin=>?_;refine kH H (YM (aG c3) rfl ?_);clear H;intro a H;exact fin H iJ (by show _=_;first|rfl|exact aB (fun A=>Value.slice A out.length vc) (Mk c2))
              · refine dK 18 71 16 69 rfl rfl fun _ a w G1 hG HT H fin=>?_;refine nW _ H (wg H rfl rfl (aG c3)) rfl rfl rfl (by omega) (by omega) rfl ?_;clear H;intro a H;exact fin H iJ (by show _=_;first|rfl|exact aB vi (by omega))
              · refine dK 21 74 16 69 rfl rfl fun _ a w G1 hG HT H fin=>?_;obtain ⟨_,_,_,_,_,_,rfl,_,_,_,_,_,_,_,_,hx⟩:=xG c2
                refine bB eO (cs:=[pp,vi pk.1.marks.ins,vi pk.1.marks.move,pd,pl]) H (wg H rfl rfl (aG c3)) rfl rfl (fun j u hj=>hrw.at H.hp (fun x hx=>iO _ hx) (by
                    rw [gJ,Nat.add_assoc];refine hx (4+j) u ?_
                    match j,hj with
                    | 0,hj=>exact hj
                    | 1,hj=>exact hj
                    | 2,hj=>exact hj
                    | 3,hj=>exact hj
                    | 4,hj=>exact hj)) rfl ?_;clear H;intro a H
                exact fin H iJ rfl
              · refine dK 23 76 16 69 rfl rfl fun _ a w G1 hG HT H fin=>?_;refine bB eO (cs:=[_,_,_,_,_]) H (wg H rfl rfl (aG c3)) rfl rfl (H.hp.bU 0 rfl rfl) rfl ?_;clear H;intro a H;exact fin H iJ rfl
              · refine zk 22 75 24 77 16 69 rfl rfl fun _ a w G1 hG HT H fin=>?_;refine s_call Zl H (wg H rfl rfl (aG c3)) rfl (Zp _ _ H.ro pk.1 l[k].head _ _ _ _ _ _ (by obtain ⟨_,_,_,_,_,_,_,e,_,_,_,_,hh,_⟩:=xG c2;rw [e];exact hh.mono hG) (Jj.mono fun b o h=>hG b o (yK b o (EG b o (sJ b o h))))) rfl ?_;clear H;rintro v78 G78 a w rfl TL H;exact fin H TL (rfl)
              clear H;intro a w G lW H hv;have H:=H.aM (hv 27 52 rfl rfl) rfl;clear hv;refine aD ⟨rfl,?_⟩;refine ⟨(_,_),by exact (H).sub ⟨rfl,rfl,rfl,rfl,rfl,rfl,rfl,aC⟩,?_⟩;(try dsimp only);refine ⟨fun h=>by first|exact absurd h (by decide)|exact ⟨c1,c2,c3,mM h⟩,fun h=>?_,lW⟩
              first
                | exact absurd ((aG c4).symm.trans h) (by decide)
                | (rw [hos]
                   refine El hnd fun o2 z2 e2 hj=>?_;rw [uE,hyk,Jw] at hj;obtain ⟨j1,j2,j3⟩:=hj
                   first
                     | exact c1 j1
                     | (have c2':0 < (out.length:Int):=by rw [e2,iN,List.length_singleton];omega
                        obtain ⟨o,z,_,_,_,e,_,xk,_⟩:=xG c2';obtain ⟨-,ez⟩:=List.append_inj' (e2.symm.trans e) rfl
                        injection ez with ez
                        subst ez
                        first
                          | exact c2 c2'
                          | exact c3 (by rw [xk];exact j2)
                          | exact c4 (by rw [xk];exact j3)))
            skip;refine dI hmx [[],[0],[0,1],[0,1,2],(ra 0 4),(ra 0 5),(ra 0 6),(ra 0 7),(ra 0 8),(ra 0 8),(ra 0 8++[9]),(ra 0 11),(ra 0 12),(ra 0 13),(ra 0 14),(ra 0 15),(ra 0 16),(ra 0 17),(ra 0 17),(ra 0 17++[18]),(ra 0 20),(ra 0 21),(ra 0 22),(ra 0 17),(ra 0 17++[23]),(ra 0 25),(ra 0 26),(ra 0 27)] [] (by kernel_rfl) [_,vi l[k].kind,_,_,_,_,_,_,.slice (some ⟨bo,0,none⟩) out.length vc,_,vi ((out.length - 1:Nat):Int),_,_,vi pk.2,_,_,_,.slice (some ⟨bo,0,none⟩) out.length vc,_,vi ((out.length - 1:Nat):Int),_,_,rz pk.1 pp pd pl,_,rz l[k].head (.slice a1 a2 a3) (.slice a4 a5 a6) (.slice a7 a8 a9),.bool (decide (pk.1=l[k].head)),_,_] H (aF (Z0 rfl (Rf kG rfl)) (Z1 0 53 rfl (Ro aH 0 rfl)) (Z1 1 54 rfl (Rc rfl)) (Z1 2 55 rfl (Rm rfl)) (aF (Z1 3 56 rfl (YM (aG c1) rfl)) (Z2 4 57 3 56 rfl (YC (aG c1) rfl)) (Z2 3 56 5 58 rfl (Pt (aG c1) rfl)) (Z1 6 59 rfl (Rm rfl)) (aF ?_ (Z1 7 60 rfl (YM (aG c2) rfl)) ?_ (Z3 8 61 10 63 7 60 rfl (YI jk dL (aG c2) rfl rfl)) (aF (Z2 11 64 7 60 rfl (YF kG (aG c2) rfl)) ?_ (Z2 13 66 7 60 rfl (YC (aG c2) rfl)) (Z2 7 60 14 67 rfl (Pt (aG c2) rfl)) (aF (Z1 15 68 rfl (Rm rfl)) ?_ (Z1 16 69 rfl (YM (aG c3) rfl)) ?_ (aF (Z3 17 70 19 72 16 69 rfl (YI jk dL (aG c3) rfl rfl)) (Z2 20 73 16 69 rfl (YF yE (aG c3) rfl)) ?_ (Z1 16 69 rfl (YF yE (aG c3) rfl)) (aF ?_ ?_ (Z2 16 69 25 78 rfl (Pt (aG c3) rfl)) (Z1 26 79 rfl (Ra rfl)) dz))))))) ?_
            · refine eP 7 60 rfl rfl fun _ a w G1 hG HT H fin=>?_;refine kH H (YM (aG c2) rfl ?_);clear H;intro a H;exact fin H iJ (by show _=_;first|rfl|exact aB (fun A=>Value.slice A out.length vc) (Mk c2))
            · refine dK 9 62 7 60 rfl rfl fun _ a w G1 hG HT H fin=>?_;refine nW _ H (wg H rfl rfl (aG c2)) rfl rfl rfl (by omega) (by omega) rfl ?_;clear H;intro a H;exact fin H iJ (by show _=_;first|rfl|exact aB vi (by omega))
            · refine dK 12 65 7 60 rfl rfl fun _ a w G1 hG HT H fin=>?_;obtain ⟨_,_,_,_,_,_,rfl,_,_,_,_,_,_,_,_,hx⟩:=xG c2;refine rP aH H (wg H rfl rfl (aG c2)) rfl (hrw.at H.hp (fun x hx=>iO _ hx) (by rw [gJ];exact hx 0 _ rfl)) rfl ?_;clear H;intro a H;exact fin H iJ rfl
            · refine eP 16 69 rfl rfl fun _ a w G1 hG HT H fin=>?_;refine kH H (YM (aG c3) rfl ?_);clear H;intro a H;exact fin H iJ (by show _=_;first|rfl|exact aB (fun A=>Value.slice A out.length vc) (Mk c2))
            · refine dK 18 71 16 69 rfl rfl fun _ a w G1 hG HT H fin=>?_;refine nW _ H (wg H rfl rfl (aG c3)) rfl rfl rfl (by omega) (by omega) rfl ?_;clear H;intro a H;exact fin H iJ (by show _=_;first|rfl|exact aB vi (by omega))
            · refine dK 21 74 16 69 rfl rfl fun _ a w G1 hG HT H fin=>?_;obtain ⟨_,_,_,_,_,_,rfl,_,_,_,_,_,_,_,_,hx⟩:=xG c2
              refine bB eO (cs:=[pp,vi pk.1.marks.ins,vi pk.1.marks.move,pd,pl]) H (wg H rfl rfl (aG c3)) rfl rfl (fun j u hj=>hrw.at H.hp (fun x hx=>iO _ hx) (by
                  rw [gJ,Nat.add_assoc];refine hx (4+j) u ?_
                  match j,hj with
                  | 0,hj=>exact hj
                  | 1,hj=>exact hj
                  | 2,hj=>exact hj
                  | 3,hj=>exact hj
                  | 4,hj=>exact hj)) rfl ?_;clear H;intro a H
              exact fin H iJ rfl
            · refine dK 23 76 16 69 rfl rfl fun _ a w G1 hG HT H fin=>?_;refine bB eO (cs:=[_,_,_,_,_]) H (wg H rfl rfl (aG c3)) rfl rfl (H.hp.bU 0 rfl rfl) rfl ?_;clear H;intro a H;exact fin H iJ rfl
            · refine zk 22 75 24 77 16 69 rfl rfl fun _ a w G1 hG HT H fin=>?_;refine s_call Zl H (wg H rfl rfl (aG c3)) rfl (Zp _ _ H.ro pk.1 l[k].head _ _ _ _ _ _ (by obtain ⟨_,_,_,_,_,_,_,e,_,_,_,_,hh,_⟩:=xG c2;rw [e];exact hh.mono hG) (Jj.mono fun b o h=>hG b o (yK b o (EG b o (sJ b o h))))) rfl ?_;clear H;rintro v78 G78 a w rfl TL H;exact fin H TL (rfl)
            clear H;intro a w G lW H hv;have H:=H.aM (hv 27 52 rfl rfl) rfl;clear hv;refine aD ⟨rfl,?_⟩;refine ⟨(_,_),by exact (H).sub ⟨rfl,rfl,rfl,rfl,rfl,rfl,rfl,aC⟩,?_⟩;(try dsimp only);refine ⟨fun h=>by first|exact absurd h (by decide)|exact ⟨c1,c2,c3,mM h⟩,fun h=>?_,lW⟩
            first
              | exact absurd ((aG c4).symm.trans h) (by decide)
              | (rw [hos]
                 refine El hnd fun o2 z2 e2 hj=>?_;rw [uE,hyk,Jw] at hj;obtain ⟨j1,j2,j3⟩:=hj
                 first
                   | exact c1 j1
                   | (have c2':0 < (out.length:Int):=by rw [e2,iN,List.length_singleton];omega
                      obtain ⟨o,z,_,_,_,e,_,xk,_⟩:=xG c2';obtain ⟨-,ez⟩:=List.append_inj' (e2.symm.trans e) rfl
                      injection ez with ez
                      subst ez
                      first
                        | exact c2 c2'
                        | exact c3 (by rw [xk];exact j2)
                        | exact c4 (by rw [xk];exact j3)))
          skip;refine dI hmx [[],[0],[0,1],[0,1,2],(ra 0 4),(ra 0 5),(ra 0 6),(ra 0 7),(ra 0 8),(ra 0 8),(ra 0 8++[9]),(ra 0 11),(ra 0 12),(ra 0 13),(ra 0 14),(ra 0 15),(ra 0 16),(ra 0 17),(ra 0 17),(ra 0 17++[18]),(ra 0 20),(ra 0 21),(ra 0 22),(ra 0 17),(ra 0 17++[23]),(ra 0 25),(ra 0 26),(ra 0 27)] [] (by kernel_rfl) [_,vi l[k].kind,_,_,_,_,_,_,.slice (some ⟨bo,0,none⟩) out.length vc,_,vi ((out.length - 1:Nat):Int),_,_,vi pk.2,_,_,_,undef,undef,undef,undef,undef,undef,undef,undef,undef,_,_] H (aF (Z0 rfl (Rf kG rfl)) (Z1 0 53 rfl (Ro aH 0 rfl)) (Z1 1 54 rfl (Rc rfl)) (Z1 2 55 rfl (Rm rfl)) (aF (Z1 3 56 rfl (YM (aG c1) rfl)) (Z2 4 57 3 56 rfl (YC (aG c1) rfl)) (Z2 3 56 5 58 rfl (Pt (aG c1) rfl)) (Z1 6 59 rfl (Rm rfl)) (aF ?_ (Z1 7 60 rfl (YM (aG c2) rfl)) ?_ (Z3 8 61 10 63 7 60 rfl (YI jk dL (aG c2) rfl rfl)) (aF (Z2 11 64 7 60 rfl (YF kG (aG c2) rfl)) ?_ (Z2 13 66 7 60 rfl (YC (aG c2) rfl)) (Z2 7 60 14 67 rfl (Pt (aG c2) rfl)) (aF (Z1 15 68 rfl (Rm rfl)) (aX 16 (aU c3) rfl rfl) (aX 16 (aU c3) rfl rfl) (aX 16 (aU c3) rfl rfl) (aF (aX 16 (aU c3) rfl rfl) (aX 16 (aU c3) rfl rfl) (aX 16 (aU c3) rfl rfl) (aX 16 (aU c3) rfl rfl) (aF (aX 16 (aU c3) rfl rfl) (aX 16 (aU c3) rfl rfl) (Z2 16 69 25 78 rfl (Pf (aU c3) rfl)) (Z1 26 79 rfl (Ra rfl)) dz))))))) ?_
          · refine eP 7 60 rfl rfl fun _ a w G1 hG HT H fin=>?_;refine kH H (YM (aG c2) rfl ?_);clear H;intro a H;exact fin H iJ (by show _=_;first|rfl|exact aB (fun A=>Value.slice A out.length vc) (Mk c2))
          · refine dK 9 62 7 60 rfl rfl fun _ a w G1 hG HT H fin=>?_;refine nW _ H (wg H rfl rfl (aG c2)) rfl rfl rfl (by omega) (by omega) rfl ?_;clear H;intro a H;exact fin H iJ (by show _=_;first|rfl|exact aB vi (by omega))
          · refine dK 12 65 7 60 rfl rfl fun _ a w G1 hG HT H fin=>?_;obtain ⟨_,_,_,_,_,_,rfl,_,_,_,_,_,_,_,_,hx⟩:=xG c2;refine rP aH H (wg H rfl rfl (aG c2)) rfl (hrw.at H.hp (fun x hx=>iO _ hx) (by rw [gJ];exact hx 0 _ rfl)) rfl ?_;clear H;intro a H;exact fin H iJ rfl
          clear H;intro a w G lW H hv;have H:=H.aM (hv 27 52 rfl rfl) rfl;clear hv;refine aD ⟨rfl,?_⟩;refine ⟨(_,_),by exact (H).sub ⟨rfl,rfl,rfl,rfl,rfl,rfl,rfl,aC⟩,?_⟩;(try dsimp only);refine ⟨fun h=>by first|exact absurd h (by decide)|exact ⟨c1,c2,c3,mM h⟩,fun h=>?_,lW⟩
          first
            | exact absurd ((aG c4).symm.trans h) (by decide)
            | (rw [hos]
               refine El hnd fun o2 z2 e2 hj=>?_;rw [uE,hyk,Jw] at hj;obtain ⟨j1,j2,j3⟩:=hj
               first
                 | exact c1 j1
                 | (have c2':0 < (out.length:Int):=by rw [e2,iN,List.length_singleton];omega
                    obtain ⟨o,z,_,_,_,e,_,xk,_⟩:=xG c2';obtain ⟨-,ez⟩:=List.append_inj' (e2.symm.trans e) rfl
                    injection ez with ez
                    subst ez
                    first
                      | exact c2 c2'
                      | exact c3 (by rw [xk];exact j2)
                      | exact c4 (by rw [xk];exact j3)))
        skip;refine dI hmx [[],[0],[0,1],[0,1,2],(ra 0 4),(ra 0 5),(ra 0 6),(ra 0 7),(ra 0 8),(ra 0 8),(ra 0 8++[9]),(ra 0 11),(ra 0 12),(ra 0 13),(ra 0 14),(ra 0 15),(ra 0 16),(ra 0 17),(ra 0 17),(ra 0 17++[18]),(ra 0 20),(ra 0 21),(ra 0 22),(ra 0 17),(ra 0 17++[23]),(ra 0 25),(ra 0 26),(ra 0 27)] [] (by kernel_rfl) [_,vi l[k].kind,_,_,_,_,_,_,undef,undef,undef,undef,undef,undef,undef,_,_,undef,undef,undef,undef,undef,undef,undef,undef,undef,_,_] H (aF (Z0 rfl (Rf kG rfl)) (Z1 0 53 rfl (Ro aH 0 rfl)) (Z1 1 54 rfl (Rc rfl)) (Z1 2 55 rfl (Rm rfl)) (aF (Z1 3 56 rfl (YM (aG c1) rfl)) (Z2 4 57 3 56 rfl (YC (aG c1) rfl)) (Z2 3 56 5 58 rfl (Pt (aG c1) rfl)) (Z1 6 59 rfl (Rm rfl)) (aF (aX 7 (aU c2) rfl rfl) (aX 7 (aU c2) rfl rfl) (aX 7 (aU c2) rfl rfl) (aX 7 (aU c2) rfl rfl) (aF (aX 7 (aU c2) rfl rfl) (aX 7 (aU c2) rfl rfl) (aX 7 (aU c2) rfl rfl) (Z2 7 60 14 67 rfl (Pf (aU c2) rfl)) (aF (Z1 15 68 rfl (Rm rfl)) (aX 16 rfl rfl rfl) (aX 16 rfl rfl rfl) (aX 16 rfl rfl rfl) (aF (aX 16 rfl rfl rfl) (aX 16 rfl rfl rfl) (aX 16 rfl rfl rfl) (aX 16 rfl rfl rfl) (aF (aX 16 rfl rfl rfl) (aX 16 rfl rfl rfl) (Z2 16 69 25 78 rfl (Pf rfl rfl)) (Z1 26 79 rfl (Ra rfl)) dz))))))) ?_
        clear H;intro a w G lW H hv;have H:=H.aM (hv 27 52 rfl rfl) rfl;clear hv;refine aD ⟨rfl,?_⟩;refine ⟨(_,_),by exact (H).sub ⟨rfl,rfl,rfl,rfl,rfl,rfl,rfl,aC⟩,?_⟩;(try dsimp only);refine ⟨fun h=>by first|exact absurd h (by decide)|exact ⟨c1,c2,c3,mM h⟩,fun h=>?_,lW⟩
        first
          | exact absurd ((aG c4).symm.trans h) (by decide)
          | (rw [hos]
             refine El hnd fun o2 z2 e2 hj=>?_;rw [uE,hyk,Jw] at hj;obtain ⟨j1,j2,j3⟩:=hj
             first
               | exact c1 j1
               | (have c2':0 < (out.length:Int):=by rw [e2,iN,List.length_singleton];omega
                  obtain ⟨o,z,_,_,_,e,_,xk,_⟩:=xG c2';obtain ⟨-,ez⟩:=List.append_inj' (e2.symm.trans e) rfl
                  injection ez with ez
                  subst ez
                  first
                    | exact c2 c2'
                    | exact c3 (by rw [xk];exact j2)
                    | exact c4 (by rw [xk];exact j3)))
      skip;refine dI hmx [[],[0],[0,1],[0,1,2],(ra 0 4),(ra 0 5),(ra 0 6),(ra 0 7),(ra 0 8),(ra 0 8),(ra 0 8++[9]),(ra 0 11),(ra 0 12),(ra 0 13),(ra 0 14),(ra 0 15),(ra 0 16),(ra 0 17),(ra 0 17),(ra 0 17++[18]),(ra 0 20),(ra 0 21),(ra 0 22),(ra 0 17),(ra 0 17++[23]),(ra 0 25),(ra 0 26),(ra 0 27)] [] (by kernel_rfl) [_,vi l[k].kind,_,_,undef,undef,_,_,undef,undef,undef,undef,undef,undef,undef,_,_,undef,undef,undef,undef,undef,undef,undef,undef,undef,_,_] H (aF (Z0 rfl (Rf kG rfl)) (Z1 0 53 rfl (Ro aH 0 rfl)) (Z1 1 54 rfl (Rc rfl)) (Z1 2 55 rfl (Rm rfl)) (aF (aX 3 (aU c1) rfl rfl) (aX 3 (aU c1) rfl rfl) (Z2 3 56 5 58 rfl (Pf (aU c1) rfl)) (Z1 6 59 rfl (Rm rfl)) (aF (aX 7 rfl rfl rfl) (aX 7 rfl rfl rfl) (aX 7 rfl rfl rfl) (aX 7 rfl rfl rfl) (aF (aX 7 rfl rfl rfl) (aX 7 rfl rfl rfl) (aX 7 rfl rfl rfl) (Z2 7 60 14 67 rfl (Pf rfl rfl)) (aF (Z1 15 68 rfl (Rm rfl)) (aX 16 rfl rfl rfl) (aX 16 rfl rfl rfl) (aX 16 rfl rfl rfl) (aF (aX 16 rfl rfl rfl) (aX 16 rfl rfl rfl) (aX 16 rfl rfl rfl) (aX 16 rfl rfl rfl) (aF (aX 16 rfl rfl rfl) (aX 16 rfl rfl rfl) (Z2 16 69 25 78 rfl (Pf rfl rfl)) (Z1 26 79 rfl (Ra rfl)) dz))))))) ?_
      clear H;intro a w G lW H hv;have H:=H.aM (hv 27 52 rfl rfl) rfl;clear hv;refine aD ⟨rfl,?_⟩;refine ⟨(_,_),by exact (H).sub ⟨rfl,rfl,rfl,rfl,rfl,rfl,rfl,aC⟩,?_⟩;(try dsimp only);refine ⟨fun h=>by first|exact absurd h (by decide)|exact ⟨c1,c2,c3,mM h⟩,fun h=>?_,lW⟩
      first
        | exact absurd ((aG c4).symm.trans h) (by decide)
        | (rw [hos]
           refine El hnd fun o2 z2 e2 hj=>?_;rw [uE,hyk,Jw] at hj;obtain ⟨j1,j2,j3⟩:=hj
           first
             | exact c1 j1
             | (have c2':0 < (out.length:Int):=by rw [e2,iN,List.length_singleton];omega
                obtain ⟨o,z,_,_,_,e,_,xk,_⟩:=xG c2';obtain ⟨-,ez⟩:=List.append_inj' (e2.symm.trans e) rfl
                injection ez with ez
                subst ez
                first
                  | exact c2 c2'
                  | exact c3 (by rw [xk];exact j2)
                  | exact c4 (by rw [xk];exact j3)))
    clear H;rintro ⟨jb,g9⟩ a w hI H;dsimp only at hI H;obtain ⟨hjy,hjn,Ca⟩:=hI;have aly:=OC.mono Ca;have Me:=aaS.mono Ca;have aat:∀ b o,G b=some o→g9 b=some o:=fun b o h=>Ca b o (aas b o h);dsimp only [lca,bq] at H;refine jC H rfl ?_ ?_
    · intro lG
      try have p52:=dT lG
      obtain ⟨c1,c2,c3,c4⟩:=hjy (by assumption);obtain ⟨oo,z,x0,zf,zr,O1,rfl,rfl,rfl,hxs,hxl,hc0,hhz,hfz,hrz,hxj⟩:=xG c2
      have hzt:z.text.size≤nX out:=by
        rw [O1,Ia];simp only [nX];omega
      obtain ⟨cur,-,rfl,hcur,hset⟩:=hrw.set1;refine dI hmx [[],[],[1],[0,1,2],(ra 0 4),(ra 0 5),[],[6],(ra 0 8),(ra 0 9),(ra 0 10),(ra 0 11)] [9,10,11] (by kernel_rfl) [_,_,vi ((out.length - 1:Nat):Int),_,_,.string z.text,_,.string l[k].text,.string (z.text++l[k].text)] H (aF (Z0 rfl (Rm rfl)) (Z0 rfl (Rm rfl)) ?_ (Z2 0 80 2 82 rfl (Ri jk dL rfl rfl)) (aF (Z1 3 83 rfl (Rf wu rfl)) ?_ (Z0 rfl (Rf wu rfl)) (Z1 6 86 rfl (Ro iM 0 rfl)) (aF ?_ (bQ rfl) (bQ rfl) (bQ rfl) dz))) ?_
      · refine eP 1 81 rfl rfl fun _ a w G1 hG HT H fin=>?_;refine kH H (Rs rfl ?_);clear H;intro a H;exact fin H iJ (by show _=_;first|rfl|exact aB vi (by omega))
      · refine eP 4 84 rfl rfl fun _ a w G1 hG HT H fin=>?_;refine rP iM H wn rfl (hrw.at H.hp (fun x hx=>iO _ hx) (by rw [gJ];exact hxj 3 _ rfl)) rfl ?_;clear H;intro a H;exact fin H iJ rfl
      · refine dK 5 85 7 87 rfl rfl fun _ a w G1 hG HT H fin=>?_;refine aqz H wn rfl rfl (by omega) rfl ?_;clear H;intro a H;exact fin H iJ rfl
      clear H;intro a w G oN H hv;have H:=H.aM (hv 0 80 rfl rfl) rfl;have H:=H.aM (hv 2 82 rfl rfl) rfl;have H:=H.aM (hv 8 88 rfl rfl) rfl;clear hv;refine kH H (Ri jk dL rfl rfl (Rf wu rfl ?_));clear H;intro a H;refine aY iM 1 (c:=cur) (vs:=[.string (z.text++l[k].text)]) (cur.set ((out.length - 1)*11+3) (.string (z.text++l[k].text))) H wn rfl rfl rfl rfl rfl rfl (by simp;omega) (by rw [gJ];rfl) ?_;clear H;intro w H;dsimp only [List.set] at H;have amR:=hset ((out.length - 1)*11+3) (.string (z.text++l[k].text))
      have hnj:uJ l (k+1)=oo++[rH z y]:=by rw [hos,O1];exact ND hnd ⟨by rw [hyk];exact c1,c3,by rw [Jw];exact c4⟩
      refine aD ⟨rfl,?_⟩;refine K7 _ _ ?_;clear K7;refine kP H (SC (Rd rfl (Rm rfl ?_)));clear H;intro a H;refine aD ?_;refine dM ((k+1,_,xs.set ((out.length - 1)*11+3) (.string (z.text++l[k].text)),_,_)) (by exact (H.dG (Pl:=[_]) (cZ:=[]) [] (by decide) rfl).sub ⟨rfl,rfl,rfl,rfl,aC⟩) ?_
      (try dsimp only);exact ⟨by omega,by rw [hnj,show (oo++[rH z y]).length=out.length by rw [O1];simp];exact amR,by rw [hnj,hxs,O1];exact joined (hc0.mono fun b o h=>oN b o (Ca b o h)) hxl (hhz.mono fun b o h=>oN b o (Ca b o h)) (hfz.mono fun b o h=>oN b o (Ca b o h)) (hrz.mono fun b o h=>oN b o (Ca b o h)) (by rw [Ml]),fun b o h=>oN b o (aat b o h)⟩
    intro lG
    try have p52:=dF lG
    have hnx:=hjn (by assumption);refine kP H (SC (Rm rfl ?_));clear H;intro a H;refine bB dL (cs:=[_,_,_,_,_,_,_,_,_,_,_]) H wn rfl rfl (H.hp.bU 0 rfl rfl) rfl ?_;clear H;intro a H;refine ig jk dL [_,_,_,_,_,_,_,_,_,_,_] [_,_,_,_,_,_,_,_,_,_,_] H wn rfl rfl rfl rfl rfl (by intro i q h;match i,h with|0,h=>exact h|n+1,h=>simp at h) rfl rfl ?_;clear H;intro X4 a w ali H;refine nk (Li:=[_,_]) (Lo:=Lo) (news:=RL) jk dL rfl rfl H wn rfl rfl hrw (by rw [OG];rfl) (by rw [OG];exact H.hp.bU 0 rfl rfl) aaS.one (by omega) (by omega) rfl ?_;clear H;intro v31 aeF a w O6 H;refine kH H (bC K7 rfl (SC (Rd rfl (Rm rfl ?_))));clear H K7;intro a H;refine aD ?_;refine dM ((k+1,v31,xs++RL,aeF,_)) (by exact (H.dG (Pl:=[_,_]) (cZ:=[]) [] (by decide) rfl).sub ⟨rfl,rfl,rfl,rfl,aC⟩) ?_
    (try dsimp only);exact ⟨by omega,by rw [hnx,iN];exact O6,by rw [hnx,kY];exact (aly.snoc Me (by rw [OG];rfl)),aat⟩
  intro h10 a H
  try have nV:=dF h10
  refine eu ?_;refine K3 _ _ ?_;clear K3;refine bN (fun _ cB=>?_)
  obtain rfl:k=l.length:=by omega
  obtain ⟨G',hm,hrep,H⟩:=H.nQ (Li:=[]) hrw (rows:=out.map ay.dat) (by simp) dP;exact kP H (SC (Rm rfl (bC cB rfl (LR results58 rfl fun H=>H.rt (by rw [oz,← hout];exact hrep)))))
theorem abY:∀ n:Nat,n≤1073741825→FI n
 | 0,_=>fun _ _ _ _ _ _ _ h=>absurd h (by omega)
 | n+1,hn=>aox (abY n (by omega)) (by omega)
theorem aoz (G:GH) (w0:World) (hG:Hold G w0) (l:List ay) (v:aj) (hv:av G (.sl 11 (l.map ay.dat)) v) (hne:wM l) (hz:bV l≤1073741824) :
  Calls prog 58 #[v] w0 (bH w0 G fun u G'=>av G' (.sl 11 ((oz l).map ay.dat)) u):=abY 1073741825 (by omega) G w0 hG l v hv hne (by omega)
theorem aji:∀ args w,(callFunc 59 args).run prog w=.ok (.enter 59 args) w:=enters func59 rfl (by kernel_rfl)
theorem ajl:∀ args w,(callFunc 63 args).run prog w=.ok (.enter 63 args) w:=enters func63 rfl (by kernel_rfl)
theorem ajj:∀ args w,(callFunc 61 args).run prog w=.ok (.enter 61 args) w:=enters func61 rfl (by kernel_rfl)
theorem asB {G:GH} {b3:Nat} {us:List Int} {uv:aj} (hb:aI G b3 0=some uv) (hu:av G (.sl 1 (us.map fun k=>[li k])) uv) (hl:us.length≤4294967296) (x:dh):qV (.func (.func 61) #[] #[(aK b3 0)]) G x.dat (!qm us x.id):=by
 intro G1 w0 cs hm hG hr;obtain rfl:=V6 hr;replace hb:=aJ hm hb;replace hu:=hu.mono hm;obtain ⟨uA,uc,rfl,-,-,-⟩:=hu.slice;refine jI (caps:=[(aK b3 0)]) ajj ?_;refine eN [(0,_),(1,_)] func61 rfl ntmps61 rfl rfl hG ?_;intro a H;refine bZ (fun _ K1=>?_);refine dZ (cs:=[_,_,_]) H wn rfl rfl rfl ?_;clear H;intro b2 a w hb2 H;refine kH H (ak K1 rfl (SR fun _ K2=>Rg MS rfl hb (bG Sr aH 0 rfl rfl ?_)));clear H K1;intro a H;refine s_call ajk H wn rfl (afg _ _ H.ro us x.id _ hu hl) rfl ?_;clear H;rintro v10 CK a w ⟨rfl,rfl⟩ EF H;refine kH H (Rm rfl ?_);clear H;intro a H;(iterate 2 refine lS H wn rfl rfl rfl ?_;clear H;intro a H);exact kH H (Ra rfl (ak K2 rfl (SR fun _ K3=>Rm rfl (Rn rfl (ak K3 rfl (LR results61 rfl fun H=>H.rt rfl))))))
def Cn (d:jA):jA:=⟨oz d.flow,d.fin,d.revs,d.lT⟩
def nD (d:jA):jA:=⟨oz d.flow,d.fin,d.revs.filter fun r=>qm (DT (vT (Cn d))) r.id,d.lT⟩
theorem apR (G:GH) (l:List dh):bR G 3 (l.map dh.dat) (oC l):=by
 have h:∀ (B A:List dh),bR G 3 (A.map dh.dat) (oC A)→bR G 3 ((A++B).map dh.dat) (oC (A++B)):=by
  intro B
  induction B with
  | nil=>intro A h;rw [jd];exact h
  | cons x B ih =>
   intro A h;have h2:=h.snoc (MH G x) rfl;have h3:=ih (A++[x]) (by rw [V3,kY];exact h2)
   simpa using h3
 exact h l [] bR.nil
set_option maxHeartbeats 2000000 in
set_option maxRecDepth 8000 in
theorem agQ (G:GH) (w0:World) (hG:Hold G w0) (D:jM) (d:jA) (hR:oD G D d) (hz:CG d) (hne:wM d.flow) (hz2:bV (oz d.flow)≤1073741824) (hw:∀ k∈vT (Cn d),-9223372036854775808≤k∧k < 9223372036854775808) (hl:(vT (Cn d)).length≤4294967296) :
  Calls prog 17 #[D.val] w0 (bH w0 G fun u G'=>∃ D':jM,u=D'.val∧oD G' D' (nD d)):=by
 obtain ⟨df,dp,dd,dy,dr,d1,d2,d3,d4,ins,mv⟩:=D;obtain ⟨zf,zh,zr,zt,zs,Ii⟩:=hz;refine eN [(0,_)] func17 rfl ntmps17 rfl rfl hG ?_;intro a H;refine bZ (fun _ K1=>?_);refine dZ (cs:=[_,_,_,_,_,_,_,_,_,_,_]) H wn rfl rfl rfl ?_;clear H;intro b1 a w hb1 H;refine dB ko H wn rfl ?_;clear H;intro b2 a w hb2 H;refine K1 _ _ ?_;clear K1;refine kP H (SR fun _ K2=>bG wo kg 1 rfl rfl ?_);clear H;intro a H;refine s_call Sk H wn rfl (aoz _ _ H.ro d.flow _ hR.fl hne zf) rfl ?_;clear H;rintro v6 G6 a w hv6 GK H;obtain ⟨fA,fn,fc,rfl⟩:=hv6.form;have Ar:oD G6 ⟨(fA,fn,fc),dp,dd,dy,dr,d1,d2,d3,d4,ins,mv⟩ (Cn d):=⟨hv6,hR.hd.mono GK,hR.ins,hR.mv,hR.rv.mono GK,hR.st.mono GK⟩;refine kH H (Rf wo rfl ?_);clear H;intro a H;refine aY kg 1 (vs:=[_]) _ H wn rfl rfl rfl rfl rfl rfl rfl rfl ?_;clear H;intro w H;dsimp only [List.set,setRow] at H;refine K2 _ _ ?_;clear K2;refine bZ (fun _ K3=>?_);refine bB ko (cs:=(⟨(fA,fn,fc),dp,dd,dy,dr,d1,d2,d3,d4,ins,mv⟩:jM).cells) H wn rfl rfl (H.hp.bU 1 rfl rfl) rfl ?_;clear H;intro a H;refine s_call aje H wn rfl (agR _ _ H.ro _ _ Ar (by show bV (oz d.flow)≤_;omega) hw hl) rfl ?_;clear H;rintro v9 G9 a w O9 yM H;obtain ⟨uA,un,uc,rfl⟩:=O9.form;refine dB MS H wn rfl ?_;clear H;intro b3 a w hb3 H;refine aY MS 0 (vs:=[_]) _ H wn rfl rfl rfl rfl rfl rfl rfl rfl ?_;clear H;intro w H;dsimp only [List.set,setRow] at H;refine K3 _ _ ?_;clear K3;refine bN (fun _ K4=>?_);obtain ⟨Gb,hmb,Au,H⟩:=H.eH;have hq3:aI Gb b3 0=some (.slice uA un uc):=vw Au 0 [.slice uA un uc] rfl 0 _ rfl;replace O9:=O9.mono hmb;replace Ar:=(Ar.mono yM).mono hmb;refine kP H (SC (bG Ev yY 1 rfl rfl ?_));clear H;intro a H;refine gW Zm (Li:=[_,_]) (L:=[]) H wn rfl (Yp _ _ (yR H.ro) _ _ _ _ Ar.rv (by simpa [Cn] using zr)) rfl ?_;clear H;rintro v12 D9 L12 a w ⟨auR,UM,alu⟩ Dq H;obtain rfl:=apS alu;rw [aZ] at UM;obtain ⟨rA,rc,rfl,-,-⟩:=UM.shape;refine oQ H wn rfl rfl ?_;clear H;intro a H;refine gW aji (Li:=[_,_]) (L:=L12) H wn rfl (agO d.revs (fun r=>!qm (DT (vT (Cn d))) r.id) (Hp.owns (Li:=[_,_]) H.hp) UM (fun x _=>asB (aJ Dq hq3) (O9.mono Dq) (by rw [DT,List.length_mergeSort];exact hl) x)) rfl ?_;clear H;rintro v14 ze L14 a w Mg Cb H
 simp only [Bool.not_not] at Mg
 obtain ⟨Gr,hmr,aaV,H⟩:=St.nQ (Li:=[_,_]) H Mg (rows:=(nD d).revs.map dh.dat) (by simp [nD]) (apR _ _);obtain ⟨rB,rn,rd,rfl⟩:=aaV.form;replace Ar:=((Ar.mono Dq).mono Cb).mono hmr;have hR2:oD Gr ⟨(fA,fn,fc),dp,dd,dy,(rB,rn,rd),d1,d2,d3,d4,ins,mv⟩ (nD d):=⟨Ar.fl,Ar.hd,Ar.ins,Ar.mv,aaV,Ar.st⟩;refine kH H (Rf Ev rfl ?_);clear H;intro a H;refine aY yY 1 (vs:=[_]) _ H wn rfl rfl rfl rfl rfl rfl rfl rfl ?_;clear H;intro w H;dsimp only [List.set,setRow] at H;refine aD ?_;refine K4 _ _ ?_;clear K4;refine bZ (fun _ K5=>?_);refine bB ko (cs:=(⟨(fA,fn,fc),dp,dd,dy,(rB,rn,rd),d1,d2,d3,d4,ins,mv⟩:jM).cells) H wn rfl rfl (H.hp.bU 1 rfl rfl) rfl ?_;clear H;intro a H;refine gW ajl (Li:=[_,_]) (L:=[]) H wn rfl (agP _ _ (yR H.ro) _ _ hR2 ⟨by show bV (oz d.flow)≤_;omega,zh,Nat.le_trans (List.length_filter_le _ _) zr,fun x hx=>zt x (List.mem_filter.1 hx).1,zs,Ii⟩) rfl ?_;clear H;rintro v17 xX QU a w ⟨D',rfl,xf,Lf,xr,Lr,rfl,Ju,Uf,Jv,Ug,alY,alZ,amk,hst'⟩ rD H;obtain ⟨Gs,hms,amF,H⟩:=St.nQ (Li:=[_,_]++Lf) (by rw [iI];exact H) Jv (rows:=(nD d).revs.map dh.dat) (by simp) Ug;obtain ⟨Gt,hmt,alT,H⟩:=St.nQ (Li:=[_,_]) H Ju (rows:=(nD d).flow.map ay.dat) (by simp) (Uf.mono hms);refine aY ko 0 (vs:=[_,_,_,_,_,_,_,_,_,_,_]) _ H wn rfl rfl rfl rfl rfl rfl rfl rfl ?_;clear H;intro w H;dsimp only [List.set,setRow] at H;refine K5 _ _ ?_;clear K5;refine bS ?_;refine (leave1 H results17 (.cons (ng ko (cs:=[_,_,_,_,_,_,_,_,_,_,_]) H rfl rfl (H.hp.bU 0 rfl rfl)) .nil) ?_).1;exact H.rt ⟨D',rfl,alT,(alY.mono hms).mono hmt,alZ,amk,amF.mono hmt,(hst'.mono hms).mono hmt⟩
theorem Ov {l:List Int} (h:∀ x∈l,x=0):dY l=0:=by
 induction l with
 | nil=>rfl
 | cons x l ih=>rw [h x gM];simp only [dY,ne_eq,not_true_eq_false,if_false];exact ih fun y hy=>h y (iO _ hy)
theorem XW {E:Nat→Int} {n:Nat} (h:∀ i,i < n→E i=0):kQ E n=0:=Ov fun x hx=>by
 obtain ⟨i,hi,rfl⟩:=List.mem_map.1 hx;exact h i (uV.1 hi)
theorem acA {α:Type} {l:List α} {R:α→α→Prop} (htr:∀ a b c,R a b→R b c→R a c) (h:∀ k (hk:k+1 < l.length),R l[k] l[k+1]):l.Pairwise R:=by
 rw [List.pairwise_iff_getElem];intro i j hi hj hij
 induction j with
 | zero=>omega
 | succ j ih =>
  by_cases e:i=j
  ·subst e;exact h i hj
  exact htr _ _ _ (ih (by omega) (by omega)) (h j hj)
def XM (C:bP) (e k v:Int):Prop:=wz e k=true∧uf k v=0∧oP C.st C.wI k v=0
def zl (C:bP) (e:Int) (l:List aO):Prop:=(∀ p∈l,XM C e p.key p.value)∧l.Pairwise fun x y=>x.key < y.key
def Aa (C:bP) (e k:Int) (s:Int × Bool):Prop:=wz e k=true∧(s.2=true→uf k s.1=0∧oP C.st C.wI k s.1=0)∧(s.2=false→s.1=0)
def Iw (C:bP) (e:Int) (y:cO):Prop:=y.rev∈C.Bd∧Aa C e y.key (y.before,y.had)
structure QN (C:bP) (e:Int) (h:dQ):Prop where
 el:1≤e∧e≤10
 ps:zl C e h.props
 mrk:(h.marks.ins≠0→h.marks.ins∈C.Bd)∧(0≤h.marks.move∧h.marks.move≤1073741824)∧(h.marks.move≠0→h.marks.ins≠0)∧h.marks.bJ.length≤16
 dl:(∀ x∈h.marks.bJ,x.rev∈C.Bd∧0≤x.move∧x.move≤1073741824)∧h.marks.bJ.Pairwise fun x y=>x.rev < y.rev
 ln:h.marks.layers.length≤64
 ly:(∀ y∈h.marks.layers,Iw C e y)∧h.marks.layers.Pairwise fun x y=>x.key≤y.key
theorem Rz (e:Int):∀ (l:List aO) (q:Option Int),zw e q l=0↔(∀ p∈l,wz e p.key=true∧uf p.key p.value=0)∧(l.Pairwise fun x y=>x.key < y.key)∧∀ j,q=some j→∀ p∈l,j < p.key
 | [],q=>by simp [zw]
 | p :: r,q=>by
  rw [zw];have ih:=Rz e r (some p.key)
  constructor
  ·intro h
   split at h
   ·cases h
   rename_i h1
   split at h
   ·cases h
   rename_i h2
   split at h
   ·cases h
   rename_i h3
   split at h
   ·rename_i h4
    obtain ⟨a,b,c⟩:=ih.1 h
    have hq:∀ j,q=some j→j < p.key:=fun j e=>by
     subst e;rw [EU,nN] at h3;have:j≠p.key:=fun e=>h2 (by rw [e])
     omega
    refine ⟨fun x hx=>?_,?_,fun j e x hx=>?_⟩
    ·rcases kL.1 hx with rfl|hx
     ·exact ⟨by simpa using h1,h4⟩
     exact a x hx
    ·exact wU.2 ⟨fun y hy=>c _ rfl y hy,b⟩
    rcases kL.1 hx with rfl|hx
    ·exact hq j e
    exact Int.lt_trans (hq j e) (c _ rfl x hx)
   rename_i h4;exact absurd h h4
  rintro ⟨a,b,c⟩;obtain ⟨b1,b2⟩:=wU.1 b;obtain ⟨a1,a2⟩:=a p gM;rw [ah (by simp [a1]),ah (fun e=>by have:=c _ e p gM;omega),ah,au a2]
  ·exact ih.2 ⟨fun x hx=>a x (iO _ hx),b2,fun j e x hx=>by cases e;exact b1 x hx⟩
  intro hl
  cases q with
  | none=>cases hl
  | some j =>
   rw [EU,nN] at hl;have:=c j rfl p gM;omega
theorem aap (C:bP) (e:Int) (h:dQ):iE C e h=0↔QN C e h:=by
 constructor
 ·intro hE;have z:=mE hE;have z1:=z (iw e h.props) (by simp);have z2:=z (Bb C h.props) (by simp);have z3:=z (jZ C h.marks) (by simp);have z4:=z (kQ (uY C h.marks.bJ) h.marks.bJ.length) (by simp);have z5:=z (dx (decide (64 < (h.marks.layers.length:Int))) 9) (by simp);have z6:=z (kQ (zI C e h.marks.layers) h.marks.layers.length) (by simp)
  unfold iw at z1
  have hel:¬ (e < 1∨10 < e):=fun h=>by rw [au h] at z1;cases z1
  rw [ah hel,Rz] at z1
  unfold jZ at z3
  have hD:∀ k (hk:k < h.marks.bJ.length),uZ C k h.marks.bJ[k] ((h.marks.bJ[k - 1]?.map gq.rev).getD 0)=0:=fun k hk=>by
   have h5:=FL z4 k hk
   unfold uY at h5
   rwa [eD hk] at h5
  have hL:∀ k (hk:k < h.marks.layers.length),xI C e k h.marks.layers[k] ((h.marks.layers[k - 1]?.map cO.key).getD 0)=0:=fun k hk=>by
   have h5:=FL z6 k hk
   unfold zI at h5
   rwa [eD hk] at h5
  refine ⟨by omega,⟨fun p hp=>⟨(z1.1 p hp).1,(z1.1 p hp).2,?_⟩,z1.2.1⟩,?_,⟨fun x hx=>?_,acA (fun a b c=>Int.lt_trans) fun k hk=>?_⟩,?_,⟨fun y hy=>?_,acA (fun a b c=>Int.le_trans) fun k hk=>?_⟩⟩
  ·exact mE z2 _ (List.mem_map.2 ⟨p,hp,rfl⟩)
  ·split at z3
   ·cases z3
   rename_i a1
   split at z3
   ·cases z3
   rename_i a2
   split at z3
   ·cases z3
   rename_i a3
   exact ⟨fun h0=>Decidable.byContradiction fun hn=>a1 ⟨h0,hn⟩,by omega,by omega,by omega⟩
  ·obtain ⟨k,hk,rfl⟩:=List.getElem_of_mem hx;have h6:=hD k hk
   unfold uZ at h6
   split at h6
   ·cases h6
   rename_i a1
   split at h6
   ·cases h6
   split at h6
   ·cases h6
   rename_i a3
   exact ⟨oK.1 a1,by omega⟩
  ·have h6:=hD (k+1) hk;rw [Nat.add_sub_cancel,eD (by omega:k < h.marks.bJ.length)] at h6
   unfold uZ at h6
   split at h6
   ·cases h6
   split at h6
   ·cases h6
   rename_i a2
   simp only [vW,Option.getD_some] at a2
   omega
  ·unfold dx at z5
   split at z5
   ·cases z5
   rename_i a;simp only [nN] at a;omega
  ·obtain ⟨k,hk,rfl⟩:=List.getElem_of_mem hy;have h6:=hL k hk
   unfold xI at h6
   split at h6
   ·cases h6
   rename_i a1
   split at h6
   ·cases h6
   rename_i a2
   split at h6
   ·cases h6
   refine ⟨oK.1 a1,by simpa using a2,fun ht=>?_,fun hf=>?_⟩
   ·dsimp only at ht;rw [ah (by rw [ht];decide)] at h6;exact ⟨mE h6 _ gM,mE h6 _ (by simp)⟩
   dsimp only at hf;rw [au hf,za (by decide)] at h6
   simpa using h6
  have h6:=hL (k+1) hk;rw [Nat.add_sub_cancel,eD (by omega:k < h.marks.layers.length)] at h6
  unfold xI at h6
  split at h6
  ·cases h6
  split at h6
  ·cases h6
  split at h6
  ·cases h6
  rename_i a2
  simp only [vW,Option.getD_some] at a2
  omega
 rintro ⟨hel,⟨hp,hps⟩,⟨m1,m2,m3,m4⟩,⟨d1,d2⟩,hln,⟨l1,l2⟩⟩;refine Ov fun x hx=>?_
 simp only [kL,List.not_mem_nil,or_false] at hx
 rcases hx with rfl|rfl|rfl|rfl|rfl|rfl
 ·unfold iw
  rw [ah (by omega),Rz];exact ⟨fun p h=>⟨(hp p h).1,(hp p h).2.1⟩,hps,fun j e=>by cases e⟩
 ·refine Ov fun x hx=>?_;obtain ⟨p,h1,rfl⟩:=List.mem_map.1 hx;exact (hp p h1).2.2
 ·unfold jZ
  rw [ah fun h=>h.2 (m1 h.1),ah fun h=>h.elim (fun h=>h m2) fun h=>m3 h.1 h.2,ah (by omega)]
 ·refine XW fun k hk=>?_
  unfold uY
  rw [eD hk];dsimp only [uZ];have:=d1 _ (kN hk);rw [ah fun h=>h this.1,ah,ah fun h=>h this.2];rintro ⟨h0,h1⟩;rw [eD (by omega:k - 1 < h.marks.bJ.length)] at h1;have:=List.pairwise_iff_getElem.1 d2 (k - 1) k (by omega) hk (by omega)
  simp only [vW,Option.getD_some] at h1
  omega
 ·rw [za (by decide),ny];omega
 refine XW fun k hk=>?_
 unfold zI
 rw [eD hk];dsimp only [xI];obtain ⟨a1,a2,a3,a4⟩:=l1 _ (kN hk);rw [ah fun h=>h a1,ah (by simp [a2]),ah]
 ·split
  ·rename_i hf
   rw [za (by decide)];have:=a4 hf
   simpa using this
  rename_i hf
  obtain ⟨b1,b2⟩:=a3 (by simpa using hf);exact SI.2 ⟨b1,b2⟩
 rintro ⟨h0,h1⟩;rw [eD (by omega:k - 1 < h.marks.layers.length)] at h1;have:=List.pairwise_iff_getElem.1 l2 (k - 1) k (by omega) hk (by omega)
 simp only [vW,Option.getD_some] at h1
 omega
theorem aac {l:List aO} {k:Int} (h:qm (l.map aO.key) k=true):∃ hi:iG (l.map aO.key) k < l.length,l[iG (l.map aO.key) k].key=k:=by
 have h1:=LJ h;rw [aZ] at h1;have h2:=mM h;rw [pE,eD h1] at h2;exact ⟨h1,by simpa using h2⟩
theorem akt {C:bP} {e:Int} {l:List aO} (hp:zl C e l) {k:Int} (hf:wz e k=true):Aa C e k (Ai l k):=by
 unfold Ai
 split
 ·rename_i h
  obtain ⟨h1,h2⟩:=aac h;have:=(hp.1 _ (kN h1)).2;rw [h2] at this;rw [List.getD_eq_getElem?_getD,eD h1];exact ⟨hf,fun _=>this,fun h=>by cases h⟩
 exact ⟨hf,fun h=>(by cases h),fun _=>rfl⟩
theorem ady {C:bP} {e k:Int} (hf:wz e k=true):Aa C e k (0,false):=⟨hf,fun h=>(by cases h),fun _=>rfl⟩
theorem afh {l:List aO} (hs:l.Pairwise fun x y=>x.key < y.key) (k:Int):(∀ p∈l.take (iG (l.map aO.key) k),p.key < k)∧∀ p∈l.drop (iG (l.map aO.key) k),k≤p.key:=by
 have hle:=FN (l.map aO.key) k;rw [aZ] at hle;have hp:(l.map aO.key).Pairwise (·≤·):=List.pairwise_map.2 (hs.imp fun h=>Int.le_of_lt h);obtain ⟨r1,r2⟩:=Ya hp k;refine ⟨fun p h=>?_,fun p h=>?_⟩
 ·obtain ⟨i,hi,rfl⟩:=List.getElem_of_mem h;rw [List.length_take] at hi;have:=r1 i (by rw [aZ];omega) (by omega);rw [List.getElem_map] at this;rw [List.getElem_take];exact this
 obtain ⟨i,hi,rfl⟩:=List.getElem_of_mem h;rw [List.length_drop] at hi;have h1:=r2 (by rw [aZ];omega);rw [List.getElem_map] at h1;rw [List.getElem_drop]
 by_cases e:i=0
 ·subst e;exact h1
 have:=List.pairwise_iff_getElem.1 hs (iG (l.map aO.key) k) (iG (l.map aO.key) k+i) (by omega) (by omega) (by omega)
 omega
theorem agx {C:bP} {e:Int} {l:List aO} (hp:zl C e l) (k:Int):zl C e (Ep l k):=by
 unfold Ep
 split
 ·have hs:(l.take (iG (l.map aO.key) k)++l.drop (iG (l.map aO.key) k+1)).Sublist l:=by
   conv=>rhs;rw [← List.take_append_drop (iG (l.map aO.key) k) l]
   exact List.Sublist.append (fT _) (by rw [← List.drop_drop];exact List.drop_sublist _ _)
  exact ⟨fun p h=>hp.1 p (hs.subset h),hp.2.sublist hs⟩
 exact hp
theorem arf {C:bP} {e:Int} {l:List aO} (hp:zl C e l) {k v:Int} (hk:XM C e k v):zl C e (Fg l k v):=by
 obtain ⟨b1,b2⟩:=afh hp.2 k
 unfold Fg
 split
 ·rename_i h
  obtain ⟨h1,h2⟩:=aac h;rw [List.getD_eq_getElem?_getD,eD h1,Option.getD_some,h2];refine ⟨fun p hpm=>?_,?_⟩
  ·rcases List.mem_or_eq_of_mem_set hpm with h|rfl
   ·exact hp.1 p h
   exact hk
  have e:(l.set (iG (l.map aO.key) k) ⟨k,v⟩).map aO.key=l.map aO.key:=by
   rw [List.map_set];refine List.ext_getElem (by simp) fun i h3 h4=>?_;rw [List.getElem_set]
   split
   ·rename_i hi;subst hi;rw [List.getElem_map,h2]
   rfl
  have:=List.pairwise_map.2 hp.2;rw [← e] at this;exact List.pairwise_map.1 this
 rename_i h
 have hne:∀ p∈l,p.key≠k:=fun p hpm he=>by
  rw [ala (List.pairwise_map.2 (hp.2.imp fun h=>Int.le_of_lt h)),nN] at h;exact h (List.mem_map.2 ⟨p,hpm,he⟩)
 refine ⟨fun p hpm=>?_,?_⟩
 ·rcases oJ.1 hpm with h|h
  ·exact hp.1 p (List.mem_of_mem_take h)
  rcases kL.1 h with rfl|h
  ·exact hk
  exact hp.1 p (List.mem_of_mem_drop h)
 rw [List.pairwise_append];refine ⟨hp.2.sublist (List.take_sublist _ _),wU.2 ⟨fun p h=>?_,hp.2.sublist (List.drop_sublist _ _)⟩,fun p h q hq=>?_⟩
 ·have h1:=b2 p h;have h2:=hne p (List.mem_of_mem_drop h)
  show k < p.key
  omega
 have h1:=b1 p h
 rcases kL.1 hq with rfl|hq
 ·exact h1
 have h2:=b2 q hq
 show p.key < q.key
 omega
theorem asO {C:bP} {e:Int} {l:List aO} (hp:zl C e l) {k:Int} {s:Int × Bool} (hs:Aa C e k s):zl C e (zT l k s):=by
 unfold zT
 split
 ·rename_i h
  exact arf hp ⟨hs.1,hs.2.1 h⟩
 exact agx hp k
theorem Vk {C:bP} {e:Int} (rej:Int→Bool) {xQ:List (Int × Bool)} {k:Int} (hf:wz e k=true) (hst:∀ s∈xQ,Aa C e k s):∀ (l:List cO) (j:Nat) (now:Int × Bool),(∀ y∈l,y.key=k∧y.rev∈C.Bd)→Aa C e k now →
  (∀ y∈(xH rej xQ l j now).1,y.key=k∧Iw C e y∧∃ z∈l,z.rev=y.rev∧rej z.rev=false)∧Aa C e k (xH rej xQ l j now).2
 | [],_,_,_,hn=>by rw [xH];exact ⟨fun y h=>(by cases h),hn⟩
 | y :: r,j,now,hl,hn=>by
  obtain ⟨h1,h2⟩:=hl y gM;have hl2:=fun z hz=>hl z (iO _ hz);rw [xH]
  split
  ·obtain ⟨a,b⟩:=Vk rej hf hst r (j+1) now hl2 hn;refine ⟨fun z hz=>?_,b⟩;obtain ⟨c1,c2,x,c3,c4⟩:=a z hz;exact ⟨c1,c2,x,iO _ c3,c4⟩
  rename_i hr
  have hg:Aa C e k (xQ.getD (j+1) (0,false)):=by
   rw [List.getD_eq_getElem?_getD]
   cases hx:xQ[j+1]? with
   | none=>exact ady hf
   | some s=>exact hst s (kV hx)
  obtain ⟨a,b⟩:=Vk rej hf hst r (j+1) _ hl2 hg;refine ⟨fun z hz=>?_,b⟩
  rcases kL.1 hz with rfl|hz
  ·refine ⟨h1,⟨h2,?_⟩,y,gM,rfl,by simpa using hr⟩;dsimp only;rw [h1];exact hn
  obtain ⟨c1,c2,x,c3,c4⟩:=a z hz;exact ⟨c1,c2,x,iO _ c3,c4⟩
theorem SY (acc:Int→Bool):∀ (l:List cO) (k c:Nat),c≤k→c≤nP acc l k c
 | [],k,c,_=>by rw [nP];exact bL _
 | y :: r,k,c,h=>by
  rw [nP]
  split
  ·have:=SY acc r (k+1) (k+1) (bL _);omega
  exact SY acc r (k+1) c (by omega)
theorem ZR (acc:Int→Bool):∀ (l:List cO) (k c:Nat),c≤k→∀ y∈l.drop (nP acc l k c - k),acc y.rev=false
 | [],_,_,_,y,h=>by rw [List.drop_nil] at h;cases h
 | x :: r,k,c,hc,y,h=>by
  rw [nP] at h
  have hc2:(if acc x.rev=true then k+1 else c)≤k+1:=by split <;> omega
  have ih:=ZR acc r (k+1) (if acc x.rev=true then k+1 else c) hc2;have hge:=SY acc r (k+1) (if acc x.rev=true then k+1 else c) hc2
  by_cases hk:nP acc r (k+1) (if acc x.rev=true then k+1 else c)≤k
  ·rw [show nP acc r (k+1) (if acc x.rev=true then k+1 else c) - k=0 by omega,tY] at h;rw [show nP acc r (k+1) (if acc x.rev=true then k+1 else c) - (k+1)=0 by omega,tY] at ih
   rcases kL.1 h with rfl|h
   ·cases ha:acc y.rev
    ·rfl
    rw [au ha] at hge hk;omega
   exact ih y h
  rw [show nP acc r (k+1) (if acc x.rev=true then k+1 else c) - k=(nP acc r (k+1) (if acc x.rev=true then k+1 else c) - (k+1))+1 by omega,zq] at h;exact ih y h
theorem akz {C:bP} {e:Int} (acc rej:Int→Bool) {props:List aO} (hp:zl C e props) {k:Int} {l:List cO} (hne:l≠[]) (hl:∀ y∈l,y.key=k∧Iw C e y) :
  (∀ y∈(sF acc rej props k l).1,y.key=k∧Iw C e y∧∃ z∈l,z.rev=y.rev∧rej z.rev=false∧acc z.rev=false)∧Aa C e k (sF acc rej props k l).2:=by
 have hf:wz e k=true:=by
  obtain ⟨y,r,rfl⟩:=List.exists_cons_of_ne_nil hne;obtain ⟨h1,-,h2,-⟩:=hl y gM;rw [← h1];exact h2
 have hst:∀ s∈qO props k l,Aa C e k s:=fun s hs=>by
  unfold qO at hs
  rcases oJ.1 hs with hs|hs
  ·obtain ⟨y,hy,rfl⟩:=List.mem_map.1 hs;obtain ⟨h1,-,h2⟩:=hl y hy;rw [← h1];exact h2
  rw [tV.1 hs];exact akt hp hf
 unfold sF
 have hn:Aa C e k ((qO props k l).getD (nP acc l 0 0) (0,false)):=by
  rw [List.getD_eq_getElem?_getD]
  cases hx:(qO props k l)[nP acc l 0 0]? with
  | none=>exact ady hf
  | some s=>exact hst s (kV hx)
 obtain ⟨a,b⟩:=Vk rej hf hst (l.drop (nP acc l 0 0)) (nP acc l 0 0) _ (fun y hy=>⟨(hl y (List.mem_of_mem_drop hy)).1,(hl y (List.mem_of_mem_drop hy)).2.1⟩) hn;refine ⟨fun y hy=>?_,b⟩;obtain ⟨c1,c2,x,c3,c4⟩:=a y hy;exact ⟨c1,c2,x,List.mem_of_mem_drop c3,c4.1,c4.2,ZR acc l 0 0 (bL _) x (by simpa using c3)⟩
theorem ZX:∀ (f:Nat) (l:List cO),∀ q∈qZ f l,∀ y∈q.2,y.key=q.1
 | 0,_,q,hq=>by cases hq
 | f+1,[],q,hq=>by cases hq
 | f+1,y :: r,q,hq=>by
  rw [qZ] at hq
  rcases kL.1 hq with rfl|hq
  ·intro z hz
   rcases kL.1 hz with rfl|hz
   ·rfl
   have:=List.all_takeWhile (l:=r) (p:=fun z=>decide (z.key=y.key));rw [kM] at this
   simpa using this z hz
  exact ZX f _ q hq
theorem YE {C:bP} {e:Int} (acc rej:Int→Bool) {props:List aO} (hp:zl C e props):∀ (L:List (Int × List cO)) (s:List aO × List cO),zl C e s.1→(∀ q∈L,q.2≠[]∧∀ y∈q.2,y.key=q.1∧Iw C e y) →
  zl C e (xg acc rej props L s).1∧∃ m,(xg acc rej props L s).2=s.2++m∧(m.map cO.key).Sublist ((L.flatMap Prod.snd).map cO.key)∧∀ y∈m,Iw C e y∧∃ z∈L.flatMap Prod.snd,z.rev=y.rev∧rej z.rev=false∧acc z.rev=false
 | [],s,h,_=>by rw [xg];exact ⟨h,[],by simp,fT _,fun y h=>by cases h⟩
 | (k,l) :: r,s,h,hL=>by
  obtain ⟨h1,h2⟩:=hL (k,l) gM;obtain ⟨a,b⟩:=akz acc rej hp h1 h2;have hln:=S9 acc rej props k l;rw [xg];obtain ⟨c,m,d1,d2,d3⟩:=YE acc rej hp r (zT s.1 k (sF acc rej props k l).2,s.2++(sF acc rej props k l).1) (asO h b) fun q hq=>hL q (iO _ hq);refine ⟨c,(sF acc rej props k l).1++m,by rw [d1,iI],?_,fun y hy=>?_⟩
  ·rw [List.flatMap_cons,kY,kY];refine List.Sublist.append ?_ d2;have e1:(sF acc rej props k l).1.map cO.key=List.replicate (sF acc rej props k l).1.length k:=List.eq_replicate_iff.2 ⟨by simp,fun x hx=>by obtain ⟨y,hy,rfl⟩:=List.mem_map.1 hx;exact (a y hy).1⟩;have e2:l.map cO.key=List.replicate l.length k:=List.eq_replicate_iff.2 ⟨by simp,fun x hx=>by obtain ⟨y,hy,rfl⟩:=List.mem_map.1 hx;exact (h2 y hy).1⟩;rw [e1,e2];exact (List.replicate_sublist_replicate k).2 hln
  rw [List.flatMap_cons]
  rcases oJ.1 hy with hy|hy
  ·obtain ⟨-,c2,x,c3,c4⟩:=a y hy;exact ⟨c2,x,oJ.2 (.inl c3),c4⟩
  obtain ⟨c2,x,c3,c4⟩:=d3 y hy;exact ⟨c2,x,oJ.2 (.inr c3),c4⟩
theorem agK {C:bP} {e:Int} (acc rej:Int→Bool) {h:dQ} (hh:QN C e h):QN C e (mQ acc rej h)∧∀ y∈(mQ acc rej h).marks.layers,∃ z∈h.marks.layers,z.rev=y.rev∧rej z.rev=false∧acc z.rev=false:=by
 obtain ⟨hel,hps,⟨m1,m2,m3,m4⟩,⟨d1,d2⟩,hln,⟨l1,l2⟩⟩:=hh;obtain ⟨f1,f2⟩:=Lg h.marks.layers.length h.marks.layers (bL _);obtain ⟨a,m,b1,b2,b3⟩:=YE acc rej hps (qZ h.marks.layers.length h.marks.layers) (h.props,[]) hps fun q hq=>⟨f2 q hq,fun y hy=>⟨ZX _ _ q hq y hy,l1 y (by rw [← f1];exact List.mem_flatMap.2 ⟨q,hq,hy⟩)⟩⟩;rw [f1] at b2 b3;rw [lK] at b1;have hsub:=List.filter_sublist (p:=fun x:gq=>!rej x.rev) (l:=h.marks.bJ);have hlen:=b2.length_le;rw [aZ,aZ] at hlen
 have hmk:(if vH acc h then 0 else h.marks.ins)=0∧(if vH acc h then 0 else h.marks.move)=0∨(if vH acc h then 0 else h.marks.ins)=h.marks.ins∧(if vH acc h then 0 else h.marks.move)=h.marks.move:=by
  by_cases hi:vH acc h
  ·exact .inl ⟨au hi,au hi⟩
  exact .inr ⟨ah hi,ah hi⟩
 refine ⟨⟨hel,a,?_,⟨fun x hx=>d1 x (hsub.subset hx),d2.sublist hsub⟩,?_,⟨fun y hy=>?_,?_⟩⟩,fun y hy=>?_⟩
 ·have hd:=hsub.length_le
  unfold mQ
  dsimp only
  rcases hmk with ⟨e1,e2⟩|⟨e1,e2⟩
  ·rw [e1,e2];exact ⟨fun h=>absurd rfl h,by omega,fun h=>absurd rfl h,by omega⟩
  rw [e1,e2];exact ⟨m1,m2,m3,by omega⟩
 ·unfold mQ;dsimp only;rw [b1];omega
 ·unfold mQ at hy;dsimp only at hy;rw [b1] at hy;exact (b3 y hy).1
 ·unfold mQ;dsimp only;rw [b1]
  exact List.pairwise_map.1 ((List.pairwise_map.2 l2).sublist b2)
 unfold mQ at hy;dsimp only at hy;rw [b1] at hy;exact (b3 y hy).2
theorem NZ {C:bP} {e:Int} (acc rej:Int→Bool) {h:dQ} (hh:iE C e h=0):iE C e (mQ acc rej h)=0:=(aap C e _).2 (agK acc rej ((aap C e h).1 hh)).1
def Q0 (l:List dh):Prop:=l.length≤256∧(∀ x∈l,yg x.author=true∧(0≤x.time∧x.time≤1099511627776)∧1≤x.id∧x.id≤1073741824)∧l.Pairwise fun x y=>x.id < y.id
theorem Q0.sub {l m:List dh} (h:Q0 l) (hs:m.Sublist l):Q0 m:=⟨Nat.le_trans hs.length_le h.1,fun x hx=>h.2.1 x (hs.subset hx),h.2.2.sublist hs⟩
def uF (A:List qC):Int:=(A.map fun f=>ES f.items).sum
theorem WB (a b:List qC):uF (a++b)=uF a+uF b:=by simp [uF]
theorem Qp (x:qC) (b:List qC):uF (x :: b)=ES x.items+uF b:=by simp [uF]
theorem asl (A:List qC):MZ A=uF A:=by
 have key:∀ (A:List qC) (n:Int),A.foldl (fun n f=>n+ES f.items) n=n+uF A:=by
  intro A
  induction A with
  | nil=>intro n;simp [uF]
  | cons x A ih=>intro n;rw [List.foldl_cons,ih,Qp];omega
 rw [MZ,key];omega
theorem Vm {C:bP} {body note:Bool} {t:Int} {l:List ay} (h:jr C body note t l):ES l=H8 l:=by
 unfold ES
 rw [au]
 unfold Oa
 rw [kM];intro x hx;have h1:=(F5 ((PD x).1 (DJ.1 h x hx)).1).1;refine jB ?_
 unfold M0 J2;rw [au h1];split <;> rfl
theorem asi (k c i:Int) (tx:ByteArray) (h:dQ) (f:List ay) (r:List aS):uI (.mk k c i tx h f r)=jy (.mk k c i tx h f r)+(if k=6 then jL f else if k=7 then nY r else 0):=by rw [uI];rfl
mutual
theorem aso (C:bP) (body note:Bool) (t:Int) (n2:Bool) (t2:Int):∀ x:ay,nU C body note t x→(jy x:Nat)+uF (M8 n2 t2 x)=(uI x:Nat)
 | .mk k c i tx h f r,hx=>by
  have hf:=Qq C false true t true t2 f;have hr:=adR C note (t+1) n2 t2 r;rw [nU] at hx;rw [asi,M8]
  by_cases h6:k=6
  ·subst h6;have ho:=hx.2.2.2.1 rfl;have:=hf ho;rw [au rfl,au rfl,Qp];dsimp only;rw [Vm ho];push_cast;omega
  by_cases h7:k=7
  ·subst h7;have:=hr (hx.2.2.2.2 rfl).2;rw [ah h6,ah h6,au rfl,au rfl];push_cast;omega
  rw [ah h6,ah h6,ah h7,ah h7];simp [uF]
theorem asq (C:bP) (note:Bool) (t:Int) (n2:Bool) (t2:Int):∀ x:aS,uH C note t x→uF (M9 n2 t2 x)=(uR x:Nat)
 | .mk h cs,hx=>by
  have hc:=adP C note t n2 t2 cs;rw [uH] at hx;rw [uR,M9];exact hc hx.2
theorem asn (C:bP) (note:Bool) (t:Int) (n2:Bool) (t2:Int):∀ x:aT,uG C note t x→uF (M7 n2 t2 x)=(uC x:Nat)
 | .mk i h f,hx=>by
  have hf:=Qq C false note t n2 (t2+1) f;rw [uG] at hx;have:=hf hx.2;rw [uC,M7,Qp];dsimp only;rw [Vm hx.2];omega
theorem Qq (C:bP) (body note:Bool) (t:Int) (n2:Bool) (t2:Int):∀ l:List ay,jr C body note t l→(H8 l:Nat)+uF (Cz n2 t2 l)=(jL l:Nat)
 | [],_=>by simp [H8,Cz,uF,jL]
 | x :: l,h=>by
  rw [jr] at h;have h1:=aso C body note t n2 t2 x h.1;have h2:=Qq C body note t n2 t2 l h.2;rw [H8,Cz,jL,WB];push_cast;omega
theorem adR (C:bP) (note:Bool) (t:Int) (n2:Bool) (t2:Int):∀ l:List aS,mH C note t l→uF (Fu n2 t2 l)=(nY l:Nat)
 | [],_=>by simp [Fu,uF,nY]
 | x :: l,h=>by
  rw [mH] at h;have h1:=asq C note t n2 t2 x h.1;have h2:=adR C note t n2 t2 l h.2;rw [Fu,nY,WB];push_cast;omega
theorem adP (C:bP) (note:Bool) (t:Int) (n2:Bool) (t2:Int):∀ l:List aT,nG C note t l→uF (Fq n2 t2 l)=(oW l:Nat)
 | [],_=>by simp [Fq,uF,oW]
 | x :: l,h=>by
  rw [nG] at h;have h1:=asn C note t n2 t2 x h.1;have h2:=adP C note t n2 t2 l h.2;rw [Fq,oW,WB];push_cast;omega
end
theorem adQ {C:bP} {body note:Bool} {t:Int} {l:List ay} (h:jr C body note t l):MZ (Jb l)=(jL l:Nat):=by
 have:=Qq C body note t false 0 l h;rw [asl,Jb,Qp];dsimp only;rw [Vm h];exact this
theorem aog {d:jA} (h:jQ d=0):jQ (Cn d)=0∧MZ (Jb (oz d.flow))=MZ (Jb d.flow):=by
 obtain ⟨h1,h2,h3,h4,h5⟩:=(NR d).1 h;obtain ⟨e1,e2⟩:=ank h3;exact ⟨(NR (Cn d)).2 ⟨h1,h2,acg h3,by show kr [] [] (jf (oz d.flow));rw [e1];exact h4,by show jL (oz d.flow)≤_;rw [e2];exact h5⟩,by rw [adQ (acg h3),adQ h3,e2]⟩
mutual
theorem aop (C:bP) (body note:Bool) (t:Int):∀ x:ay,nU C body note t x→JC x
 | .mk k c i tx h f r,hx=>by
  have hf:=Pw C false true t f;have hr:=abX C note (t+1) r;rw [nU] at hx;obtain ⟨-,-,EP,aaq⟩:=F5 hx.1;dsimp only [ay.kind,ay.rows,ay.flow] at EP aaq;rw [JC];refine ⟨?_,?_⟩
  ·by_cases h6:k=6
   ·exact hf (hx.2.2.2.1 h6)
   rw [aaq h6,wM];trivial
  by_cases h7:k=7
  ·exact hr (hx.2.2.2.2 h7).2
  rw [EP h7,DI];trivial
theorem aoq (C:bP) (note:Bool) (t:Int):∀ x:aS,uH C note t x→EY x
 | .mk h cs,hx=>by
  have hc:=abW C note t cs;rw [uH] at hx;rw [EY];refine ⟨fun e=>?_,hc hx.2⟩;have z:=mE hx.1 (dx (decide ((cs.length:Int)=0)) 11) (by simp);rw [za (by decide),e] at z
  simp at z
theorem aoo (C:bP) (note:Bool) (t:Int):∀ x:aT,uG C note t x→EW x
 | .mk i h f,hx=>by
  have hf:=Pw C false note t f;rw [uG] at hx;rw [EW];exact hf hx.2
theorem Pw (C:bP) (body note:Bool) (t:Int):∀ l:List ay,jr C body note t l→wM l
 | [],_=>by rw [wM];trivial
 | x :: l,h=>by
  rw [jr] at h;rw [wM];exact ⟨aop C body note t x h.1,Pw C body note t l h.2⟩
theorem abX (C:bP) (note:Bool) (t:Int):∀ l:List aS,mH C note t l→DI l
 | [],_=>by rw [DI];trivial
 | x :: l,h=>by
  rw [mH] at h;rw [DI];exact ⟨aoq C note t x h.1,abX C note t l h.2⟩
theorem abW (C:bP) (note:Bool) (t:Int):∀ l:List aT,nG C note t l→EX l
 | [],_=>by rw [EX];trivial
 | x :: l,h=>by
  rw [nG] at h;rw [EX];exact ⟨aoo C note t x h.1,abW C note t l h.2⟩
end
theorem aoh {d:jA} (hz:CG d) (h:jQ d=0):wM d.flow∧bV (oz d.flow)≤1073741824∧(∀ k∈vT (Cn d),-9223372036854775808≤k∧k < 9223372036854775808)∧(vT (Cn d)).length≤4294967296:=by
 have h0:=(aog h).1;refine ⟨Pw _ _ _ _ _ ((NR d).1 h).2.2.1,Nat.le_trans (atb _) hz.fl,fun q hq=>by have:=asD h0 hq;omega,?_⟩;exact Nat.le_trans (asC h0) hz.rn
section
theorem SV {k c i:Int} {tx:ByteArray} {h h':dQ} {f f':List ay} {r r':List aS} (hx:kI (.mk k c i tx h f r)=0) (hf:k≠6→f'=f) (hr:k≠7→r'=r):kI (.mk k c i tx h' f' r')=0:=by
 have e:vo (.mk k c i tx h' f' r')=vo (.mk k c i tx h f r):=by
  rw [tq]
  simp only [vo,Bool.or_eq_true,pF,nN]
  have c1:wZ (.mk k c i tx h' f' r')=wZ (.mk k c i tx h f r):=rfl;have c2:xK (.mk k c i tx h' f' r')=xK (.mk k c i tx h f r):=rfl;have c3:zU (.mk k c i tx h' f' r')=zU (.mk k c i tx h f r):=rfl;rw [c1,c2,c3]
  show (((((_∧c≠0)∨(_∧i≠0))∨(_∧(!qX tx)=true))∨(k≠6∧0 < (f'.length:Int)))∨(k≠7∧0 < (r'.length:Int)))↔(((((_∧c≠0)∨(_∧i≠0))∨(_∧(!qX tx)=true))∨(k≠6∧0 < (f.length:Int)))∨(k≠7∧0 < (r.length:Int)))
  by_cases h6:k=6
  ·subst h6;rw [hr (by decide)];simp
  rw [hf h6]
  by_cases h7:k=7
  ·subst h7;simp
  rw [hr h7]
 have e2:codeOk (.mk k c i tx h' f' r')=codeOk (.mk k c i tx h f r):=rfl;have e3:zQ (.mk k c i tx h' f' r')=zQ (.mk k c i tx h f r):=rfl
 unfold kI at hx ⊢
 rw [e,e2,e3];exact hx
theorem Jy (k c i:Int) (tx:ByteArray) (h:dQ) (f:List ay) (r:List aS):qK (.mk k c i tx h f r)=(if k=6∨k=7 then [i] else [])++(if k=6 then jf f else if k=7 then mV r else []):=by
 rw [qK]
 by_cases h6:k=6
 ·rw [au h6,au h6,ah (show ¬ k=7 by omega),jd]
 rw [ah h6,ah h6,lK]
theorem abm:∀ a b:List aS,mV (a++b)=mV a++mV b
 | [],b=>by simp [mV]
 | x :: a,b=>by simp [mV,abm a b]
theorem abl:∀ a b:List aT,nT (a++b)=nT a++nT b
 | [],b=>by simp [nT]
 | x :: a,b=>by simp [nT,abl a b]
theorem adM:∀ a b:List aS,nY (a++b)=nY a+nY b
 | [],b=>by simp [nY]
 | x :: a,b=>by simp [nY,adM a b];omega
theorem adL:∀ a b:List aT,oW (a++b)=oW a+oW b
 | [],b=>by simp [oW]
 | x :: a,b=>by simp [oW,adL a b];omega
theorem acK {C:bP} {h:dQ} {n:Nat}:DL C h n=0↔iE C 9 h=0∧n≠0∧n≤32:=by
 constructor
 ·intro h;have z:=mE h;have z2:=z (dx (decide ((n:Int)=0)) 11) (by simp);have z3:=z (dx (decide (32 < (n:Int))) 9) (by simp);rw [za (by decide),ny] at z2 z3;exact ⟨z _ gM,by omega,by omega⟩
 rintro ⟨h1,h2,h3⟩;refine Ov fun x hx=>?_
 simp only [kL,List.not_mem_nil,or_false] at hx
 rcases hx with rfl|rfl|rfl
 ·exact h1
 ·rw [za (by decide),ny];omega
 rw [za (by decide),ny];omega
variable {acc rej:Int→Bool}
mutual
theorem apU (C:bP) (body note:Bool) (t:Int):∀ x:ay,nU C body note t x→jr C body note t (xM acc rej x)∧(jf (xM acc rej x)).Sublist (qK x)∧jL (xM acc rej x)≤uI x
 | .mk k c i tx h f r,hx=>by
  have hf:=PX C false true t f;have hr:=acJ C note (t+1) r;rw [nU] at hx;obtain ⟨h1,h2,h3,h4,h5⟩:=hx;have hd:=NZ acc rej h3;have nil:jr C body note t []∧(jf []).Sublist (qK (.mk k c i tx h f r))∧jL []≤uI (.mk k c i tx h f r):=⟨by rw [jr];trivial,by rw [jf];exact List.nil_sublist _,by rw [jL];exact gY _⟩;have one:∀ y:ay,nU C body note t y→(qK y).Sublist (qK (.mk k c i tx h f r))→uI y≤uI (.mk k c i tx h f r)→jr C body note t [y]∧(jf [y]).Sublist (qK (.mk k c i tx h f r))∧jL [y]≤uI (.mk k c i tx h f r):=fun y a b c=>⟨by rw [jr,jr];exact ⟨a,aC⟩,by rw [jf,jf,jd];exact b,by rw [jL,jL];exact c⟩;rw [xM]
  split
  ·exact nil
  split
  ·rename_i h6
   obtain ⟨a1,a2,a3⟩:=hf (h4 h6);refine one _ ?_ ?_ ?_
   ·rw [nU];exact ⟨SV h1 (fun h=>absurd h6 h) fun _=>rfl,h2,hd,fun _=>a1,fun h=>absurd h (by omega)⟩
   ·rw [Jy,Jy];rw [au h6,au h6];exact (fT _).append a2
   rw [uI,uI,au h6,au h6];omega
  split
  ·rename_i h6 h7
   split
   ·exact nil
   rename_i hn
   obtain ⟨h5,h8⟩:=h5 h7;obtain ⟨a1,a2,a3⟩:=hr h8;have hl:=VX (acc:=acc) (rej:=rej) r;refine one _ ?_ ?_ ?_
   ·rw [nU];exact ⟨SV h1 (fun _=>rfl) fun h=>absurd h7 h,h2,hd,fun h=>absurd h h6,fun _=>⟨⟨hn,by omega⟩,a1⟩⟩
   ·rw [Jy,Jy];rw [ah h6,ah h6,au h7,au h7];exact (fT _).append a2
   rw [uI,uI,ah h6,ah h6,au h7,au h7];omega
  rename_i h6 h7
  refine one _ ?_ ?_ ?_
  ·rw [nU];exact ⟨SV h1 (fun _=>rfl) fun _=>rfl,h2,hd,fun h=>absurd h h6,fun h=>absurd h h7⟩
  ·rw [Jy,Jy];exact fT _
  rw [uI,uI];exact bL _
theorem apV (C:bP) (note:Bool) (t:Int):∀ x:aS,uH C note t x→mH C note t (xO acc rej x)∧(mV (xO acc rej x)).Sublist (vG x)∧nY (xO acc rej x)≤uR x
 | .mk h cs,hx=>by
  have hc:=acI C note t cs;rw [uH] at hx;obtain ⟨h1,h2⟩:=hx;obtain ⟨a1,a2,a3⟩:=hc h2;have hl:=VW (acc:=acc) (rej:=rej) cs;have nil:mH C note t []∧(mV []).Sublist (vG (.mk h cs))∧nY []≤uR (.mk h cs):=⟨by rw [mH];trivial,by rw [mV];exact List.nil_sublist _,by rw [nY];exact gY _⟩;rw [xO]
  split
  ·exact nil
  split
  ·exact nil
  rename_i hn
  rw [mH,mH,mV,mV,nY,nY,uH,vG,vG,uR,uR,jd];refine ⟨⟨⟨?_,a1⟩,aC⟩,a2,a3⟩;obtain ⟨z1,z2,z3⟩:=acK.1 h1;exact acK.2 ⟨NZ acc rej z1,hn,by omega⟩
theorem apT (C:bP) (note:Bool) (t:Int):∀ x:aT,uG C note t x→nG C note t (yU acc rej x)∧(nT (yU acc rej x)).Sublist (wG x)∧oW (yU acc rej x)≤uC x
 | .mk i h f,hx=>by
  have hf:=PX C false note t f;rw [uG] at hx;obtain ⟨h1,h2⟩:=hx;obtain ⟨a1,a2,a3⟩:=hf h2;rw [yU]
  split
  ·exact ⟨by rw [nG];trivial,by rw [nT];exact List.nil_sublist _,by rw [oW];exact gY _⟩
  rw [nG,nG,nT,nT,oW,oW,uG,wG,wG,uC,uC,jd];exact ⟨⟨⟨NZ acc rej h1,a1⟩,aC⟩,(fT [i]).append a2,a3⟩
theorem PX (C:bP) (body note:Bool) (t:Int):∀ l:List ay,jr C body note t l→jr C body note t (jg acc rej l)∧(jf (jg acc rej l)).Sublist (jf l)∧jL (jg acc rej l)≤jL l
 | [],_=>by rw [jg];exact ⟨by rw [jr];trivial,fT _,bL _⟩
 | x :: l,h=>by
  rw [jr] at h;obtain ⟨a1,a2,a3⟩:=apU C body note t x h.1;obtain ⟨b1,b2,b3⟩:=PX C body note t l h.2;rw [jg,Mt,MU,jf,jL];exact ⟨DJ.2 fun y hy=>(oJ.1 hy).elim (DJ.1 a1 y) (DJ.1 b1 y),a2.append b2,by omega⟩
theorem acJ (C:bP) (note:Bool) (t:Int):∀ l:List aS,mH C note t l→mH C note t (lQ acc rej l)∧(mV (lQ acc rej l)).Sublist (mV l)∧nY (lQ acc rej l)≤nY l
 | [],_=>by rw [lQ];exact ⟨by rw [mH];trivial,fT _,bL _⟩
 | x :: l,h=>by
  rw [mH] at h;obtain ⟨a1,a2,a3⟩:=apV C note t x h.1;obtain ⟨b1,b2,b3⟩:=acJ C note t l h.2;rw [lQ,abm,adM,mV,nY];exact ⟨PE.2 fun y hy=>(oJ.1 hy).elim (PE.1 a1 y) (PE.1 b1 y),a2.append b2,by omega⟩
theorem acI (C:bP) (note:Bool) (t:Int):∀ l:List aT,nG C note t l→nG C note t (kK acc rej l)∧(nT (kK acc rej l)).Sublist (nT l)∧oW (kK acc rej l)≤oW l
 | [],_=>by rw [kK];exact ⟨by rw [nG];trivial,fT _,bL _⟩
 | x :: l,h=>by
  rw [nG] at h;obtain ⟨a1,a2,a3⟩:=apT C note t x h.1;obtain ⟨b1,b2,b3⟩:=acI C note t l h.2;rw [kK,abl,adL,nT,oW];exact ⟨Pz.2 fun y hy=>(oJ.1 hy).elim (Pz.1 a1 y) (Pz.1 b1 y),a2.append b2,by omega⟩
end
def yV (acc rej:Int→Bool) (d:jA):jA:=⟨jg acc rej d.flow,fu acc rej d.fin,d.revs,d.lT⟩
theorem aqa {d:jA} (h:jQ d=0):jQ (yV acc rej d)=0:=by
 rw [NR] at h ⊢;obtain ⟨h1,⟨h2,h3⟩,h4,h5,h6⟩:=h;obtain ⟨a1,a2,a3⟩:=PX (acc:=acc) (rej:=rej) _ true false 0 d.flow h4
 unfold tK at h3
 rw [ny] at h3;have hd:d.fin.marks.bJ=[]:=List.eq_nil_of_length_eq_zero (by omega)
 have hg:¬ tC acc rej d.fin:=fun h=>h.elim (fun h=>h3 (.inl (.inl h.1))) fun ⟨x,hx,_⟩=>by rw [hd] at hx;cases hx
 have ha:fu acc rej d.fin=mQ acc rej d.fin:=ah hg;refine ⟨h1,⟨?_,?_⟩,a1,h5.sub a2,by show jL (jg acc rej d.flow)≤_;omega⟩
 ·show iE d.pG 3 (fu acc rej d.fin)=0
  rw [ha];exact NZ acc rej h2
 show tK (fu acc rej d.fin).marks=false
 rw [ha]
 unfold tK mQ
 rw [ny];dsimp only;rw [hd];rintro ((h|h)|h)
 ·split at h
  ·exact h rfl
  exact h3 (.inl (.inl h))
 ·split at h
  ·exact h rfl
  exact h3 (.inl (.inr h))
 simp at h
structure Fy (n:Nat) (d:jA):Prop where
 z:CG d
 fl:bV d.flow≤n
 hd:mh d.fin≤n
theorem aqb {n:Nat} {d:jA} (h:Fy n d) (hn:2*n≤1073741824) (hn0:16≤n):Fy (2*n) (yV acc rej d):=by
 have h1:=P5 (acc:=acc) (rej:=rej) d.flow
 have h2:mh (fu acc rej d.fin)≤2*n:=by
  unfold fu
  split
  ·show mh CB≤_
   simp [Fw,CB,dV];try omega
  have:=N7 (acc:=acc) (rej:=rej) d.fin;have:=h.hd;omega
 have h3:=h.fl;refine ⟨⟨by show bV (jg acc rej d.flow)≤_;omega,Nat.le_trans h2 (by omega),h.z.rn,h.z.rt,h.z.sn,h.z.st⟩,by show bV (jg acc rej d.flow)≤_;omega,h2⟩
end
theorem Zo:∀ args w,(callFunc 96 args).run prog w=.ok (.enter 96 args) w:=enters func96 rfl (by kernel_rfl)
theorem ajW:dN prog 43 0 0:=⟨by kernel_rfl⟩
theorem ajX:dN prog 43 1 1:=⟨by kernel_rfl⟩
theorem aju:∀ args w,(callFunc 97 args).run prog w=.ok (.enter 97 args) w:=enters func97 rfl (by kernel_rfl)
theorem ajg:∀ args w,(callFunc 46 args).run prog w=.ok (.enter 46 args) w:=enters func46 rfl (by kernel_rfl)
theorem ajv:∀ args w,(callFunc 99 args).run prog w=.ok (.enter 99 args) w:=enters func99 rfl (by kernel_rfl)
theorem ajh:∀ args w,(callFunc 48 args).run prog w=.ok (.enter 48 args) w:=enters func48 rfl (by kernel_rfl)
theorem pX.mk_ {acc rej:Int→Bool} {h:dQ} {G:GH} {p d l:aj} (hh:jc G (fu acc rej h) p d l):pX acc rej h (.tuple #[.agg #[p,vi (fu acc rej h).marks.ins,vi (fu acc rej h).marks.move,d,l],.bool (!decide (tC acc rej h))]) G:=by
 unfold pX
 by_cases hg:tC acc rej h
 ·have e:fu acc rej h=CB:=au hg;rw [au hg,jB hg];rw [e] at hh ⊢;exact ⟨p,d,l,rfl,hh⟩
 have e:fu acc rej h=mQ acc rej h:=ah hg;rw [ah hg,kX hg];rw [e] at hh ⊢;exact ⟨p,d,l,rfl,hh⟩
theorem asK (G:GH):Ej (.func (.func 97) #[] #[]) G (fun _=>false) fun _=>true:=by
 intro G1 w0 hm hG r;refine jI (caps:=[]) aju ?_;refine eN [(0,_)] func97 rfl ntmps97 rfl rfl hG ?_;intro a H;refine kP H (SR fun _ K1=>Ra rfl (ak K1 rfl (SR fun _ K2=>Ra rfl (ak K2 rfl ?_))));clear H K1 K2;intro a H;refine bS ?_;refine (eZ H results97 (.cons (aV H rfl) (.cons (aV H rfl) .nil)) ?_).1;exact H.rt rfl
theorem aqk (G:GH):Eh (.func (.func 46) #[] #[]) G (fun _=>false) fun _=>true:=by
 intro G1 w0 hm hG h p d l hh hz;refine jI (caps:=[]) ajg ?_;obtain ⟨pA,pn,pc,rfl⟩:=hh.props.form;obtain ⟨dA,dn,dc,rfl⟩:=hh.bJ.form;obtain ⟨lA,ln,lc,rfl⟩:=hh.layers.form;refine eN [(0,_)] func46 rfl ntmps46 rfl rfl hG ?_;intro a H;refine bZ (fun _ K1=>?_);refine dZ (cs:=[_,_,_,_,_]) H wn rfl rfl rfl ?_;clear H;intro b1 a w hb1 H;refine dB eO H wn rfl ?_;clear H;intro b2 a w hb2 H;refine kH H (ak K1 rfl (SR fun _ K2=>?_));clear H K1;intro a H;refine bB eO (cs:=[_,_,_,_,_]) H wn rfl rfl (H.hp.bU 1 rfl rfl) rfl ?_;clear H;intro a H;refine s_call Zo H wn rfl (abN _ _ H.ro _ _ _ (asK _) rfl h _ _ _ hh hz) rfl ?_;clear H;rintro v5 G5 a w hd5 AA H;obtain ⟨q1,q2,q3,q4,q5,q6,q7,q8,q9,rfl,tJ⟩:=hd5.ans;(iterate 2 refine lS H wn rfl rfl rfl ?_;clear H;intro a H);refine aY eO 0 (vs:=[_,_,_,_,_]) _ H wn rfl rfl rfl rfl rfl rfl rfl rfl ?_;clear H;intro w H;dsimp only [List.set,setRow] at H;refine kH H (ak K2 rfl ?_);clear H K2;intro a H;refine bS ?_;refine (eZ H results46 (.cons (ng eO (cs:=[_,_,_,_,_]) H rfl rfl (H.hp.bU 0 rfl rfl)) (.cons (aV H rfl) .nil)) ?_).1;exact H.rt (pX.mk_ tJ)
theorem asJ (G:GH):Ej (.func (.func 99) #[] #[]) G (fun _=>true) fun _=>false:=by
 intro G1 w0 hm hG r;refine jI (caps:=[]) ajv ?_;refine eN [(0,_)] func99 rfl ntmps99 rfl rfl hG ?_;intro a H;refine kP H (SR fun _ K1=>Ra rfl (ak K1 rfl (SR fun _ K2=>Ra rfl (ak K2 rfl ?_))));clear H K1 K2;intro a H;refine bS ?_;refine (eZ H results99 (.cons (aV H rfl) (.cons (aV H rfl) .nil)) ?_).1;exact H.rt rfl
theorem aqj (G:GH):Eh (.func (.func 48) #[] #[]) G (fun _=>true) fun _=>false:=by
 intro G1 w0 hm hG h p d l hh hz;refine jI (caps:=[]) ajh ?_;obtain ⟨pA,pn,pc,rfl⟩:=hh.props.form;obtain ⟨dA,dn,dc,rfl⟩:=hh.bJ.form;obtain ⟨lA,ln,lc,rfl⟩:=hh.layers.form;refine eN [(0,_)] func48 rfl ntmps48 rfl rfl hG ?_;intro a H;refine bZ (fun _ K1=>?_);refine dZ (cs:=[_,_,_,_,_]) H wn rfl rfl rfl ?_;clear H;intro b1 a w hb1 H;refine dB eO H wn rfl ?_;clear H;intro b2 a w hb2 H;refine kH H (ak K1 rfl (SR fun _ K2=>?_));clear H K1;intro a H;refine bB eO (cs:=[_,_,_,_,_]) H wn rfl rfl (H.hp.bU 1 rfl rfl) rfl ?_;clear H;intro a H;refine s_call Zo H wn rfl (abN _ _ H.ro _ _ _ (asJ _) rfl h _ _ _ hh hz) rfl ?_;clear H;rintro v5 G5 a w hd5 AA H;obtain ⟨q1,q2,q3,q4,q5,q6,q7,q8,q9,rfl,tJ⟩:=hd5.ans;(iterate 2 refine lS H wn rfl rfl rfl ?_;clear H;intro a H);refine aY eO 0 (vs:=[_,_,_,_,_]) _ H wn rfl rfl rfl rfl rfl rfl rfl rfl ?_;clear H;intro w H;dsimp only [List.set,setRow] at H;refine kH H (ak K2 rfl ?_);clear H K2;intro a H;refine bS ?_;refine (eZ H results48 (.cons (ng eO (cs:=[_,_,_,_,_]) H rfl rfl (H.hp.bU 0 rfl rfl)) (.cons (aV H rfl) .nil)) ?_).1;exact H.rt (pX.mk_ tJ)

theorem ahX:∀ args w,(callFunc 17 args).run prog w=.ok (.enter 17 args) w:=enters func17 rfl (by kernel_rfl)
theorem Zk:∀ args w,(callFunc 47 args).run prog w=.ok (.enter 47 args) w:=enters func47 rfl (by kernel_rfl)
theorem arT:qd prog 43 [(0,1),(1,1)] [.slice none 0 0,.slice none 0 0]:=⟨by kernel_rfl,by kernel_rfl⟩
set_option maxHeartbeats 2000000 in
theorem aee {acc rej:Int→Bool} (G:GH) (w0:World) (hG:Hold G w0) (fv:aj) (hf:Eh fv G acc rej) (D:jM) (d:jA) (hR:oD G D d) (hs:Fy 536870912 d) (hc:jQ d=0) :
  Calls prog 47 #[fv,D.val] w0 (bH w0 G fun u G'=>∃ D':jM,u=D'.val∧oD G' D' (nD (yV acc rej d))):=by
 obtain ⟨df,dp,dd,dy,dr,d1,d2,d3,d4,ins,mv⟩:=D;have hok:=aqa (acc:=acc) (rej:=rej) hc;have hfl:=hs.fl;have hhd:=hs.hd;have hz2:CG (yV acc rej d):=(aqb hs (by decide) (by decide)).z;obtain ⟨p1,p2,p3,p4⟩:=aoh hz2 hok;obtain ⟨hRf,hRh,hRi,hRm,hRr,hRs⟩:=hR;dsimp only at hRi hRm;subst hRi hRm;refine eN [(0,_),(1,_)] func47 rfl ntmps47 rfl rfl hG ?_;intro a H;refine bZ (fun _ K1=>?_);refine dZ (cs:=[_,_,_,_,_,_,_,_,_,_,_]) H wn rfl rfl rfl ?_;clear H;intro b3 a w hb3 H;refine dB ko H wn rfl ?_;clear H;intro b4 a w hb4 H;refine K1 _ _ ?_;clear K1;refine kP H (SR fun _ K2=>Rm rfl (bG wo kg 1 rfl rfl ?_));clear H;intro a H;refine s_call Sq H wn rfl (acO 536870913 (bL _) _ _ H.ro hf d.flow _ hRf (by omega)) rfl ?_;clear H;rintro v8 G8 a w hv8 wF H;obtain ⟨fA,fn,fc,rfl⟩:=hv8.form;refine kH H (Rf wo rfl ?_);clear H;intro a H;refine aY kg 1 (vs:=[_]) _ H wn rfl rfl rfl rfl rfl rfl rfl rfl ?_;clear H;intro w H;dsimp only [List.set,setRow] at H;refine K2 _ _ ?_;clear K2;refine kP H (SR fun _ K3=>Rm rfl (Rf Eu rfl ?_));clear H;intro a H;refine bB eO (cs:=[_,_,_,_,_]) H wn rfl rfl (H.hp.bU 1 rfl rfl) rfl ?_;clear H;intro a H;refine kD H wn rfl rfl (hf _ _ wF H.ro d.fin _ _ _ (hRh.mono wF) (by omega)) rfl ?_;clear H;rintro v14 ze a w alF Cb H;obtain ⟨q1,q2,q3,q4,q5,q6,q7,q8,q9,rfl,alV⟩:=alF.ans;refine kH H (Rm rfl ?_);clear H;intro a H;(iterate 2 refine lS H wn rfl rfl rfl ?_;clear H;intro a H);refine kH H (Rf Eu rfl ?_);clear H;intro a H;refine aY eO 1 (vs:=[_,_,_,_,_]) _ H wn rfl rfl rfl rfl rfl rfl rfl rfl ?_;clear H;intro w H;dsimp only [List.set,setRow] at H;refine K3 _ _ ?_;clear K3;refine bZ (fun _ K4=>?_);refine bB ko (cs:=(⟨(fA,fn,fc),(q1,q2,q3),(q4,q5,q6),(q7,q8,q9),dr,d1,d2,d3,d4,(fu acc rej d.fin).marks.ins,(fu acc rej d.fin).marks.move⟩:jM).cells) H wn rfl rfl (H.hp.bU 1 rfl rfl) rfl ?_;clear H;intro a H;refine s_call ahX H wn rfl (agQ _ _ H.ro ⟨(fA,fn,fc),(q1,q2,q3),(q4,q5,q6),(q7,q8,q9),dr,d1,d2,d3,d4,(fu acc rej d.fin).marks.ins,(fu acc rej d.fin).marks.move⟩ (yV acc rej d) ⟨hv8.mono Cb,alV,rfl,rfl,hRr.mono (fun b o h=>Cb b o (wF b o h)),hRs.mono fun b o h=>Cb b o (wF b o h)⟩ hz2 p1 p2 p3 p4) rfl ?_;clear H;rintro v19 Im a w ⟨E,rfl,hE⟩ sJ H;refine aY ko 0 (vs:=[_,_,_,_,_,_,_,_,_,_,_]) _ H wn rfl rfl rfl rfl rfl rfl rfl rfl ?_;clear H;intro w H;dsimp only [List.set,setRow] at H;refine K4 _ _ ?_;clear K4;refine bS ?_;refine (leave1 H results47 (.cons (ng ko (cs:=[_,_,_,_,_,_,_,_,_,_,_]) H rfl rfl (H.hp.bU 0 rfl rfl)) .nil) ?_).1;exact H.rt ⟨E,rfl,hE⟩
theorem apN (G:GH) (w0:World) (hG:Hold G w0) (D:jM) (d:jA) (hR:oD G D d) (hs:Fy 536870912 d) (hc:jQ d=0) :
  Calls prog 14 #[D.val] w0 (bH w0 G fun u G'=>∃ D':jM,u=D'.val∧oD G' D' (nD (yV (fun _=>false) (fun _=>true) d))):=by
 refine eN [(0,_)] func14 rfl ntmps14 rfl rfl hG ?_;intro a H;refine bZ (fun _ K1=>?_);refine dZ (cs:=[_,_,_,_,_,_,_,_,_,_,_]) H wn rfl rfl rfl ?_;clear H;intro b1 a w hb1 H;refine dB ko H wn rfl ?_;clear H;intro b2 a w hb2 H;refine K1 _ _ ?_;clear K1;refine bZ (fun _ K2=>?_);refine bB ko (cs:=[_,_,_,_,_,_,_,_,_,_,_]) H wn rfl rfl (H.hp.bU 1 rfl rfl) rfl ?_;clear H;intro a H;refine s_call Zk H wn rfl (aee _ _ H.ro _ (aqk _) D d hR hs hc) rfl ?_;clear H;rintro v4 G4 a w ⟨E,rfl,hE⟩ LV H;refine aY ko 0 (vs:=[_,_,_,_,_,_,_,_,_,_,_]) _ H wn rfl rfl rfl rfl rfl rfl rfl rfl ?_;clear H;intro w H;dsimp only [List.set,setRow] at H;refine K2 _ _ ?_;clear K2;refine bS ?_;refine (leave1 H results14 (.cons (ng ko (cs:=[_,_,_,_,_,_,_,_,_,_,_]) H rfl rfl (H.hp.bU 0 rfl rfl)) .nil) ?_).1;exact H.rt ⟨E,rfl,hE⟩
theorem apM (G:GH) (w0:World) (hG:Hold G w0) (D:jM) (d:jA) (hR:oD G D d) (hs:Fy 536870912 d) (hc:jQ d=0) :
  Calls prog 15 #[D.val] w0 (bH w0 G fun u G'=>∃ D':jM,u=D'.val∧oD G' D' (nD (yV (fun _=>true) (fun _=>false) d))):=by
 refine eN [(0,_)] func15 rfl ntmps15 rfl rfl hG ?_;intro a H;refine bZ (fun _ K1=>?_);refine dZ (cs:=[_,_,_,_,_,_,_,_,_,_,_]) H wn rfl rfl rfl ?_;clear H;intro b1 a w hb1 H;refine dB ko H wn rfl ?_;clear H;intro b2 a w hb2 H;refine K1 _ _ ?_;clear K1;refine bZ (fun _ K2=>?_);refine bB ko (cs:=[_,_,_,_,_,_,_,_,_,_,_]) H wn rfl rfl (H.hp.bU 1 rfl rfl) rfl ?_;clear H;intro a H;refine s_call Zk H wn rfl (aee _ _ H.ro _ (aqj _) D d hR hs hc) rfl ?_;clear H;rintro v4 G4 a w ⟨E,rfl,hE⟩ LV H;refine aY ko 0 (vs:=[_,_,_,_,_,_,_,_,_,_,_]) _ H wn rfl rfl rfl rfl rfl rfl rfl rfl ?_;clear H;intro w H;dsimp only [List.set,setRow] at H;refine K2 _ _ ?_;clear K2;refine bS ?_;refine (leave1 H results15 (.cons (ng ko (cs:=[_,_,_,_,_,_,_,_,_,_,_]) H rfl rfl (H.hp.bU 0 rfl rfl)) .nil) ?_).1;exact H.rt ⟨E,rfl,hE⟩
section
section
variable {N:Nat} {D:List Deferred} {w0:World} {F:Nat→Prop} {G0 G G1 G2:GH} {L L1 L2:OL} {T Xs:List (Nat × aj)}
variable {r:Option Nat} {P:Program} {Q:Exit→Act→World→Prop} {l:List Oper} {a a':Act} {w w':World}
end
end
section
theorem pX.mono {acc rej:Int→Bool} {h:dQ} {u:aj} {G G':GH} (hm:∀ b o,G b=some o→G' b=some o) (hd:pX acc rej h u G):pX acc rej h u G':=by
 unfold pX at hd ⊢
 split
 ·rename_i hg
  rw [au hg] at hd;obtain ⟨p,d,l,e,hh⟩:=hd;exact ⟨p,d,l,e,hh.mono hm⟩
 rename_i hg
 rw [ah hg] at hd;obtain ⟨p,d,l,e,hh⟩:=hd;exact ⟨p,d,l,e,hh.mono hm⟩
structure Nh (G:GH) (A R:List Int) (va vr:aj):Prop where
 ha:av G (.sl 1 (A.map fun k=>[li k])) va
 hr:av G (.sl 1 (R.map fun k=>[li k])) vr
 la:A.length≤4294967296
 lr:R.length≤4294967296
theorem Nh.mono {G G':GH} {A R:List Int} {va vr:aj} (hm:∀ b o,G b=some o→G' b=some o) (h:Nh G A R va vr):Nh G' A R va vr:=⟨h.ha.mono hm,h.hr.mono hm,h.la,h.lr⟩
variable {A R:List Int} {aA rA:Option Addr} {an ac rn rc:Nat}
end





theorem asT (l m:List ay):bV (l++m)=bV l+bV m:=by simp [bV,H9]

def akm (t:Int) (a:Nat × ay):Bool:=decide ((a.1:Int)+jy a.2≤t)
def lA (t:Int) (A:List (Nat × ay)):List ay:=(A.filter (akm t)).map (·.2)
def XL (l:List ay):Prop:=∀ (k:Nat) (h:k+1 < l.length),¬ (l[k].kind=1∧l[k+1].kind=1∧l[k].head=l[k+1].head)
theorem XL.one {l:List ay} (h:l.length≤1):XL l:=fun k hk=>by omega


theorem WT:∀ {m l:List ay},m.Sublist l→bV m≤bV l
 | _,_,.slnil=>bL _
 | _,_,.cons a h=>by have:=WT h;simp only [bV,fO,dV] at *;omega
 | _,_,.cons_cons a h=>by have:=WT h;simp only [bV,fO,dV] at *;omega
theorem Sn:∀ args w,(callFunc 95 args).run prog w=.ok (.enter 95 args) w:=enters func95 rfl (by kernel_rfl)
theorem aiv:∀ args w,(callFunc 21 args).run prog w=.ok (.enter 21 args) w:=enters func21 rfl (by kernel_rfl)
abbrev CW (b:Nat) (n:Int):Nat × Obj:=(b,.cells #[vi n] 3 (0,0))
def SmQ (bl:Nat) (left:Int) (z:Nat) (u:aj) (_:GH) (L':OL):Prop:=∃ b lf,u=.bool b∧L'=[CW bl lf]∧left - (z:Int)≤lf∧lf≤left
def Q5 (n:Nat):Prop:=∀ (G:GH) (w0:World) (l:List ay) (v:aj) (JA left:Int) (bl:Nat),gL G [CW bl left] w0→av G (.sl 11 (l.map ay.dat)) v→bV l < n→0≤JA→JA≤1000→left≤1000→-1000000000000≤left - (bV l:Int) →
 Calls prog 95 #[v,vi JA,(aK bl 0)] w0 (gy w0 G [CW bl left] (SmQ bl left (bV l)))
theorem aep (l m:List aS):gD (l++m)=gD l+gD m:=by simp [gD,H9]
theorem aem (l m:List aT):iR (l++m)=iR l+iR m:=by simp [iR,H9]
theorem asU {l:List ay} {k:Nat} (h:k < l.length):bV (l.take (k+1))=bV (l.take k)+(1+bT l[k].dat):=by rw [iH h,asT];simp [bV,dV]
theorem asV {l:List aS} {k:Nat} (h:k < l.length):gD (l.take (k+1))=gD (l.take k)+(1+bT l[k].dat):=by rw [iH h,aep];simp [gD,dV]
theorem asS {l:List aT} {k:Nat} (h:k < l.length):iR (l.take (k+1))=iR (l.take k)+(1+bT l[k].dat):=by rw [iH h,aem];simp [iR,dV]
theorem aeo (l:List ay) (k:Nat):bV (l.take k)≤bV l:=WT (List.take_sublist k l)
theorem aer (l:List aS) (k:Nat):gD (l.take k)≤gD l:=by
 have:=aep (l.take k) (l.drop k);rw [List.take_append_drop] at this;omega
theorem aen (l:List aT) (k:Nat):iR (l.take k)≤iR l:=by
 have:=aem (l.take k) (l.drop k);rw [List.take_append_drop] at this;omega
set_option maxHeartbeats 4000000 in
theorem arG {n:Nat} (ih:Q5 n) (hn:n≤4294967296):Q5 (n+1):=by
 intro G w0 l v JA left bl hO hv hz hl0 hl1 hf1 hf0;obtain ⟨A,c,rfl,hc1,hc2,hg⟩:=hv.slice;rw [aZ] at *;have hll:=Ih l;refine iY (N:=133) (T:=[(0,_),(1,_),(2,_)]) func95 rfl ntmps95 rfl rfl hO ?_;intro a H;refine kP H (SR fun _ K1=>ak K1 rfl (SQ fun _ K2=>SR fun _ K3=>ak K3 rfl (SB ?_)));clear H K1 K3;intro a H;skip;refine fH (ι:=Nat × Int × GH) (Tc:=[(0,_),(1,_),(2,_)]) (Lc:=[]) (fun gh=>[(7,vi gh.1)]) (fun gh=>[CW bl gh.2.1]) (fun gh=>gh.2.2) (fun gh=>gh.1≤l.length∧left - (bV (l.take gh.1):Int)≤gh.2.1∧gh.2.1≤left∧(∀ b o,G b=some o→gh.2.2 b=some o)) (fun gh=>l.length - gh.1) ((0,left,G)) (by exact (H).sub ⟨rfl,rfl,rfl,rfl,aC⟩) ?_ ?_
 ·exact ⟨by omega,by show left - ((0:Nat):Int)≤left;omega,Int.le_refl _,fun _ _ h=>h⟩
 clear H;rintro ⟨k,lf,g⟩ a w hI H;dsimp only at hI H;obtain ⟨hk,hlo,hhi,hgm⟩:=hI;have hzk:=aeo l k;dsimp only [lca,bq] at H;refine kP H (SQ fun _ K4=>SR fun _ K5=>Rm rfl (Rm rfl (Rl jk rfl (Rc rfl (Kz K5 (Cd rfl ?_ ?_)))))) <;> clear H K5
 ·intro fD a H
  try have qp:=dT fD
  have hk2:k < l.length:=by omega
  obtain ⟨b,o,pA,pn,pc,dA,dn,dc,yA,yn,yc,fA,fn,fc,rA,rn,rc,rfl,hrow,hhd,hfl,hrw⟩:=F4 hk2 hg;have hrn:=hrw.len;rw [aZ] at hrn;subst hrn;have r3:aI g b (o+k*11+3)=some (.string l[k].text):=aJ hgm (hrow 3 _ rfl);have r4:aI g b (o+k*11+4+0)=some (.slice pA pn pc):=aJ hgm (hrow 4 _ rfl);have r9:aI g b (o+k*11+9)=some (.slice fA fn fc):=aJ hgm (hrow 9 _ rfl);have VQ:aI g b (o+k*11+10)=some (.slice rA l[k].rows.length rc):=aJ hgm (hrow 10 _ rfl);have hzi:=tN l[k];have hzs:=asU hk2;have hzt:=aeo l (k+1);refine kP H (Kc K4 (SQ fun _ K6=>SB (SR fun _ K7=>Rm rfl (Rk rfl (Ro aH 0 rfl (Rs rfl (Rk rfl ?_)))))));clear H K4;intro a H;refine aY aH 0 (vs:=[_]) _ H wn rfl rfl rfl rfl rfl rfl rfl rfl ?_;clear H;intro w H;dsimp only [List.set,setRow] at H;refine K7 _ _ ?_;clear K7;refine kP H (SQ fun _ K8=>SR fun _ K9=>Rm rfl (Rk rfl (Ro aH 0 rfl (Rc rfl (Rm rfl (Sp 25 rfl ?_ ?_)))))) <;> clear H
  ·intro gX a H
   try have p25:=dT gX
   refine kH H (aP gX rfl (Pt gX rfl (Rm rfl (bD rfl rfl (aP rfl rfl (aP rfl rfl (Pt rfl rfl (Rm rfl (bD rfl rfl (bD rfl rfl (aP rfl rfl (Pt rfl rfl (Rm rfl (bD rfl rfl (aP rfl rfl (aP rfl rfl (Pt rfl rfl (Rm rfl (bD rfl rfl (bD rfl rfl (aP rfl rfl (aP rfl rfl ?_))))))))))))))))))))));clear H;intro a H;exact kH H (Pt rfl rfl (Kz K9 (Ct rfl rfl (SR fun _ aW=>ak aW rfl (LR results95 rfl fun H=>H.hp.dJ ⟨_,_,rfl,rfl,by omega,by omega⟩)))))
  intro gX a H
  try have p25:=dF gX
  refine kH H (YM gX rfl (YC gX rfl (Pf gX rfl (Rm rfl (Sp 29 rfl ?_ ?_))))) <;> clear H
  ·intro gU a H
   try have p29:=dT gU
   refine kH H (bD gU rfl (aP gU rfl (aP gU rfl (Pt gU rfl (Rm rfl (bD rfl rfl (bD rfl rfl (aP rfl rfl (Pt rfl rfl (Rm rfl (bD rfl rfl (aP rfl rfl (aP rfl rfl (Pt rfl rfl (Rm rfl (bD rfl rfl (bD rfl rfl (aP rfl rfl (aP rfl rfl (Pt rfl rfl (Kz K9 ?_)))))))))))))))))))));clear H K9;intro a H;refine BN H rfl rfl ?_;exact kP H (SR fun _ bO=>ak bO rfl (LR results95 rfl fun H=>H.hp.dJ ⟨_,_,rfl,rfl,by omega,by omega⟩))
  intro gU a H
  try have p29:=dF gU
  refine kH H (YM gU rfl (YM gU rfl (YI jk dL gU rfl rfl (YF wu gU rfl (YR iM gU rfl (by assumption) ?_)))));clear H;intro a H;refine Fa iB H (wg H rfl rfl gU) rfl rfl ?_;clear H;intro a H;refine kH H (YC gU rfl (Pf gU rfl (Rm rfl (Sp 38 rfl ?_ ?_)))) <;> clear H
  ·intro mG a H
   try have p38:=dT mG
   exact kH H (bD mG rfl (bD mG rfl (aP mG rfl (Pt mG rfl (Rm rfl (bD rfl rfl (aP rfl rfl (aP rfl rfl (Pt rfl rfl (Rm rfl (bD rfl rfl (bD rfl rfl (aP rfl rfl (aP rfl rfl (Pt rfl rfl (Kz K9 (Ct rfl rfl (SR fun _ bW=>ak bW rfl (LR results95 rfl fun H=>H.hp.dJ ⟨_,_,rfl,rfl,by omega,by omega⟩)))))))))))))))))))
  intro mG a H
  try have p38:=dF mG
  refine kH H (YM mG rfl (YM mG rfl (YI jk dL mG rfl rfl (YF yE mG rfl (YF yC mG rfl (YR uO mG rfl (by assumption) ?_))))));clear H;intro a H;refine kH H (YL gG mG rfl (YC mG rfl (Pf mG rfl (Rm rfl (Sp 48 rfl ?_ ?_))))) <;> clear H
  ·intro h48 a H
   try have p48:=dT h48
   exact kH H (bD h48 rfl (aP h48 rfl (aP h48 rfl (Pt h48 rfl (Rm rfl (bD rfl rfl (bD rfl rfl (aP rfl rfl (aP rfl rfl (Pt rfl rfl (Kz K9 (Ct rfl rfl (SR fun _ cB=>ak cB rfl (LR results95 rfl fun H=>H.hp.dJ ⟨_,_,rfl,rfl,by omega,by omega⟩))))))))))))))
  intro h48 a H
  try have p48:=dF h48
  refine kH H (YM h48 rfl (YM h48 rfl (YI jk dL h48 rfl rfl (YF oL h48 rfl (YR oV h48 rfl (by assumption) ?_)))));clear H;intro a H;refine kH H (YL kT h48 rfl (YC h48 rfl (Pf h48 rfl (Rm rfl (Sp 57 rfl ?_ ?_))))) <;> clear H
  ·intro h57 a H
   try have p57:=dT h57
   exact kH H (bD h57 rfl (bD h57 rfl (aP h57 rfl (aP h57 rfl (Pt h57 rfl (Kz K9 (Ct rfl rfl (SR fun _ dw=>ak dw rfl (LR results95 rfl fun H=>H.hp.dJ ⟨_,_,rfl,rfl,by omega,by omega⟩)))))))))
  intro h57 a H
  try have p57:=dF h57
  refine kH H (YM h57 rfl (YM h57 rfl (YI jk dL h57 rfl rfl (YF Ah h57 rfl (YR kg h57 rfl (by assumption) ?_)))));clear H;intro a H;refine kH H (YM h57 rfl ?_);clear H;intro a H;refine nW _ H (wg H rfl rfl h57) rfl rfl rfl (by omega) (by omega) rfl ?_;clear H;intro a H;refine kH H (YM h57 rfl ?_);clear H;intro a H;refine gW Sn (Li:=[]) (L:=[CW bl _]) H (wg H rfl rfl h57) rfl (ih _ _ l[k].flow _ (JA - 1) _ bl (Hp.owns (Li:=[]) H.hp) (hfl.mono hgm) (by omega) (by omega) (by omega) (by omega) (by omega)) rfl ?_;clear H;rintro v66 G66 L66 a w ⟨b66,lf66,rfl,rfl,aug,aue⟩ aaB H;dsimp only [List.nil_append] at H;replace VQ:=aJ aaB VQ;have alU:=fun b o h=>aaB b o (hgm b o h);refine kH H (YN h57 rfl (Pf h57 rfl (Kz K9 (Cd rfl ?_ ?_)))) <;> clear H K9
  ·intro h68 a H
   try have p68:=dT h68
   exact kP H (SR fun _ dR=>ak dR rfl (LR results95 rfl fun H=>H.hp.dJ ⟨_,_,rfl,rfl,by omega,by omega⟩))
  intro h68 a H
  try have p68:=dF h68
  refine kP H (Kc K8 (SR fun _ dW=>ak dW rfl (SB ?_)));clear H K8 dW;intro a H;skip;refine fH (ι:=Nat × Int × GH) (Tc:=[(0,_),(1,_),(2,_),(7,_)]) (Lc:=[]) (fun gh=>[(8,vi gh.1)]) (fun gh=>[CW bl gh.2.1]) (fun gh=>gh.2.2) (fun gh=>gh.1≤l[k].rows.length∧lf66 - (gD (l[k].rows.take gh.1):Int)≤gh.2.1∧gh.2.1≤lf66∧(∀ b o,G b=some o→gh.2.2 b=some o)∧aI gh.2.2 b (o+k*11+10)=some (.slice rA l[k].rows.length rc)) (fun gh=>l[k].rows.length - gh.1) ((0,lf66,G66)) (by exact (H).sub ⟨rfl,rfl,rfl,rfl,rfl,aC⟩) ?_ ?_
  ·exact ⟨by omega,by show lf66 - ((0:Nat):Int)≤lf66;omega,Int.le_refl _,alU,VQ⟩
  clear H;rintro ⟨j,lf2,g2⟩ a w hI H;dsimp only at hI H;obtain ⟨hj,hlo2,hhi2,jY,q10⟩:=hI;have auw:=aer l[k].rows j;dsimp only [lca,bq] at H;refine kP H (SQ fun _ dU=>SR fun _ eG=>Rm rfl (Rm rfl (Rm rfl (Ri jk dL rfl rfl (Rf oL rfl (Rg oV rfl (by assumption) ?_))))));clear H;intro a H;refine kH H (Rl kT rfl (Rc rfl (Kz eG (Cd rfl ?_ ?_)))) <;> clear H eG
  ·intro Db a H
   try have VG:=dT Db
   have hj2:j < l[k].rows.length:=by omega
   obtain ⟨b2,o2,uA,un,uc,eA,en,ec,zA,zn,zc,cA,cn,cc,rfl,hrow2,Ch,hcl⟩:=HZ hj2 (hrw.mono jY).at_;have hcn:=hcl.len;rw [aZ] at hcn;subst hcn;have t5:aI g2 b2 (o2+j*6+5)=some (.slice cA l[k].rows[j].cells.length cc):=hrow2 5 _ rfl;have auu:=zW l[k].rows[j];have auz:=asV hj2;have auB:=aer l[k].rows (j+1);refine kP H (Kc dU (SQ fun _ gu=>SB (SQ fun _ fC=>SR fun _ gH=>Rm rfl (Rm rfl (Ri jk dL rfl rfl (Rf oL rfl (Rg oV rfl (by assumption) ?_)))))));clear H dU;intro a H;refine kH H (Rm rfl (Ri kT iW rfl rfl (Rf uh rfl (Rg uP rfl (by assumption) ?_))));clear H;intro a H;refine kH H (Rl lu rfl (Rc rfl (Kz gH (Cd rfl ?_ ?_)))) <;> clear H gH
   ·intro vC a H
    try have VJ:=dT vC
    exact kP H (SR fun _ iC=>ak iC rfl (LR results95 rfl fun H=>H.hp.dJ ⟨_,_,rfl,rfl,by omega,by omega⟩))
   intro vC a H
   try have VJ:=dF vC
   refine kP H (Kc fC (SR fun _ jT=>ak jT rfl (SB ?_)));clear H fC jT;intro a H;skip;refine fH (ι:=Nat × Int × GH) (Tc:=[(0,_),(1,_),(2,_),(7,_),(8,_)]) (Lc:=[]) (fun gh=>[(9,vi gh.1)]) (fun gh=>[CW bl gh.2.1]) (fun gh=>gh.2.2) (fun gh=>gh.1≤l[k].rows[j].cells.length∧lf2 - (iR (l[k].rows[j].cells.take gh.1):Int)≤gh.2.1∧gh.2.1≤lf2∧(∀ b o,G b=some o→gh.2.2 b=some o)∧aI gh.2.2 b (o+k*11+10)=some (.slice (some ⟨b2,o2,none⟩) l[k].rows.length rc)∧aI gh.2.2 b2 (o2+j*6+5)=some (.slice cA l[k].rows[j].cells.length cc)∧(∀ b o,g2 b=some o→gh.2.2 b=some o)) (fun gh=>l[k].rows[j].cells.length - gh.1) ((0,lf2,g2)) (by exact (H).sub ⟨rfl,rfl,rfl,rfl,rfl,rfl,aC⟩) ?_ ?_
   ·exact ⟨by omega,by show lf2 - ((0:Nat):Int)≤lf2;omega,Int.le_refl _,jY,q10,t5,fun _ _ h=>h⟩
   clear H;rintro ⟨m,lf3,g3⟩ a w hI H;dsimp only at hI H;obtain ⟨hm,hlo3,hhi3,tH,s10,s5,aau⟩:=hI;have auy:=aen l[k].rows[j].cells m;dsimp only [lca,bq] at H;refine kP H (SQ fun _ jN=>SR fun _ jO=>Rm rfl (Rm rfl (Rm rfl (Ri jk dL rfl rfl (Rf oL rfl (Rg oV rfl (by assumption) ?_))))));clear H;intro a H;refine kH H (Rm rfl (Ri kT iW rfl rfl (Rf uh rfl (Rg uP rfl (by assumption) ?_))));clear H;intro a H;refine kH H (Rl lu rfl (Rc rfl (Kz jO (Cd rfl ?_ ?_)))) <;> clear H jO
   ·intro Ta a H
    try have aoM:=dT Ta
    have hm2:m < l[k].rows[j].cells.length:=by omega
    obtain ⟨b3,o3,x1,x2,x3,x4,x5,x6,x7,x8,x9,gA,gn,gc,rfl,hrow3,hch,hcf⟩:=CY hm2 (hcl.mono aau).at_;have u6:aI g3 b3 (o3+m*7+6)=some (.slice gA gn gc):=hrow3 6 _ rfl;have auv:=Bt l[k].rows[j].cells[m];have auA:=asS hm2;have auC:=aen l[k].rows[j].cells (m+1);refine kP H (Kc jN (SQ fun _ kU=>SB (SR fun _ lC=>Rm rfl (Rk rfl (Ro aH 0 rfl (Rs rfl (Rk rfl ?_)))))));clear H jN;intro a H;refine aY aH 0 (vs:=[_]) _ H wn rfl rfl rfl rfl rfl rfl rfl rfl ?_;clear H;intro w H;dsimp only [List.set,setRow] at H;refine lC _ _ ?_;clear lC;refine kP H (SR fun _ jP=>Rm rfl (Rk rfl (Ro aH 0 rfl (Rc rfl (Rm rfl (Sp 113 rfl ?_ ?_)))))) <;> clear H
    ·intro mF a H
     try have aoQ:=dT mF
     exact kH H (bD mF rfl (bD mF rfl (bD mF rfl (bD mF rfl (bD mF rfl (bD mF rfl (Pt mF rfl (Kz jP (Ct rfl rfl (SR fun _ nM=>ak nM rfl (LR results95 rfl fun H=>H.hp.dJ ⟨_,_,rfl,rfl,by omega,by omega⟩)))))))))))
    intro mF a H
    try have aoQ:=dF mF
    refine kH H (YM mF rfl (YM mF rfl (YI jk dL mF rfl rfl (YF oL mF rfl (YR oV mF rfl (by assumption) ?_)))));clear H;intro a H;refine kH H (YM mF rfl (YI kT iW mF rfl rfl (YF uh mF rfl (YR uP mF rfl (by assumption) ?_))));clear H;intro a H;refine kH H (YM mF rfl (YI lu iQ mF rfl rfl (YF Ew mF rfl (YR kg mF rfl (by assumption) ?_))));clear H;intro a H;refine kH H (YM mF rfl ?_);clear H;intro a H;refine nW _ H (wg H rfl rfl mF) rfl rfl rfl (by omega) (by omega) rfl ?_;clear H;intro a H;refine kH H (YM mF rfl ?_);clear H;intro a H;refine gW Sn (Li:=[]) (L:=[CW bl _]) H (wg H rfl rfl mF) rfl (ih _ _ l[k].rows[j].cells[m].flow _ (JA - 1) _ bl (Hp.owns (Li:=[]) H.hp) hcf (by omega) (by omega) (by omega) (by omega) (by omega)) rfl ?_;clear H;rintro v130 aey atm a w ⟨atr,anO,rfl,rfl,auf,aud⟩ OQ H;dsimp only [List.nil_append] at H;refine kH H (YN mF rfl (Pf mF rfl (Kz jP (Cd rfl ?_ ?_)))) <;> clear H jP
    ·intro Ez a H
     try have aco:=dT Ez
     exact kP H (SR fun _ nZ=>ak nZ rfl (LR results95 rfl fun H=>H.hp.dJ ⟨_,_,rfl,rfl,by omega,by omega⟩))
    intro Ez a H
    try have aco:=dF Ez
    refine kP H (Kc kU (SC (Rm rfl (Rd rfl (Ra rfl ?_)))));clear H kU;intro a H;refine aD ?_;refine dM ((m+1,anO,aey)) (by exact (H).sub ⟨rfl,rfl,rfl,rfl,rfl,rfl,aC⟩) ?_
    (try dsimp only);exact ⟨by omega,by omega,by omega,fun b o h=>OQ b o (tH b o h),aJ OQ s10,aJ OQ s5,fun b o h=>OQ b o (aau b o h)⟩
   intro Ta a H
   try have aoM:=dF Ta
   refine eu ?_;refine gu _ _ ?_;clear gu;refine kP H (SC (Rm rfl (Rd rfl (Ra rfl ?_))));clear H;intro a H;refine aD ?_;refine dM ((j+1,lf3,g3)) (by exact (H).sub ⟨rfl,rfl,rfl,rfl,rfl,aC⟩) ?_
   (try dsimp only);exact ⟨by omega,by omega,by omega,tH,s10⟩
  intro Db a H
  try have VG:=dF Db
  refine eu ?_;refine K6 _ _ ?_;clear K6;refine kP H (SC (Rm rfl (Rd rfl (Ra rfl ?_))));clear H;intro a H;refine aD ?_;refine dM ((k+1,lf2,g2)) (by exact (H).sub ⟨rfl,rfl,rfl,rfl,aC⟩) ?_
  (try dsimp only);exact ⟨by omega,by omega,by omega,jY⟩
 intro fD a H
 try have qp:=dF fD
 refine eu ?_;refine K2 _ _ ?_;clear K2;exact kP H (SR fun _ oF=>ak oF rfl (LR results95 rfl fun H=>H.hp.dJ ⟨_,_,rfl,rfl,by omega,by omega⟩))
theorem adl:∀ n:Nat,n≤4294967296→Q5 n
 | 0,_=>fun _ _ _ _ _ _ _ _ _ hz=>absurd hz (Nat.not_lt_zero _)
 | n+1,h=>arG (adl n (by omega)) (by omega)
theorem arE (G:GH) (w0:World) (hG:Hold G w0) (D:jM) (d:jA) (hR:oD G D d) (hz:CG d) :
  Calls prog 45 #[D.val] w0 (bH w0 G fun u G'=>∃ b,u=.bool b∧(b=true→jQ d=0)):=by
 have Mq:=hz.fl;refine eN [(0,_)] func45 rfl ntmps45 rfl rfl hG ?_;intro a H;refine bZ (fun _ K1=>?_);refine dZ (cs:=[_,_,_,_,_,_,_,_,_,_,_]) H wn rfl rfl rfl ?_;clear H;intro b1 a w hb1 H;refine kH H (ak K1 rfl (SQ fun _ K2=>?_));clear H K1;intro a H;obtain ⟨Ga,hma,hb1',H⟩:=H.eH;have hga:=fun j v hj=>vw hb1' 0 D.cells rfl j v hj;have hgs:=fun j v hj=>vw hb1' 7 [cK D.s1,cK D.s2,cK D.s3,cK D.s4] rfl j v hj
 have hgr:aI Ga b1 6=some (cK D.r):=by unfold aI;rw [hb1'];rfl
 have hgf:aI Ga b1 0=some (cK D.f):=by unfold aI;rw [hb1'];rfl
 replace hR:=hR.mono hma;refine mP ?_;refine dB aH H wn rfl ?_;clear H;intro b3 a w hb3 H;refine aY aH 0 (vs:=[_]) _ H wn rfl rfl rfl rfl rfl rfl rfl rfl ?_;clear H;intro w H;dsimp only [List.set,setRow] at H;refine kH H (Kn K2 (SR fun _ K3=>Rf La rfl ?_));clear H K2;intro a H;refine bB Bp (cs:=[cK D.s1,cK D.s2,cK D.s3,cK D.s4]) H wn rfl rfl (fun j v hj=>H.hp.aI (hgs j v hj)) rfl ?_;clear H;intro a H;refine dB Bp H wn rfl ?_;clear H;intro b4 a w hb4 H;refine aY Bp 0 (vs:=[_,_,_,_]) _ H wn rfl rfl rfl rfl rfl rfl rfl rfl ?_;clear H;intro w H;dsimp only [List.set,setRow] at H;refine K3 _ _ ?_;clear K3;refine kP H (SR fun _ K4=>bG Sz Fh 0 rfl rfl (Rl zS rfl (Rc rfl (Rm rfl (Sp 11 rfl ?_ ?_))))) <;> clear H
 ·intro h11 a H
  try have rM:=dT h11
  refine kH H (YF FY h11 rfl (YO rR 0 h11 rfl (YL mg h11 rfl (YC h11 rfl (Pt h11 rfl (Rm rfl (Sp 17 rfl ?_ ?_))))))) <;> clear H
  ·intro eY a H
   try have nH:=dT eY
   refine kH H (YF FZ eY rfl (YO Bo 0 eY rfl (YL xS eY rfl (YC eY rfl (Pt eY rfl (Rm rfl (Sp 23 rfl ?_ ?_))))))) <;> clear H
   ·intro h23 a H
    try have vJ:=dT h23
    refine kH H (YF SA h23 rfl (YO yZ 0 h23 rfl (YL wQ h23 rfl (YC h23 rfl (Pt h23 rfl (Rm rfl (Sp 29 rfl ?_ ?_))))))) <;> clear H
    ·intro gU a H
     try have p29:=dT gU
     refine kH H (YF Ev gU rfl (YR yY gU rfl (by assumption) ?_));clear H;intro a H;refine kH H (YL pW gU rfl (YC gU rfl (Pt gU rfl (Rm rfl (Sp 35 rfl ?_ ?_))))) <;> clear H
     ·intro gV a H
      try have p35:=dT gV
      refine kH H (YF wo gV rfl (YR kg gV rfl (by assumption) ?_));clear H;intro a H;refine gW Sn (Li:=[_]) (L:=[CW b3 150]) H (wg H rfl rfl gV) rfl (adl 4294967296 (bL _) _ _ d.flow _ 12 150 b3 (Hp.owns (Li:=[_]) H.hp) hR.fl (by omega) (by decide) (by decide) (by decide) (by omega)) rfl ?_;clear H;rintro v38 QI L38 a w ⟨b38,lf38,rfl,rfl,-,-⟩ Jo H;refine kH H (Pt gV rfl (Rm rfl (Sp 40 rfl ?_ ?_))) <;> clear H
      ·intro jJ a H
       try have p40:=dT jJ
       refine bB ko (cs:=D.cells) H (wg H rfl rfl jJ) rfl rfl (fun j v hj=>H.hp.aI (aJ Jo (hga j v hj))) rfl ?_;clear H;intro a H;refine s_call aiv H (wg H rfl rfl jJ) rfl (afT _ _ H.ro D d (hR.mono Jo) hz) rfl ?_;clear H;rintro v42 QK a w rfl aui H;exact kH H (YC jJ rfl (Pt jJ rfl (ak K4 rfl (LR results45 rfl fun H=>H.rt ⟨_,rfl,fun h=>by first|assumption|(simp_all;done)⟩))))
      intro jJ a H
      try have p40:=dF jJ
      exact kH H (bD jJ rfl (Pf jJ rfl (ak K4 rfl (LR results45 rfl fun H=>H.rt ⟨_,rfl,fun h=>by first|assumption|(simp_all;done)⟩))))
     intro gV a H
     try have p35:=dF gV
     exact kH H (bD gV rfl (Pf gV rfl (Rm rfl (bD rfl rfl (Pf rfl rfl (ak K4 rfl (LR results45 rfl fun H=>H.rt ⟨_,rfl,fun h=>by first|assumption|(simp_all;done)⟩)))))))
    intro gU a H
    try have p29:=dF gU
    exact kH H (aP gU rfl (aP gU rfl (Pf gU rfl (Rm rfl (bD rfl rfl (Pf rfl rfl (Rm rfl (bD rfl rfl (Pf rfl rfl (ak K4 rfl (LR results45 rfl fun H=>H.rt ⟨_,rfl,fun h=>by first|assumption|(simp_all;done)⟩)))))))))))
   intro h23 a H
   try have vJ:=dF h23
   exact kH H (aP h23 rfl (aP h23 rfl (Pf h23 rfl (Rm rfl (aP rfl rfl (aP rfl rfl (Pf rfl rfl (Rm rfl (bD rfl rfl (Pf rfl rfl (Rm rfl (bD rfl rfl (Pf rfl rfl (ak K4 rfl (LR results45 rfl fun H=>H.rt ⟨_,rfl,fun h=>by first|assumption|(simp_all;done)⟩)))))))))))))))
  intro eY a H
  try have nH:=dF eY
  exact kH H (aP eY rfl (aP eY rfl (Pf eY rfl (Rm rfl (aP rfl rfl (aP rfl rfl (Pf rfl rfl (Rm rfl (aP rfl rfl (aP rfl rfl (Pf rfl rfl (Rm rfl (bD rfl rfl (Pf rfl rfl (Rm rfl (bD rfl rfl (Pf rfl rfl (ak K4 rfl (LR results45 rfl fun H=>H.rt ⟨_,rfl,fun h=>by first|assumption|(simp_all;done)⟩)))))))))))))))))))
 intro h11 a H
 try have rM:=dF h11
 exact kH H (aP h11 rfl (aP h11 rfl (Pf h11 rfl (Rm rfl (aP rfl rfl (aP rfl rfl (Pf rfl rfl (Rm rfl (aP rfl rfl (aP rfl rfl (Pf rfl rfl (Rm rfl (aP rfl rfl (aP rfl rfl (Pf rfl rfl (Rm rfl (bD rfl rfl (Pf rfl rfl (Rm rfl (bD rfl rfl (Pf rfl rfl (ak K4 rfl (LR results45 rfl fun H=>H.rt ⟨_,rfl,fun h=>by first|assumption|(simp_all;done)⟩)))))))))))))))))))))))
theorem Qg:qd prog 68 [(0,1),(1,1),(2,1),(3,1),(4,5),(9,1),(10,1)] [.int .i64 0,.int .i64 0,.int .i64 0,.string ⟨#[]⟩,.slice none 0 0,.int .i64 0,.int .i64 0,.slice none 0 0,.slice none 0 0,.slice none 0 0,.slice none 0 0]:=⟨by kernel_rfl,by kernel_rfl⟩
theorem arP:qd prog 159 [(0,1),(1,1)] [.int .i64 0,.int .i64 0]:=⟨by kernel_rfl,by kernel_rfl⟩
theorem arM:qd prog 102 [(0,1),(1,1),(2,1)] [.int .i64 0,.string ⟨#[]⟩,.int .i64 0]:=⟨by kernel_rfl,by kernel_rfl⟩
theorem Zj:∀ args w,(callFunc 44 args).run prog w=.ok (.enter 44 args) w:=enters func44 rfl (by kernel_rfl)
theorem ahB:∀ args w,(callFunc 14 args).run prog w=.ok (.enter 14 args) w:=enters func14 rfl (by kernel_rfl)
theorem ahH:∀ args w,(callFunc 15 args).run prog w=.ok (.enter 15 args) w:=enters func15 rfl (by kernel_rfl)
theorem ajf:∀ args w,(callFunc 45 args).run prog w=.ok (.enter 45 args) w:=enters func45 rfl (by kernel_rfl)
def zV (k:Int) (t:ByteArray) (i:Int) (ds:List gq):ay:=.mk k 0 0 t ⟨[],⟨i,0,ds,[]⟩⟩ [] []
def wm:jA:=⟨[zV 1 ⟨#[97,98]⟩ 0 [],zV 1 ⟨#[99,100]⟩ 3 [],zV 1 ⟨#[101]⟩ 0 [⟨5,0⟩],zV 2 ⟨#[]⟩ 0 []],CB,[⟨3,⟨#[65,110]⟩,0⟩,⟨5,⟨#[66,111]⟩,0⟩],⟨[],[],[],[]⟩⟩
theorem o24:(nD (yV (fun _=>false) (fun _=>true) wm)).flow.length=2:=by kernel_rfl
theorem aoC:((nD (yV (fun _=>false) (fun _=>true) wm)).flow.map ay.text).head?=some ⟨#[97,98,101]⟩:=by kernel_rfl
theorem aoB:(nD (yV (fun _=>false) (fun _=>true) wm)).revs.length=0:=by kernel_rfl
theorem f24:(nD (yV (fun _=>true) (fun _=>false) wm)).flow.length=2:=by kernel_rfl
theorem ajJ:((nD (yV (fun _=>true) (fun _=>false) wm)).flow.map ay.text).head?=some ⟨#[97,98,99,100]⟩:=by kernel_rfl
theorem ajI:(nD (yV (fun _=>true) (fun _=>false) wm)).revs.length=0:=by kernel_rfl
theorem z24:bV wm.flow≤1000:=by decide
theorem c24:jQ wm=0:=by kernel_rfl
theorem s24:Fy 536870912 wm:=by
 have h:=z24
 have h0:mh CB≤1000:=by decide
 refine ⟨⟨by omega,by show mh CB≤_;omega,by decide,fun x hx=>?_,by decide,⟨fun _ h=>(by cases h),by decide,fun _ h=>(by cases h),by decide,fun _ h=>(by cases h),by decide,fun _ h=>(by cases h),fun _ h=>(by cases h),fun _ h=>(by cases h)⟩⟩,by omega,by show mh CB≤_;omega⟩
 simp only [wm,kL,List.not_mem_nil,or_false] at hx
 rcases hx with rfl|rfl <;> decide
theorem alR {F:List ay} {t:ByteArray} (h:(F.map ay.text).head?=some t) (h0:0 < F.length):F[0].text=t:=by
 cases F with
 | nil=>exact absurd h0 (by decide)
 | cons x F=>simpa using h
set_option maxHeartbeats 2000000 in
theorem Zr (G:GH) (w0:World) (hG:Hold G w0) :
  Calls prog 44 #[] w0 (bH w0 G fun u G'=>∃ D:jM,u=D.val∧oD G' D wm):=by
 refine eN [] func44 rfl ntmps44 rfl rfl hG ?_;intro a H;refine bZ (fun _ K1=>?_);refine dB ko H wn rfl ?_;clear H;intro b0 a w hb0 H;refine K1 _ _ ?_;clear K1;refine bZ (fun _ K2=>?_);refine jv Qg [_,_,_,_,_,_,_,_,_,_,_] H wn rfl rfl rfl rfl ?_;clear H;intro a H;refine jv Wo [_,_,_,_] H wn rfl rfl rfl rfl ?_;clear H;intro a H;refine jv JR [_,_,_,_,_] H wn rfl rfl rfl rfl ?_;clear H;intro a H;refine jv Qg [_,_,_,_,_,_,_,_,_,_,_] H wn rfl rfl rfl rfl ?_;clear H;intro a H;refine jv arP [_,_] H wn rfl rfl rfl rfl ?_;clear H;intro a H;refine ig lU nK [_,_] [_,_] H wn rfl rfl rfl rfl rfl (by intro i q h;match i,h with|0,h=>exact h|n+1,h=>simp at h) rfl rfl ?_;clear H;intro b6 a w hb6 H;refine jv Wo [_,_,_,_] H wn rfl rfl rfl rfl ?_;clear H;intro a H;refine jv JR [_,_,_,_,_] H wn rfl rfl rfl rfl ?_;clear H;intro a H;(iterate 2 refine jv Qg [_,_,_,_,_,_,_,_,_,_,_] H wn rfl rfl rfl rfl ?_;clear H;intro a H);refine ig jk dL [_,_,_,_,_,_,_,_,_,_,_,_,_,_,_,_,_,_,_,_,_,_,_,_,_,_,_,_,_,_,_,_,_,_,_,_,_,_,_,_,_,_,_,_] [_,_,_,_,_,_,_,_,_,_,_,_,_,_,_,_,_,_,_,_,_,_,_,_,_,_,_,_,_,_,_,_,_,_,_,_,_,_,_,_,_,_,_,_] H wn rfl rfl rfl rfl rfl (by intro i q h;match i,h with|0,h=>exact h|1,h=>exact h|2,h=>exact h|3,h=>exact h|n+4,h=>simp at h) rfl rfl ?_;clear H;intro b11 a w BX H;(iterate 2 refine jv arM [_,_,_] H wn rfl rfl rfl rfl ?_;clear H;intro a H);refine ig pW oU [_,_,_,_,_,_] [_,_,_,_,_,_] H wn rfl rfl rfl rfl rfl (by intro i q h;match i,h with|0,h=>exact h|1,h=>exact h|n+2,h=>simp at h) rfl rfl ?_;clear H;intro b14 a w aad H;refine jv adt [_,_,_,_,_,_,_,_,_,_,_] H wn rfl rfl rfl rfl ?_;clear H;intro a H;refine aY ko 3 (vs:=[_,_,_,_,_,_,_,_,_,_,_]) _ H wn rfl rfl rfl rfl rfl rfl rfl rfl ?_;clear H;intro w H;dsimp only [List.set,setRow] at H;refine K2 _ _ ?_;clear K2;refine bS ?_;refine (leave1 H results44 (.cons (ng ko (cs:=[_,_,_,_,_,_,_,_,_,_,_]) H rfl rfl (H.hp.bU 3 rfl rfl)) .nil) ?_).1;have H:=H.dG (Pl:=[_,_,_,_]) (cZ:=[_,_,_]) [2,1,0] (by decide) rfl;obtain ⟨G1,hm1,T9,H⟩:=H.eH;obtain ⟨G2,hm2,EC,H⟩:=H.eH;obtain ⟨G3,Ay,TW,H⟩:=H.eH;have nl:∀ {sz:Nat},av G2 (.sl sz []) (.slice none 0 0):=fun {sz}=>av.iL rfl (by decide);have Hu:∀ {sz:Nat},av G3 (.sl sz []) (.slice none 0 0):=fun {sz}=>av.iL rfl (by decide);have d1:av G2 (.sl 2 ([(⟨5,0⟩:gq)].map gq.dat)) (.slice (some ⟨b6,0,none⟩) 1 1):=av.fG (n:=1) (cap:=1) (hm2 _ _ T9) rfl (bL _) (show 1≤maxLen by decide) rfl (bR.nil.snoc (YQ G2 ⟨5,0⟩) rfl);have r1:aR G2 (zV 1 ⟨#[97,98]⟩ 0 []).dat _:=aR.mkItem (x:=zV 1 ⟨#[97,98]⟩ 0 []) ⟨nl,nl,nl⟩ nl nl;have r2:aR G2 (zV 1 ⟨#[99,100]⟩ 3 []).dat _:=aR.mkItem (x:=zV 1 ⟨#[99,100]⟩ 3 []) ⟨nl,nl,nl⟩ nl nl;have r3:aR G2 (zV 1 ⟨#[101]⟩ 0 [⟨5,0⟩]).dat _:=aR.mkItem (x:=zV 1 ⟨#[101]⟩ 0 [⟨5,0⟩]) ⟨nl,d1,nl⟩ nl nl;have r4:aR G2 (zV 2 ⟨#[]⟩ 0 []).dat _:=aR.mkItem (x:=zV 2 ⟨#[]⟩ 0 []) ⟨nl,nl,nl⟩ nl nl;have dP:bR G2 11 (wm.flow.map ay.dat) _:=(((bR.nil.snoc r1 rfl).snoc r2 rfl).snoc r3 rfl).snoc r4 rfl;have hcr:bR G3 3 (wm.revs.map dh.dat) _:=(bR.nil.snoc (MH G3 ⟨3,⟨#[65,110]⟩,0⟩) rfl).snoc (MH G3 ⟨5,⟨#[66,111]⟩,0⟩) rfl;exact H.rt ⟨⟨(some ⟨b11,0,none⟩,4,4),(none,0,0),(none,0,0),(none,0,0),(some ⟨b14,0,none⟩,2,2),(none,0,0),(none,0,0),(none,0,0),(none,0,0),0,0⟩,rfl,⟨(av.fG (n:=4) (cap:=4) EC rfl (bL _) (show 4≤maxLen by decide) rfl dP).mono Ay,⟨Hu,Hu,Hu⟩,rfl,rfl,av.fG (n:=2) (cap:=2) TW rfl (bL _) (show 2≤maxLen by decide) rfl hcr,⟨Hu,Hu,Hu,Hu⟩⟩⟩
theorem YV {G:GH} {E:jM} {e:jA} {t:ByteArray} (hE:oD G E e) (h2:e.flow.length=2) (ht:(e.flow.map ay.text).head?=some t) (hr:e.revs.length=0) :
  ∃ b o fc rA rc,E.f=(some ⟨b,o,none⟩,2,fc)∧E.r=(rA,0,rc)∧aI G b (o+0*11+3)=some (.string t):=by
 obtain ⟨⟨fA,fn,fc⟩,_,_,_,⟨rA,rn,rc⟩,_,_,_,_,_,_⟩:=E;have hf:=hE.fl;have hv:=hE.rv;dsimp only [cK] at hf hv;have n1:=hf.len;have n2:=hv.len;rw [aZ] at n1 n2;obtain ⟨A,c,e4,-,-,hg⟩:=hf.slice;rw [aZ] at e4
 injection e4 with e4 e5 e6
 subst e4;obtain ⟨b,o,_,_,_,_,_,_,_,_,_,_,_,_,_,_,_,rfl,hrow,-⟩:=F4 (show 0 < e.flow.length by omega) hg;have h3:=hrow 3 _ rfl;rw [alR ht] at h3;exact ⟨b,o,fc,rA,rc,by rw [n1,h2],by rw [n2,hr],h3⟩
set_option maxHeartbeats 1000000 in
theorem Vi (G:GH) (w0:World) (hG:Hold G w0):Calls prog 12 #[] w0 (bH w0 G fun u G'=>u=.bool true):=by
 refine eN [] func12 rfl ntmps12 rfl rfl hG ?_;intro a H;refine kP H (SR fun _ K1=>ak K1 rfl (SR fun _ K2=>?_));clear H K1;intro a H;refine s_call Zj H wn rfl (Zr _ _ H.ro) rfl ?_;clear H;rintro v3 G3 a w ⟨D3,rfl,hD3⟩ Ay H;refine s_call ahB H wn rfl (apN _ _ H.ro D3 wm hD3 s24 c24) rfl ?_;clear H;rintro v4 G4 a w ⟨E,rfl,hE⟩ LV H;obtain ⟨b4,o4,fc,rA,rc,e1,e2,AQ⟩:=YV hE o24 aoC aoB;obtain ⟨_,_,_,_,_,_,_,_,_,_,_⟩:=E;dsimp only at e1 e2;subst e1 e2
 simp only [jM.val,jM.cells,cK] at H
 refine dB ko H wn rfl ?_;clear H;intro b1 a w hb1 H;refine aY ko 0 (vs:=[_,_,_,_,_,_,_,_,_,_,_]) _ H wn rfl rfl rfl rfl rfl rfl rfl rfl ?_;clear H;intro w H;dsimp only [List.set,setRow] at H;refine K2 _ _ ?_;clear K2;refine bZ (fun _ K3=>?_);refine s_call Zj H wn rfl (Zr _ _ H.ro) rfl ?_;clear H;rintro v5 G5 a w ⟨D5,rfl,hD5⟩ AA H;refine s_call ahH H wn rfl (apM _ _ H.ro D5 wm hD5 s24 c24) rfl ?_;clear H;rintro v6 G6 a w ⟨E6,rfl,hE6⟩ GK H;obtain ⟨b6,o6,gc,sA,sc,e3,e4,ht6⟩:=YV hE6 f24 ajJ ajI;obtain ⟨_,_,_,_,_,_,_,_,_,_,_⟩:=E6;dsimp only at e3 e4;subst e3 e4
 simp only [jM.val,jM.cells,cK] at H
 replace AQ:=aJ (fun b o h=>GK b o (AA b o h)) AQ;refine dB ko H wn rfl ?_;clear H;intro b2 a w hb2 H;refine aY ko 0 (vs:=[_,_,_,_,_,_,_,_,_,_,_]) _ H wn rfl rfl rfl rfl rfl rfl rfl rfl ?_;clear H;intro w H;dsimp only [List.set,setRow] at H;refine K3 _ _ ?_;clear K3;refine kP H (SR fun _ K4=>bG wo kg 1 rfl rfl (Rl jk rfl (Rc rfl (Rm rfl (Sp 11 rfl ?_ ?_))))) <;> clear H
 ·intro h11 a H
  try have rM:=dT h11
  refine kH H (YF wo h11 rfl (YO kg 1 h11 rfl ?_));clear H;intro a H;refine vN jk dL 0 H (wg H rfl rfl h11) rfl rfl rfl (by decide) rfl ?_;clear H;intro a H;refine kH H (YF wu h11 rfl (YR iM h11 rfl AQ ?_));clear H;intro a H;refine E9 H (wg H rfl rfl h11) rfl rfl rfl ?_;clear H;intro a H;refine kH H (Pt h11 rfl (Rm rfl (Sp 19 rfl ?_ ?_))) <;> clear H
  ·intro h19 a H
   try have sO:=dT h19
   refine kH H (YF wo h19 rfl (YO kg 0 h19 rfl (YL jk h19 rfl (YC h19 rfl (Pt h19 rfl (Rm rfl (Sp 25 rfl ?_ ?_))))))) <;> clear H
   ·intro gX a H
    try have p25:=dT gX
    refine kH H (YF wo gX rfl (YO kg 0 gX rfl ?_));clear H;intro a H;refine vN jk dL 0 H (wg H rfl rfl gX) rfl rfl rfl (by decide) rfl ?_;clear H;intro a H;refine kH H (YF wu gX rfl (YR iM gX rfl ht6 ?_));clear H;intro a H;refine E9 H (wg H rfl rfl gX) rfl rfl rfl ?_;clear H;intro a H;refine kH H (Pt gX rfl (Rm rfl (Sp 33 rfl ?_ ?_))) <;> clear H
    ·intro vB a H
     try have p33:=dT vB
     refine kH H (YF Ev vB rfl (YO yY 1 vB rfl (YL pW vB rfl (YF Ev vB rfl (YO yY 0 vB rfl (YL pW vB rfl ?_))))));clear H;intro a H;refine MI _ H (wg H rfl rfl vB) rfl rfl rfl (by omega) (by omega) rfl ?_;clear H;intro a H;refine kH H (YC vB rfl (Pt vB rfl (ak K4 rfl ?_)));clear H K4;intro a H;refine lr H results12 rfl ?_
     first
      | exact H.rt rfl
      | (exfalso;simp_all;done)
      | (exfalso;simp_all;omega)
    intro vB a H
    try have p33:=dF vB
    refine kH H (bD vB rfl (bD vB rfl (aP vB rfl (Pf vB rfl (ak K4 rfl ?_)))));clear H K4;intro a H;refine lr H results12 rfl ?_
    first
     | exact H.rt rfl
     | (exfalso;simp_all;done)
     | (exfalso;simp_all;omega)
   intro gX a H
   try have p25:=dF gX
   refine kH H (bD gX rfl (bD gX rfl (Pf gX rfl (Rm rfl (bD rfl rfl (bD rfl rfl (aP rfl rfl (Pf rfl rfl (ak K4 rfl ?_)))))))));clear H K4;intro a H;refine lr H results12 rfl ?_
   first
    | exact H.rt rfl
    | (exfalso;simp_all;done)
    | (exfalso;simp_all;omega)
  intro h19 a H
  try have sO:=dF h19
  refine kH H (aP h19 rfl (aP h19 rfl (Pf h19 rfl (Rm rfl (bD rfl rfl (bD rfl rfl (Pf rfl rfl (Rm rfl (bD rfl rfl (bD rfl rfl (aP rfl rfl (Pf rfl rfl (ak K4 rfl ?_)))))))))))));clear H K4;intro a H;refine lr H results12 rfl ?_
  first
   | exact H.rt rfl
   | (exfalso;simp_all;done)
   | (exfalso;simp_all;omega)
 intro h11 a H
 try have rM:=dF h11
 refine kH H (bD h11 rfl (bD h11 rfl (Pf h11 rfl (Rm rfl (aP rfl rfl (aP rfl rfl (Pf rfl rfl (Rm rfl (bD rfl rfl (bD rfl rfl (Pf rfl rfl (Rm rfl (bD rfl rfl (bD rfl rfl (aP rfl rfl (Pf rfl rfl (ak K4 rfl ?_)))))))))))))))));clear H K4;intro a H;refine lr H results12 rfl ?_
 first
  | exact H.rt rfl
  | (exfalso;simp_all;done)
  | (exfalso;simp_all;omega)
theorem arF (G:GH) (w0:World) (hG:Hold G w0) (D:jM) (d:jA) (hR:oD G D d) (hz:CG d) (A R:List Int) (va vr:aj) (hd:Nh G A R va vr) :
  Calls prog 13 #[D.val,.agg #[va,vr]] w0 (bH w0 G fun u G'=>∃ b,u=.bool b∧(b=true→jQ d=0∧A.length≤300∧R.length≤300)):=by
 obtain ⟨aA,ac,rfl,-,-,-⟩:=hd.ha.slice;obtain ⟨rA,rc,rfl,-,-,-⟩:=hd.hr.slice
 simp only [aZ] at *
 refine eN [(0,_),(1,_)] func13 rfl ntmps13 rfl rfl hG ?_;intro a H;refine bZ (fun _ K1=>?_);refine dZ (cs:=[_,_,_,_,_,_,_,_,_,_,_]) H wn rfl rfl rfl ?_;clear H;intro b2 a w hb2 H;refine dZ (cs:=[_,_]) H wn rfl rfl rfl ?_;clear H;intro b3 a w hb3 H;refine kH H (ak K1 rfl (SR fun _ K2=>bG ajW MS 0 rfl rfl (Rl uQ rfl (Rc rfl (Rm rfl (Sp 9 rfl ?_ ?_)))))) <;> clear H K1
 ·intro h9 a H
  try have p9:=dT h9
  refine kH H (YF ajX h9 rfl (YO MS 0 h9 rfl (YL uQ h9 rfl (YC h9 rfl (Pt h9 rfl (Rm rfl (Sp 15 rfl ?_ ?_))))))) <;> clear H
  ·intro iD a H
   try have pR:=dT iD
   refine bB ko (cs:=[_,_,_,_,_,_,_,_,_,_,_]) H (wg H rfl rfl iD) rfl rfl (H.hp.bU 1 rfl rfl) rfl ?_;clear H;intro a H;refine s_call ajf H (wg H rfl rfl iD) rfl (arE _ _ H.ro D d hR hz) rfl ?_;clear H;rintro v17 xX a w ⟨b17,rfl,LM⟩ rD H;refine kH H (Pt iD rfl (ak K2 rfl ?_));clear H K2;intro a H;refine lr H results13 rfl ?_
   first
    | exact H.rt ⟨_,rfl,fun h=>⟨LM h,by omega,by omega⟩⟩
    | exact H.rt ⟨_,rfl,fun h=>by cases h⟩
  intro iD a H
  try have pR:=dF iD
  refine kH H (aP iD rfl (Pf iD rfl (ak K2 rfl ?_)));clear H K2;intro a H;refine lr H results13 rfl ?_
  first
   | exact H.rt ⟨_,rfl,fun h=>⟨LM h,by omega,by omega⟩⟩
   | exact H.rt ⟨_,rfl,fun h=>by cases h⟩
 intro h9 a H
 try have p9:=dF h9
 refine kH H (aP h9 rfl (aP h9 rfl (Pf h9 rfl (Rm rfl (aP rfl rfl (Pf rfl rfl (ak K2 rfl ?_)))))));clear H K2;intro a H;refine lr H results13 rfl ?_
 first
  | exact H.rt ⟨_,rfl,fun h=>⟨LM h,by omega,by omega⟩⟩
  | exact H.rt ⟨_,rfl,fun h=>by cases h⟩
theorem Sl:∀ args w,(callFunc 84 args).run prog w=.ok (.enter 84 args) w:=enters func84 rfl (by kernel_rfl)
theorem ahy:∀ args w,(callFunc 144 args).run prog w=.ok (.enter 144 args) w:=enters func144 rfl (by kernel_rfl)
theorem ajd:∀ args w,(callFunc 34 args).run prog w=.ok (.enter 34 args) w:=enters func34 rfl (by kernel_rfl)
theorem ahz:∀ args w,(callFunc 145 args).run prog w=.ok (.enter 145 args) w:=enters func145 rfl (by kernel_rfl)
theorem ajp:∀ args w,(callFunc 83 args).run prog w=.ok (.enter 83 args) w:=enters func83 rfl (by kernel_rfl)
def qz (h:dQ):Bool:=decide (h.marks.bJ.length=0)
def uK (r:aS):Bool:=qz r.head && (r.cells.findIdx? fun c=>qz c.head).isSome
theorem WH (G:GH) (w0:World) (hG:Hold G w0) (h:dQ) (p d l:aj) (hh:jc G h p d l) :
  Calls prog 84 #[rz h p d l] w0 (bH w0 G fun u G'=>u=.bool (qz h)):=by
 obtain ⟨pA,pn,pc,rfl⟩:=hh.props.form;obtain ⟨dA,dn,dc,rfl⟩:=hh.bJ.form;obtain ⟨lA,ln,lc,rfl⟩:=hh.layers.form;have hdn:=hh.bJ.len;rw [aZ] at hdn;subst hdn;refine eN [(0,_)] func84 rfl ntmps84 rfl rfl hG ?_;intro a H;refine bZ (fun _ K1=>?_);refine dZ (cs:=[_,_,_,_,_]) H wn rfl rfl rfl ?_;clear H;intro b1 a w hb1 H;exact kH H (ak K1 rfl (SR fun _ K2=>Rf mD rfl (bG qj qy 0 rfl rfl (Rl lU rfl (Rc rfl (ak K2 rfl (LR results84 rfl fun H=>H.rt (dO (decide_eq_decide.2 (by omega))))))))))
theorem aqV (G:GH) (c:aT):qV (.func (.func 145) #[] #[]) G c.dat (qz c.head):=by
 intro G1 w0 cs hm hG hr;refine jI (caps:=[]) ahz ?_;obtain ⟨pA,pn,pc,dA,dn,dc,yA,yn,yc,fA,fn,fc,rfl,hh,-⟩:=hr.cell;refine eN [(0,_)] func145 rfl ntmps145 rfl rfl hG ?_;intro a H;refine bZ (fun _ K1=>?_);refine dZ (cs:=[_,_,_,_,_,_,_]) H wn rfl rfl rfl ?_;clear H;intro b1 a w hb1 H;refine kH H (ak K1 rfl (SR fun _ K2=>Rf C8 rfl ?_));clear H K1;intro a H;refine bB eO (cs:=[_,_,_,_,_]) H wn rfl rfl (H.hp.bU 0 rfl rfl) rfl ?_;clear H;intro a H;refine s_call Sl H wn rfl (WH _ _ H.ro c.head _ _ _ hh) rfl ?_;clear H;rintro v5 G5 a w rfl AA H;exact kH H (ak K2 rfl (LR results145 rfl fun H=>H.rt rfl))
theorem aqW (G:GH) (w0:World) (hG:Hold G w0) (r:aS) (cs:List aj) (hr:aR G r.dat cs) :
  Calls prog 83 #[.agg cs.toArray] w0 (bH w0 G fun u G'=>u=.bool (uK r)):=by
 obtain ⟨pA,pn,pc,dA,dn,dc,yA,yn,yc,fA,fn,fc,rfl,hh,hcl⟩:=hr.row;refine eN [(0,_)] func83 rfl ntmps83 rfl rfl hG ?_;intro a H;refine bZ (fun _ K1=>?_);refine dZ (cs:=[_,_,_,_,_,_]) H wn rfl rfl rfl ?_;clear H;intro b1 a w hb1 H;refine kH H (ak K1 rfl (SR fun _ K2=>Rf F3 rfl ?_));clear H K1;intro a H;refine bB eO (cs:=[_,_,_,_,_]) H wn rfl rfl (H.hp.bU 0 rfl rfl) rfl ?_;clear H;intro a H;refine s_call Sl H wn rfl (WH _ _ H.ro r.head _ _ _ hh) rfl ?_;clear H;rintro v5 G5 a w rfl AA H;refine kH H (Rm rfl (Sp 6 rfl ?_ ?_)) <;> clear H
 ·intro h6 a H
  try have p6:=dT h6
  refine kH H (YF uh h6 rfl (YO uP 0 h6 rfl ?_));clear H;intro a H;refine s_call ahy H (wg H rfl rfl h6) rfl (agD _ _ H.ro r.cells (fun c=>qz c.head) _ _ (hcl.mono AA) (fun c _=>aqV _ c)) rfl ?_;clear H;rintro v9 G9 a w rfl yM H;exact kH H (Pt h6 rfl (ak K2 rfl (LR results83 rfl fun H=>H.rt (by unfold uK;simp_all))))
 intro h6 a H
 try have p6:=dF h6
 exact kH H (bD h6 rfl (Pf h6 rfl (ak K2 rfl (LR results83 rfl fun H=>H.rt (by unfold uK;simp_all)))))
theorem arB (G:GH) (w0:World) (hG:Hold G w0) (r:aS) (cs:List aj) (hr:aR G r.dat cs) :
  Calls prog 34 #[.agg cs.toArray] w0 (bH w0 G fun u G'=>u=.bool (uK r)):=by
 obtain ⟨pA,pn,pc,dA,dn,dc,yA,yn,yc,fA,fn,fc,rfl,hh,hcl⟩:=hr.row;have hdn:=hh.bJ.len;rw [aZ] at hdn;subst hdn;obtain ⟨fA',fc',e,hc1,hc2,hg⟩:=hcl.slice
 injection e with e1 e2 e3
 rw [aZ] at e2 hc1;subst e1 e2 e3;have hml:maxLen=9223372036854775807:=rfl;refine eN [(0,_)] func34 rfl ntmps34 rfl rfl hG ?_;intro a H;refine bZ (fun _ K1=>?_);refine dZ (cs:=[_,_,_,_,_,_]) H wn rfl rfl rfl ?_;clear H;intro b1 a w hb1 H;refine kH H (ak K1 rfl (SQ fun _ K2=>SR fun _ K3=>ak K3 rfl (SB ?_)));clear H K1 K3;intro a H;skip;refine fH (ι:=Nat) (Tc:=[(1,_)]) (Lc:=[]) (fun gh=>[(3,vi gh)]) (fun gh=>[(b1,.cells #[.slice pA pn pc,vi r.head.marks.ins,vi r.head.marks.move,.slice dA r.head.marks.bJ.length dc,.slice yA yn yc,.slice fA r.cells.length fc] 74 (0,0))]) (fun gh=>G) (fun gh=>gh≤r.cells.length∧(r.cells.take gh).findIdx? (fun c=>qz c.head)=none) (fun gh=>r.cells.length - gh) (0) (by exact (H).sub ⟨rfl,rfl,aC⟩) ?_ ?_
 ·exact ⟨by omega,rfl⟩
 clear H;intro k a w hI H;obtain ⟨hk,hno⟩:=hI;dsimp only [lca,bq] at H;refine kP H (SQ fun _ K4=>SR fun _ K5=>Rm rfl (bG uh uP 0 rfl rfl (Rl lu rfl (Rc rfl (Kz K5 (Cd rfl ?_ ?_)))))) <;> clear H K5
 ·intro h8 a H
  try have p8:=dT h8
  have hk2:k < r.cells.length:=by omega
  obtain ⟨b2,o2,a1,a2,a3,a4,a5,a6,a7,a8,a9,Eo,IJ,Kw,rfl,hrow,Un,-⟩:=CY hk2 hg;have h5:=Un.bJ.len;rw [aZ] at h5;subst h5;refine kP H (Kc K4 (SQ fun _ K6=>SB (SR fun _ K7=>bG uh uP 0 rfl rfl (Rm rfl (Ri lu iQ rfl rfl (Rf C8 rfl (Rf mD rfl (Rf qj rfl (Rg qy rfl (hrow 4 _ rfl) (Rl lU rfl (Rc rfl (Kz K7 (Cd rfl ?_ ?_))))))))))))) <;> clear H K4 K7
  ·intro h20 a H
   try have Hz:=dT h20
   refine kP H (SR fun _ K8=>Rf F3 rfl (Rf mD rfl (bG qj qy 0 rfl rfl (Rl lU rfl (Rc rfl (ak K8 rfl ?_))))));clear H K8;intro a H;refine lr H results34 rfl ?_
   first
    | exact H.rt (by unfold uK;rw [sN hk2 hno (by show qz _=_;unfold qz;rw [nN];omega),Option.isSome_some,Bool.and_true];exact dO (decide_eq_decide.2 (by omega)))
    | exact H.rt (by unfold uK;rw [show r.cells.take k=r.cells from iX (by omega)] at hno;rw [hno,Option.isSome_none,Bool.and_false])
  intro h20 a H
  try have Hz:=dF h20
  refine kP H (Kc K6 (SC (Rm rfl (Rd rfl (Ra rfl ?_)))));clear H K6;intro a H;refine aD ?_;refine dM (k+1) (by exact (H).sub ⟨rfl,rfl,aC⟩) ?_
  exact ⟨by omega,Cj hk2 hno (by show qz _=_;unfold qz;rw [ny];omega)⟩
 intro h8 a H
 try have p8:=dF h8
 refine eu ?_;refine K2 _ _ ?_;clear K2;refine kP H (SR fun _ K9=>ak K9 rfl ?_);clear H K9;intro a H;refine lr H results34 rfl ?_
 first
  | exact H.rt (by unfold uK;rw [sN hk2 hno (by show qz _=_;unfold qz;rw [nN];omega),Option.isSome_some,Bool.and_true];exact dO (decide_eq_decide.2 (by omega)))
  | exact H.rt (by unfold uK;rw [show r.cells.take k=r.cells from iX (by omega)] at hno;rw [hno,Option.isSome_none,Bool.and_false])
theorem xU:prog.underlying 57=some (.slice 4):=by kernel_rfl
theorem adO:prog.underlying 4=some .bool:=by kernel_rfl
abbrev CX (b:Bool):List Dat:=[.lf (.bool b)]
theorem X9 (G:GH) (b:Bool):aR G (CX b) [.bool b]:=by simp [aR,av,Value.oneCell']
theorem X8 {G:GH} {A:List Bool} {B:Option Addr} {n c k:Nat} (hv:av G (.sl 1 (A.map CX)) (.slice B n c)) (hk:k < A.length):∃ b o,B=some ⟨b,o,none⟩∧aI G b (o+k*1)=some (.bool A[k]):=by
 obtain ⟨b,o,cs,h1,h2,h3,h4⟩:=hv.at_ k (CX A[k]) (by simp [hk])
 simp only [aR] at h4
 obtain ⟨_,_,rfl,⟨rfl,-⟩,rfl⟩:=h4;exact ⟨b,o,h1,by simpa using h3 0 _ rfl⟩
theorem ajq:∀ args w,(callFunc 85 args).run prog w=.ok (.enter 85 args) w:=enters func85 rfl (by kernel_rfl)
theorem Y5:∀ args w,(callFunc 146 args).run prog w=.ok (.enter 146 args) w:=enters func146 rfl (by kernel_rfl)
theorem ZK {α:Type} {A:List α} {p:α→Bool} {k:Nat} (hk:k < A.length):((A.take (k+1)).filter p).length=((A.take k).filter p).length+if p A[k]=true then 1 else 0:=by
 rw [iH hk,List.filter_append,iN]
 by_cases h:p A[k]=true
 ·simp [h]
 simp [h]
theorem ajZ {α:Type} {A:List α} {p:α→Bool} {k:Nat} (hk:k < A.length) (h:p A[k]=true):(A.filter p)[((A.take k).filter p).length]?=some A[k]:=by
 have e:A.filter p=(A.take k).filter p++(A.drop k).filter p:=by rw [← List.filter_append,List.take_append_drop]
 rw [e,sW (bL _),Nat.sub_self,oh hk,List.filter_cons,au h]
 rfl
def Jz (a:(Int × Int) × ay):Bool:=decide (a.2.kind=7)
def qQ (l:List ay):List ((Int × Int) × ay):=(nJ 0 0 l).filter Jz
set_option maxHeartbeats 1000000 in
theorem asb {G:GH} {bd:Nat} {D:jM} {l:List ay} (hb:G bd=some (.cells D.cells.toArray 38 (0,0))) (hv:av G (.sl 11 (l.map ay.dat)) (cK D.f)) (hz:bV l≤4294967296) :
  Iter prog G (.func (.func 146) #[] #[(aK bd 0)]) ((qQ l).map wN):=by
 intro J Jx fv G1 L w0 GI hGi om hJx hJ hO hcb;refine jI (caps:=[(aK bd 0)]) Y5 ?_;have hfl:aI G1 bd 0=some (cK D.f):=aJ hGi (by unfold aI;rw [hb];rfl);refine iY (N:=20) (T:=[(0,_),(1,_)]) func146 rfl ntmps146 rfl rfl hO ?_;intro a H;refine bZ (fun _ K1=>?_);refine dZ (cs:=[fv]) H wn rfl GI rfl ?_;clear H;intro b2 a w hb2 H;refine K1 _ _ ?_;clear K1;refine kP H (SR fun _ K2=>Rf wo rfl (Rg kg rfl (by assumption) ?_));clear H;intro a H;refine s_call R3 H wn rfl (apf _ _ H.ro l 0 _ hz (hv.mono hGi)) rfl ?_;clear H;rintro v7 G7 a w ⟨bl,bi,rfl,hit⟩ AB H;refine K2 _ _ ?_;clear K2;refine wY ?_;skip;refine FP (ι:=OL) (κ:=OL) (Lc:=[(_,_)]) (fun (k:Nat) (gh:OL)=>[]) (fun (k:Nat) (gh:OL)=>gh) (fun (k:Nat) (gh:OL) (g:GH)=>J ((((nJ 0 0 l).take k).filter Jz).length) g gh) (fun (gx:OL)=>Code.ret) (fun (gx:OL)=>[]) (fun (gx:OL)=>gx) (fun (gx:OL) (g:GH)=>Jx g gx) (L) (by exact H) rfl Od (hit) (fun _ _ h=>h) rfl (fun k args g h=>by obtain ⟨_,_,rfl,_⟩:=zK h;rfl) (fun k i G G' hm h=>om _ _ _ _ hm h) (fun x G G' hm h=>hJx _ _ _ hm h) (om _ _ _ _ AB hJ) ?_ ?_ ?_
 ·clear H;intro l2 yT vY bk k args qD G2 w2 F2 B2 a hk2 hm2 hI Ud OY UU H;obtain ⟨hk,KG,rfl,uD⟩:=zK hk2;obtain ⟨aA,an,ac,bA,bn,bc,KI,KP,KN,KQ,KU,KR,Mr,Mv,Ms,rfl,-⟩:=uD.item;dsimp only [uW,List.cons_append,List.nil_append] at H;refine bZ (fun _ K3=>?_);refine dB sP H wn rfl ?_;clear H;intro b3 a w hb3 H;refine aY sP 0 (vs:=[_,_]) _ H wn rfl rfl rfl rfl rfl rfl rfl rfl ?_;clear H;intro w H;dsimp only [List.set,setRow] at H;refine K3 _ _ ?_;clear K3;refine mP ?_;refine dB dL H wn rfl ?_;clear H;intro b4 a w hb4 H;refine aY dL 0 (vs:=[_,_,_,_,_,_,_,_,_,_,_]) _ H wn rfl rfl rfl rfl rfl rfl rfl rfl ?_;clear H;intro w H;dsimp only [List.set,setRow] at H;refine aD ?_;refine Ud _ _ _ _ _ _ (by exact H.dG (Pl:=[_,_,_,_]) (cZ:=[_,_,_,_]) [2,0,1,3] (by decide) rfl) ?_;clear H;intro w H;refine kP H (SB (SR fun _ K4=>bG kG aH 1 rfl rfl (Rc rfl (Rm rfl (Sp 13 rfl ?_ ?_))))) <;> clear H
  ·intro fD a H
   refine kH H (YO Ib 3 fD rfl ?_);clear H;intro a H;refine bB sP (cs:=[_,_]) H (wg H rfl rfl fD) rfl rfl (H.hp.bU 2 rfl rfl) rfl ?_;clear H;intro a H;refine bB dL (cs:=[_,_,_,_,_,_,_,_,_,_,_]) H (wg H rfl rfl fD) rfl rfl (H.hp.bU 1 rfl rfl) rfl ?_;clear H;intro a H;refine vM (Li:=[_,_,_,_]++bk) (L:=qD) (St.un (A:=[_,_,_,_]) H) (wg H rfl rfl fD) rfl rfl (hcb ((((nJ 0 0 l).take k).filter Jz).length) _ _ _ _ ⟨wN (nJ 0 0 l)[k],by unfold qQ;rw [pE,ajZ hk (show Jz _=true from jB (by simpa using fD))];rfl,_,rfl,uD⟩ (fun b o h=>hm2 b o (AB b o h)) hI (Hp.owns (Li:=[_,_,_,_]++bk) (St.un (A:=[_,_,_,_]) H).hp)) rfl ?_;clear H;rintro v17 xX XJ a w ⟨b17,rfl,hb1,hb2⟩ rD H
   simp only [iI,lD,lK] at H
   refine kH H (YN fD rfl (Pt fD rfl (Kz K4 (Cd rfl ?_ ?_)))) <;> clear H K4
   ·intro h19 a H
    refine bS ?_;refine (UU (XJ) _ _ _ _ _ (by exact H.dG (Pl:=[_,_,_,_]) (cZ:=[_,_]) [0,3] (by decide) rfl) ?_).1 rfl;exact hb2 (by simpa using h19)
   intro h19 a H
   refine fZ ?_;refine OY (XJ) _ _ _ _ _ (by exact H.dG (Pl:=[_,_,_,_]) (cZ:=[_,_]) [0,3] (by decide) rfl) ?_;rw [ZK hk,au (show Jz _=true from jB (by simpa using fD))];exact hb1 (by simpa using h19)
  intro fD a H
  try have qp:=dF fD
  refine kH H (bD fD rfl (aP fD rfl (Pf fD rfl (Kz K4 (Cf rfl rfl ?_)))));clear H K4;intro a H;refine fZ ?_;refine OY (qD) _ _ _ _ _ (by exact H.dG (Pl:=[_,_,_,_]) (cZ:=[_,_]) [0,3] (by decide) rfl) ?_;rw [ZK hk,ah (show ¬ Jz _=true from fun h=>qp (mM h)),qh];exact hI
 ·clear H;intro QE qD QL a w hm2 hI H;dsimp only [lca,bq] at H;refine (AY H 0 rfl ?_).2;clear H;intro a w H;dsimp only [List.eraseIdx_cons_succ,List.eraseIdx_cons_zero] at H;refine (leave0 H results146 ?_).1
  first
   | exact H.hp.gB (L':=Lx) (by repeat (first|exact fT _|apply List.Sublist.cons)) (.inr hI)
   | exact H.hp.gB (L':=qD) (by repeat (first|exact fT _|apply List.Sublist.cons)) (.inl (by rw [aZ,tX] at hI;rw [aZ,qQ];exact hI))
 clear H;intro QE Lx QL a w hm2 hI H;dsimp only [lca,bq] at H;refine bS ?_;refine (AY H 0 rfl ?_).1;clear H;intro a w H;dsimp only [List.eraseIdx_cons_succ,List.eraseIdx_cons_zero] at H;refine (leave0 H results146 ?_).1
 first
  | exact H.hp.gB (L':=Lx) (by repeat (first|exact fT _|apply List.Sublist.cons)) (.inr hI)
  | exact H.hp.gB (L':=qD) (by repeat (first|exact fT _|apply List.Sublist.cons)) (.inl (by rw [aZ,tX] at hI;rw [aZ,qQ];exact hI))
theorem asc (G:GH) (w0:World) (hG:Hold G w0) (D:jM) (l:List ay) (hv:av G (.sl 11 (l.map ay.dat)) (cK D.f)) (hz:bV l≤4294967296) :
  Calls prog 85 #[D.val] w0 (bH w0 G fun v G'=>∃ bd,v=.func (.func 146) #[] #[(aK bd 0)]∧Iter prog G' v ((qQ l).map wN)):=by
 refine eN [(0,_)] func85 rfl ntmps85 rfl rfl hG ?_;intro a H;refine bZ (fun _ K1=>?_);refine dZ (cs:=[_,_,_,_,_,_,_,_,_,_,_]) H wn rfl rfl rfl ?_;clear H;intro b1 a w hb1 H;refine kH H (ak K1 rfl (SR fun _ K2=>?_));clear H K1;intro a H;refine oQ H wn rfl rfl ?_;clear H;intro a H;refine kH H (ak K2 rfl ?_);clear H K2;intro a H;refine bS ?_;obtain ⟨G2,hm2,hb2,H⟩:=H.eH;refine lv H results85 rfl ?_;exact H.rt ⟨b1,rfl,asb hb2 (hv.mono hm2) hz⟩
def J5:ay:=.mk 0 0 0 ⟨#[]⟩ ⟨[],⟨0,0,[],[]⟩⟩ [] []
def qR (l:List ay) (id:Int):Option ay:=((qQ l).find? fun a=>decide (a.2.id=id)).map (·.2)
theorem asa {l:List ay} {a:(Int × Int) × ay} (h:a∈qQ l):a∈nJ 0 0 l:=(List.mem_filter.1 h).1
set_option maxHeartbeats 1000000 in
theorem RS (G:GH) (w0:World) (hG:Hold G w0) (D:jM) (l:List ay) (id:Int) (hv:av G (.sl 11 (l.map ay.dat)) (cK D.f)) (hz:bV l≤4294967296) (hsz:∀ a∈qQ l,bT a.2.dat≤4294967290) :
  Calls prog 33 #[D.val,vi id] w0 (bH w0 G fun u G'=>∃ cs,u=.tuple #[.agg cs.toArray,.bool (qR l id).isSome]∧aR G' ((qR l id).getD J5).dat cs):=by
 refine eN [(0,_),(1,_)] func33 rfl ntmps33 rfl rfl hG ?_;intro a H;refine bZ (fun _ K1=>?_);refine dZ (cs:=[_,_,_,_,_,_,_,_,_,_,_]) H wn rfl rfl rfl ?_;clear H;intro b2 a w hb2 H;refine dZ (cs:=[_]) H wn rfl rfl rfl ?_;clear H;intro b3 a w hb3 H;refine dB dL H wn rfl ?_;clear H;intro b4 a w hb4 H;refine dB pV H wn rfl ?_;clear H;intro b5 a w hb5 H;refine K1 _ _ ?_;clear K1;refine bN (fun _ K2=>?_);refine bZ (fun _ K3=>?_);refine bB ko (cs:=[_,_,_,_,_,_,_,_,_,_,_]) H wn rfl rfl (H.hp.bU 3 rfl rfl) rfl ?_;clear H;intro a H;refine s_call ajq H wn rfl (asc _ _ H.ro D l hv hz) rfl ?_;clear H;rintro v9 G9 a w ⟨bd,rfl,hit⟩ yM H;refine K3 _ _ ?_;clear K3;refine wY ?_;skip;refine FP (ι:=Unit) (κ:=List aj) (Lc:=[(_,_),(_,_)]) (fun (k:Nat) (gh:Unit)=>[(b4,.cells #[vi 0,vi 0,vi 0,.string ⟨#[]⟩,.slice none 0 0,vi 0,vi 0,.slice none 0 0,.slice none 0 0,.slice none 0 0,.slice none 0 0] 68 (0,0)),(b5,.cells #[.bool false] 4 (0,0))]) (fun (k:Nat) (gh:Unit)=>[]) (fun (k:Nat) (gh:Unit) (g:GH)=>((qQ l).take k).find? (fun a=>decide (a.2.id=id))=none) (fun (gx:List aj)=>Code.ret) (fun (gx:List aj)=>[(b4,.cells gx.toArray 68 (0,0)),(b5,.cells #[.bool true] 4 (0,0))]) (fun (gx:List aj)=>[]) (fun (gx:List aj) (g:GH)=>∃ x,qR l id=some x∧aR g x.dat gx) (()) (by exact H.dG (Pl:=[_,_,_,_]) (cZ:=[_,_,_,_]) [2,3,1,0] (by decide) rfl) rfl Y5 (hit) (fun _ _ h=>h) rfl (fun k args g h=>by obtain ⟨_,_,rfl,_⟩:=zK h;rfl) (fun _ _ _ _ _ h=>h) (fun x G G' hm h=>let ⟨f,h1,h2⟩:=h;⟨f,h1,h2.mono hm⟩) (rfl) ?_ ?_ ?_
 ·clear H;intro l2 yT vY bk k args gh G2 w2 F2 B2 a hk2 hm2 hI Ud OY UU H;obtain ⟨hk,KG,rfl,uD⟩:=zK hk2;obtain ⟨aA,an,ac,bA,bn,bc,KI,KP,KN,KQ,KU,KR,Mr,Mv,Ms,rfl,-⟩:=uD.item;dsimp only [uW,List.cons_append,List.nil_append] at H;refine mP ?_;refine dB dL H wn rfl ?_;clear H;intro b7 a w zC H;refine aY dL 0 (vs:=[_,_,_,_,_,_,_,_,_,_,_]) _ H wn rfl rfl rfl rfl rfl rfl rfl rfl ?_;clear H;intro w H;dsimp only [List.set,setRow] at H;refine aD ?_;refine Ud _ _ _ _ _ _ (by exact H.dG (Pl:=[_,_,_,_,_,_]) (cZ:=[_,_,_,_,_,_]) [1,0,2,3,4,5] (by decide) rfl) ?_;clear H;intro w H;refine kP H (SB (SR fun _ K4=>bG I8 aH 1 rfl rfl (Ro aH 2 rfl (Rc rfl (Kz K4 (Cd rfl ?_ ?_)))))) <;> clear H K4
  ·intro iD a H
   try have pR:=dT iD
   refine bZ (fun _ K5=>?_);refine bB dL (cs:=[_,_,_,_,_,_,_,_,_,_,_]) H wn rfl rfl (H.hp.bU 1 rfl rfl) rfl ?_;clear H;intro a H;refine ig jk dL [_,_,_,_,_,_,_,_,_,_,_] [_,_,_,_,_,_,_,_,_,_,_] H wn rfl rfl rfl rfl rfl (by intro i q h;match i,h with|0,h=>exact h|n+1,h=>simp at h) rfl rfl ?_;clear H;intro b17 a w LM H;obtain ⟨xX,rD,amy,H⟩:=H.ZV (sz:=11) (d:=(qQ l)[k].2.dat) rfl uD;refine s_call Og H wn rfl (agv _ _ H.ro [(qQ l)[k].2] _ amy (by have h1:=hsz _ (kN hk);show 1+bT (qQ l)[k].2.dat+0≤_;omega)) rfl ?_;clear H;rintro v18 QF a w Dr hm18 H;obtain ⟨WY,n18,c18,rfl⟩:=Dr.form;obtain rfl:n18=1:=Dr.len;obtain ⟨b,o,agH,rfl,atY,amE,aaR⟩:=Dr.at_ 0 (qQ l)[k].2.dat rfl;obtain ⟨pA,pn,pc,dA,dn,dc,yA,yn,yc,fA,fn,fc,rA,rn,rc,Ui,-⟩:=aaR.item;refine vN jk dL 0 H wn rfl rfl rfl (by omega) rfl ?_;clear H;intro a H;refine bB dL (cs:=agH) H wn rfl (by rw [Ui];rfl) (fun j v hj=>H.hp.aI (amE j v hj)) rfl ?_;clear H;intro a H;rw [Ui] at H;refine aY dL 4 (vs:=[_,_,_,_,_,_,_,_,_,_,_]) _ H wn rfl rfl rfl rfl rfl rfl rfl rfl ?_;clear H;intro w H;dsimp only [List.set,setRow] at H;refine aY pV 5 (vs:=[_]) _ H wn rfl rfl rfl rfl rfl rfl rfl rfl ?_;clear H;intro w H;dsimp only [List.set,setRow] at H;refine K5 _ _ ?_;clear K5;refine bS ?_;refine (UU ([vi (qQ l)[k].2.kind,vi (qQ l)[k].2.code,vi (qQ l)[k].2.id,.string (qQ l)[k].2.text,.slice pA pn pc,vi (qQ l)[k].2.head.marks.ins,vi (qQ l)[k].2.head.marks.move,.slice dA dn dc,.slice yA yn yc,.slice fA fn fc,.slice rA rn rc]) _ _ _ _ _ (by exact H.dG (Pl:=[_,_,_,_,_,_]) (cZ:=[_,_,_,_,_]) [0,2,3,4,5] (by decide) rfl) ?_).1 rfl;exact ⟨_,by unfold qR;rw [akh hk hI iD];rfl,Ui ▸ aaR⟩
  intro iD a H
  refine fZ ?_;refine OY (()) _ _ _ _ _ (by exact H.dG (Pl:=[_,_,_,_,_,_]) (cZ:=[_,_,_,_,_]) [0,2,3,4,5] (by decide) rfl) ?_;exact akg hk hI iD
 ·clear H;intro QE gh QL a w hm2 hI H;dsimp only [lca,bq] at H;refine K2 _ _ ?_;clear K2;refine bZ (fun _ K6=>?_);refine jv Qg [_,_,_,_,_,_,_,_,_,_,_] H wn rfl rfl rfl rfl ?_;clear H;intro a H;refine aY dL 3 (vs:=[_,_,_,_,_,_,_,_,_,_,_]) _ H wn rfl rfl rfl rfl rfl rfl rfl rfl ?_;clear H;intro w H;dsimp only [List.set,setRow] at H;refine aY pV 4 (vs:=[_]) _ H wn rfl rfl rfl rfl rfl rfl rfl rfl ?_;clear H;intro w H;dsimp only [List.set,setRow] at H;refine K6 _ _ ?_;clear K6;refine bS ?_;refine (AY H 0 rfl ?_).1;clear H;intro a w H;dsimp only [List.eraseIdx_cons_succ,List.eraseIdx_cons_zero] at H;refine (eZ H results33 (.cons (ng dL (cs:=[_,_,_,_,_,_,_,_,_,_,_]) H rfl rfl (H.hp.bU 2 rfl rfl)) (.cons (Bc pV H rfl (H.hp.qM 3 rfl rfl)) .nil)) ?_).1
  have hn:qR l id=none:=by unfold qR;rw [ake (by simpa using hI)];rfl
  exact H.rt ⟨_,by rw [hn];rfl,by rw [hn];exact aR.mkItem (x:=J5) ⟨av.iL rfl (by decide),av.iL rfl (by decide),av.iL rfl (by decide)⟩ (av.iL rfl (by decide)) (av.iL rfl (by decide))⟩
 clear H;intro QE cs QL a w hm2 hI H;dsimp only [lca,bq] at H;obtain ⟨x,hx,hrep⟩:=hI;obtain ⟨pA,pn,pc,dA,dn,dc,yA,yn,yc,fA,fn,fc,rA,rn,rc,rfl,-⟩:=hrep.item;refine bS ?_;refine (AY H 0 rfl ?_).1;clear H;intro a w H;dsimp only [List.eraseIdx_cons_succ,List.eraseIdx_cons_zero] at H;refine (eZ H results33 (.cons (ng dL (cs:=[_,_,_,_,_,_,_,_,_,_,_]) H rfl rfl (H.hp.bU 2 rfl rfl)) (.cons (Bc pV H rfl (H.hp.qM 3 rfl rfl)) .nil)) ?_).1;exact H.rt ⟨_,by rw [hx];rfl,by rw [hx];exact hrep⟩
abbrev oH (n:Nat) (L:List ((Int × Int) × ay)):Prop:=∀ a∈L,bT a.2.dat≤n
theorem oH.nil (n:Nat):oH n []:=fun _ h=>by cases h
theorem oH.mono {n m:Nat} {L:List ((Int × Int) × ay)} (h:oH n L) (hn:n≤m):oH m L:=fun a ha=>Nat.le_trans (h a ha) hn
theorem oH.append {n:Nat} {A B:List ((Int × Int) × ay)} (h:oH n A) (g:oH n B):oH n (A++B):=fun a ha=>(oJ.1 ha).elim (h a) (g a)
theorem oH.cons {n:Nat} {x:(Int × Int) × ay} {B:List ((Int × Int) × ay)} (h:bT x.2.dat≤n) (g:oH n B):oH n (x :: B):=fun a ha=>by
 rcases kL.1 ha with rfl|ha
 ·exact h
 exact g a ha
mutual
theorem apq (f t:Int):∀ x:ay,oH (bT x.dat) (MF f t x)
 | .mk k c i tx h fl r=>by
  have h4:=tN (.mk k c i tx h fl r);have hf:=PU i 0 fl;have hr:=acC r;dsimp only [ay.text,ay.head,ay.flow,ay.rows] at h4;rw [MF]
  split
  ·exact oH.cons (bL _) (hf.mono (by omega))
  split
  ·exact oH.cons (bL _) (hr.mono (by omega))
  exact oH.nil _
theorem PU (f:Int):∀ (t:Int) (l:List ay),oH (bV l) (nJ f t l)
 | _,[]=>by rw [nJ];exact oH.nil _
 | t,x :: l=>by
  have h1:=apq f t x;have h2:=PU f (t+uT x) l;rw [nJ]
  simp only [bV,fO,dV] at *
  exact (h1.mono (by omega)).append (h2.mono (by omega))
theorem apr:∀ x:aS,oH (bT x.dat) (MG x)
 | .mk h cs=>by
  have h4:=zW (.mk h cs);have hc:=acB cs;dsimp only [aS.head,aS.cells] at h4;rw [MG];exact hc.mono (by omega)
theorem acC:∀ l:List aS,oH (gD l) (EZ l)
 | []=>by rw [EZ];exact oH.nil _
 | x :: l=>by
  have h1:=apr x;have h2:=acC l;rw [EZ]
  simp only [gD,fO,dV] at *
  exact (h1.mono (by omega)).append (h2.mono (by omega))
theorem apo:∀ x:aT,oH (bT x.dat) (JI x)
 | .mk i h f=>by
  have h4:=Bt (.mk i h f);have hf:=PU i 0 f;dsimp only [aT.head,aT.flow] at h4;rw [JI];exact hf.mono (by omega)
theorem acB:∀ l:List aT,oH (iR l) (lI l)
 | []=>by rw [lI];exact oH.nil _
 | x :: l=>by
  have h1:=apo x;have h2:=acB l;rw [lI]
  simp only [iR,fO,dV] at *
  exact (h1.mono (by omega)).append (h2.mono (by omega))
end
theorem Qm {l:List ay} {a:(Int × Int) × ay} (h:a∈qQ l):bT a.2.dat≤bV l:=PU 0 0 l a (asa h)
theorem Sj:∀ args w,(callFunc 33 args).run prog w=.ok (.enter 33 args) w:=enters func33 rfl (by kernel_rfl)
abbrev wP (l:List ay) (id:Int):ay:=(qR l id).getD J5
theorem Wv (l:List ay) (id:Int):gD (wP l id).rows≤bV l:=by
 unfold wP qR
 cases h:(qQ l).find? (fun a=>decide (a.2.id=id)) with
 | none=>exact gY _
 | some a =>
  have h1:=Qm (List.mem_of_find?_eq_some h);have h2:=tN a.2
  show gD a.2.rows≤_
  omega
theorem apL (G:GH) (w0:World) (hG:Hold G w0) (D:jM) (d:jA) (hR:oD G D d) (hz:bV d.flow≤1073741824) (id:Int) :
  Calls prog 31 #[D.val,vi id] w0 (bH w0 G fun u G'=>∃ v,u=.tuple #[v,vi (if (qR d.flow id).isSome then 0 else 8)]∧av G' (.sl 1 (((wP d.flow id).rows.map uK).map CX)) v):=by
 have hts:=Wv d.flow id;obtain ⟨T,hT⟩:∃ T,T=wP d.flow id:=⟨_,rfl⟩;have hrl:=D6 T.rows;rw [← hT] at hts ⊢
 have hml:4294967297≤maxLen:=by decide
 refine eN [(0,_),(1,_)] func31 rfl ntmps31 rfl rfl hG ?_;intro a H;refine bZ (fun _ K1=>?_);refine dZ (cs:=[_,_,_,_,_,_,_,_,_,_,_]) H wn rfl rfl rfl ?_;clear H;intro b2 a w hb2 H;refine kH H (Ra rfl (ak K1 rfl (SR fun _ K2=>?_)));clear H K1;intro a H;refine bB ko (cs:=[_,_,_,_,_,_,_,_,_,_,_]) H wn rfl rfl (H.hp.bU 0 rfl rfl) rfl ?_;clear H;intro a H;refine kH H (Rm rfl ?_);clear H;intro a H;refine s_call Sj H wn rfl (RS _ _ H.ro D d.flow id hR.fl (by omega) (fun a ha=>Nat.le_trans (Qm ha) (by omega))) rfl ?_;clear H;rintro v14 ze a w ⟨atu,rfl,abh⟩ Cb H;rw [show (qR d.flow id).getD J5=T from hT.symm] at abh;obtain ⟨pA,pn,pc,dA,dn,dc,yA,yn,yc,fA,fn,fc,rA,rn,rc,rfl,hh,-,EP⟩:=abh.item;obtain ⟨rA',rc',e,hc1,hc2,hg⟩:=EP.slice
 injection e with e1 e2 e3
 rw [aZ] at e2 hc1;subst e1 e2 e3;refine kH H (Rm rfl ?_);clear H;intro a H;(iterate 2 refine lS H wn rfl rfl rfl ?_;clear H;intro a H);refine dB dL H wn rfl ?_;clear H;intro b6 a w hb6 H;refine aY dL 0 (vs:=[_,_,_,_,_,_,_,_,_,_,_]) _ H wn rfl rfl rfl rfl rfl rfl rfl rfl ?_;clear H;intro w H;dsimp only [List.set,setRow] at H;refine kH H (ak K2 rfl (SQ fun _ K3=>SR fun _ K4=>Rm rfl (Rn rfl (Kz K4 (Cd rfl ?_ ?_))))) <;> clear H K2 K4
 ·intro h18 a H
  try have tL:=dT h18
  refine kP H (SR fun _ K5=>Ra rfl (ak K5 rfl ?_));clear H K5;intro a H;refine bS ?_;refine (eZ H results31 (.cons (aV H rfl) (.cons (aV H rfl) .nil)) ?_).1
  first
   | exact H.rt ⟨_,by rw [au (by simp_all)],hrep⟩
   | exact H.rt ⟨_,by rw [ah (by simp_all)],by rw [show T.rows=[] by rw [hT];unfold wP;rw [show qR d.flow id=none by simp_all];rfl];exact av.iL rfl (by decide)⟩
 intro h18 a H
 try have tL:=dF h18
 refine kP H (Kc K3 (SR fun _ K6=>ak K6 rfl (SQ fun _ K7=>SR fun _ K8=>bG oL oV 0 rfl rfl (Rl kT rfl (Rm rfl (Kz K8 (SB ?_)))))));clear H K3 K6 K8;intro a H;skip;refine fH (ι:=Nat × aj × List aj × OL × GH) (Tc:=[(20,_),(21,_)]) (Lc:=[(_,_),(_,_)]) (fun gh=>[(8,gh.2.1),(22,vi gh.1)]) (fun gh=>[]++gh.2.2.2.1) (fun gh=>gh.2.2.2.2) (fun gh=>gh.1≤T.rows.length∧bY 4 1 gh.2.1 gh.1 gh.2.2.1 gh.2.2.2.1∧bR gh.2.2.2.2 1 (((T.rows.take gh.1).map uK).map CX) gh.2.2.1∧(∀ b o,ze b=some o→gh.2.2.2.2 b=some o)) (fun gh=>T.rows.length - gh.1) ((0,.slice none 0 0,[],[],ze)) (by exact (H).sub ⟨rfl,rfl,rfl,rfl,aC⟩) ?_ ?_
 ·exact ⟨by omega,bY.nil,bR.nil,fun _ _ h=>h⟩
 clear H;rintro ⟨k,v,xs,Lo,g⟩ a w hI H;dsimp only at hI H;obtain ⟨hk,hrw,dP,hgm⟩:=hI;dsimp only [lca,bq] at H;refine kP H (SR fun _ K9=>Rc rfl (Kz K9 (SQ fun _ aW=>Cd rfl ?_ ?_))) <;> clear H K9
 ·intro h23 a H
  try have vJ:=dT h23
  have hk2:k < T.rows.length:=by omega
  obtain ⟨b2,o2,cs2,rfl,OE,hrow,hrep⟩:=hg k T.rows[k].dat (by simp [hk2]);obtain ⟨a1,a2,a3,a4,a5,a6,a7,a8,a9,Eo,IJ,Kw,rfl,-⟩:=hrep.row;replace hrow:=fun j u hj=>aJ hgm (hrow j u hj);refine kP H (Kc aW (SQ fun _ bO=>SB (SR fun _ bW=>Ri kT iW rfl rfl ?_)));clear H aW;intro a H;refine bB iW (cs:=[.slice a1 a2 a3,vi T.rows[k].head.marks.ins,vi T.rows[k].head.marks.move,.slice a4 a5 a6,.slice a7 a8 a9,.slice Eo IJ Kw]) H wn rfl rfl (fun j v hj=>H.hp.aI (hrow j v hj)) rfl ?_;clear H;intro a H;refine dB iW H wn rfl ?_;clear H;intro b10 a w TV H;refine aY iW 0 (vs:=[_,_,_,_,_,_]) _ H wn rfl rfl rfl rfl rfl rfl rfl rfl ?_;clear H;intro w H;dsimp only [List.set,setRow] at H;refine bW _ _ ?_;clear bW;refine kP H (SC (Rm rfl ?_));clear H;intro a H;refine bB iW (cs:=[_,_,_,_,_,_]) H wn rfl rfl (H.hp.bU 0 rfl rfl) rfl ?_;clear H;intro a H;refine s_call ajp H wn rfl (aqW _ _ H.ro T.rows[k] _ (hrep.mono hgm)) rfl ?_;clear H;rintro v28 J9 a w rfl EH H;refine ig xU pV [_] [_] H wn rfl rfl rfl rfl rfl (by intro i q h;match i,h with|0,h=>exact h|n+1,h=>simp at h) rfl rfl ?_;clear H;intro b29 a w atI H;refine nk (Li:=[_,_,_,_]) (Lo:=Lo) (news:=[.bool (uK T.rows[k])]) xU pV rfl rfl H wn rfl rfl hrw rfl (H.hp.bU 0 rfl rfl) rfl (by omega) (by omega) rfl ?_;clear H;intro v30 aeE a w amJ H;refine kH H (bC bO rfl (SC (Rd rfl (Rm rfl ?_))));clear H bO;intro a H;refine aD ?_;refine dM ((k+1,v30,xs++[.bool (uK T.rows[k])],aeE,_)) (by exact (H.dG (Pl:=[_,_,_,_]) (cZ:=[_,_]) [2,3] (by decide) rfl).sub ⟨rfl,rfl,rfl,rfl,aC⟩) ?_
  (try dsimp only);exact ⟨by omega,amJ,by rw [iH hk2,kY,kY];exact (dP.mono EH).snoc (X9 _ _) rfl,fun b o h=>EH b o (hgm b o h)⟩
 intro h23 a H
 try have vJ:=dF h23
 obtain rfl:k=T.rows.length:=by omega
 rw [tX] at dP;obtain ⟨Gr,hmr,hrep,H⟩:=St.nQ (Li:=[_,_]) H hrw (rows:=(T.rows.map uK).map CX) (by simp) dP;refine eu ?_;refine K7 _ _ ?_;clear K7;refine kP H (SR fun _ cB=>Rm rfl (Ra rfl (ak cB rfl ?_)));clear H cB;intro a H;refine bS ?_;refine (eZ H results31 (.cons (aV H rfl) (.cons (aV H rfl) .nil)) ?_).1
 first
  | exact H.rt ⟨_,by rw [au (by simp_all)],hrep⟩
  | exact H.rt ⟨_,by rw [ah (by simp_all)],by rw [show T.rows=[] by rw [hT];unfold wP;rw [show qR d.flow id=none by simp_all];rfl];exact av.iL rfl (by decide)⟩
def Ac (T:ay) (row:Int):List Bool:=if 0≤row∧row < T.rows.length then ((T.rows[row.toNat]?.map aS.cells).getD []).map fun c=>qz c.head else []
theorem KE {T:ay} {q:Nat} (h:q < T.rows.length):Ac T (q:Int)=T.rows[q].cells.map fun c=>qz c.head:=by
 unfold Ac
 rw [au ⟨by omega,by omega⟩,Int.toNat_natCast,eD h];rfl
theorem Ad {T:ay} {row:Int} (h:row < 0∨(T.rows.length:Int)≤row):Ac T row=[]:=ah fun hh=>by omega
theorem apK (G:GH) (w0:World) (hG:Hold G w0) (D:jM) (d:jA) (hR:oD G D d) (hz:bV d.flow≤1073741824) (id row:Int) :
  Calls prog 32 #[D.val,vi id,vi row] w0 (bH w0 G fun u G'=>∃ v,u=.tuple #[v,vi (if (qR d.flow id).isSome then (if row < 0∨((wP d.flow id).rows.length:Int)≤row then 2 else 0) else 8)]∧av G' (.sl 1 ((Ac (wP d.flow id) row).map CX)) v):=by
 have hts:=Wv d.flow id;obtain ⟨T,hT⟩:∃ T,T=wP d.flow id:=⟨_,rfl⟩;have hrl:=D6 T.rows;rw [← hT] at hts ⊢
 have hml:4294967297≤maxLen:=by decide
 refine eN [(0,_),(1,_),(2,_)] func32 rfl ntmps32 rfl rfl hG ?_;intro a H;refine bZ (fun _ K1=>?_);refine dZ (cs:=[_,_,_,_,_,_,_,_,_,_,_]) H wn rfl rfl rfl ?_;clear H;intro b3 a w hb3 H;refine kH H (Ra rfl (ak K1 rfl (SR fun _ K2=>?_)));clear H K1;intro a H;refine bB ko (cs:=[_,_,_,_,_,_,_,_,_,_,_]) H wn rfl rfl (H.hp.bU 0 rfl rfl) rfl ?_;clear H;intro a H;refine kH H (Rm rfl ?_);clear H;intro a H;refine s_call Sj H wn rfl (RS _ _ H.ro D d.flow id hR.fl (by omega) (fun a ha=>Nat.le_trans (Qm ha) (by omega))) rfl ?_;clear H;rintro v16 nL a w ⟨atv,rfl,hx16⟩ lH H;rw [show (qR d.flow id).getD J5=T from hT.symm] at hx16;obtain ⟨pA,pn,pc,dA,dn,dc,yA,yn,yc,fA,fn,fc,rA,rn,rc,rfl,hh,-,EP⟩:=hx16.item;obtain ⟨rA',rc',e,hc1,hc2,hg⟩:=EP.slice
 injection e with e1 e2 e3
 rw [aZ] at e2 hc1;subst e1 e2 e3;refine kH H (Rm rfl ?_);clear H;intro a H;(iterate 2 refine lS H wn rfl rfl rfl ?_;clear H;intro a H);refine dB dL H wn rfl ?_;clear H;intro b8 a w Gy H;refine aY dL 0 (vs:=[_,_,_,_,_,_,_,_,_,_,_]) _ H wn rfl rfl rfl rfl rfl rfl rfl rfl ?_;clear H;intro w H;dsimp only [List.set,setRow] at H;refine kH H (ak K2 rfl (SQ fun _ K3=>SB (SR fun _ K4=>Rm rfl (Rn rfl (ak K4 rfl (Cd rfl ?_ ?_)))))) <;> clear H K2 K4
 ·intro h19 a H
  try have sO:=dT h19
  refine kP H (SR fun _ K5=>Ra rfl (ak K5 rfl ?_));clear H K5;intro a H;refine bS ?_;refine (eZ H results32 (.cons (aV H rfl) (.cons (aV H rfl) .nil)) ?_).1
  first
   | exact H.rt ⟨_,by rw [au (by simp_all),ah (by omega)],by rw [KE hq];exact hrep⟩
   | exact H.rt ⟨_,by rw [ah (by simp_all)],by rw [show Ac T row=[] by refine Ad ?_;rw [show T.rows=[] by rw [hT];unfold wP;rw [show qR d.flow id=none by simp_all];rfl];simp only [List.length_nil];omega];exact av.iL rfl (by decide)⟩
   | exact H.rt ⟨_,by rw [au (by simp_all),au (by omega)],by rw [Ad (by omega)];exact av.iL rfl (by decide)⟩
 intro h19 a H
 try have sO:=dF h19
 refine kP H (SR fun _ K6=>Rm rfl (Rc rfl (Rm rfl (Sp 25 rfl ?_ ?_)))) <;> clear H
 ·intro gX a H
  try have p25:=dT gX
  refine kH H (bD gX rfl (aP gX rfl (Pt gX rfl (ak K6 rfl (Ct rfl rfl (SR fun _ K7=>Ra rfl (ak K7 rfl ?_)))))));clear H K6 K7;intro a H;refine bS ?_;refine (eZ H results32 (.cons (aV H rfl) (.cons (aV H rfl) .nil)) ?_).1
  first
   | exact H.rt ⟨_,by rw [au (by simp_all),ah (by omega)],by rw [KE hq];exact hrep⟩
   | exact H.rt ⟨_,by rw [ah (by simp_all)],by rw [show Ac T row=[] by refine Ad ?_;rw [show T.rows=[] by rw [hT];unfold wP;rw [show qR d.flow id=none by simp_all];rfl];simp only [List.length_nil];omega];exact av.iL rfl (by decide)⟩
   | exact H.rt ⟨_,by rw [au (by simp_all),au (by omega)],by rw [Ad (by omega)];exact av.iL rfl (by decide)⟩
 intro gX a H
 try have p25:=dF gX
 refine kH H (YM gX rfl (YF oL gX rfl (YO oV 0 gX rfl (YL kT gX rfl (YC gX rfl (Pf gX rfl (ak K6 rfl (Cd rfl ?_ ?_)))))))) <;> clear H K6
 ·intro h22 a H
  try have iZ:=dT h22
  refine kP H (SR fun _ K8=>Ra rfl (ak K8 rfl ?_));clear H K8;intro a H;refine bS ?_;refine (eZ H results32 (.cons (aV H rfl) (.cons (aV H rfl) .nil)) ?_).1
  first
   | exact H.rt ⟨_,by rw [au (by simp_all),ah (by omega)],by rw [KE hq];exact hrep⟩
   | exact H.rt ⟨_,by rw [ah (by simp_all)],by rw [show Ac T row=[] by refine Ad ?_;rw [show T.rows=[] by rw [hT];unfold wP;rw [show qR d.flow id=none by simp_all];rfl];simp only [List.length_nil];omega];exact av.iL rfl (by decide)⟩
   | exact H.rt ⟨_,by rw [au (by simp_all),au (by omega)],by rw [Ad (by omega)];exact av.iL rfl (by decide)⟩
 intro h22 a H
 try have iZ:=dF h22
 obtain ⟨q,rfl⟩:∃ q:Nat,row=q:=⟨row.toNat,by omega⟩
 have hq:q < T.rows.length:=by omega
 obtain ⟨b2,o2,uA,un,uc,eA,en,ec,zA,zn,zc,cA,cn,cc,rfl,hrow2,Ch,hcl⟩:=HZ hq hg;obtain ⟨Yd,cc',e,hd1,hd2,hgc⟩:=hcl.slice
 injection e with e1 e2 e3
 rw [aZ] at e2 hd1;subst e1 e2 e3;have U7:=Na hq;have aaj:=Fv T.rows[q].cells;refine kP H (Kc K3 (SR fun _ K9=>ak K9 rfl (SQ fun _ aW=>SR fun _ bO=>bG oL oV 0 rfl rfl (Rm rfl ?_))));clear H K3 K9;intro a H;refine vN kT iW q H wn rfl rfl rfl (by omega) rfl ?_;clear H;intro a H;refine kH H (Rf uh rfl (Rg uP rfl (hrow2 5 _ rfl) (Rl lu rfl (Rm rfl (Kz bO (SB ?_))))));clear H bO;intro a H;skip;refine fH (ι:=Nat × aj × List aj × OL × GH) (Tc:=[(37,_),(38,_)]) (Lc:=[(_,_),(_,_)]) (fun gh=>[(10,gh.2.1),(39,vi gh.1)]) (fun gh=>[]++gh.2.2.2.1) (fun gh=>gh.2.2.2.2) (fun gh=>gh.1≤T.rows[q].cells.length∧bY 4 1 gh.2.1 gh.1 gh.2.2.1 gh.2.2.2.1∧bR gh.2.2.2.2 1 (((T.rows[q].cells.take gh.1).map fun c=>qz c.head).map CX) gh.2.2.1∧(∀ b o,nL b=some o→gh.2.2.2.2 b=some o)) (fun gh=>T.rows[q].cells.length - gh.1) ((0,.slice none 0 0,[],[],nL)) (by exact (H).sub ⟨rfl,rfl,rfl,rfl,aC⟩) ?_ ?_
 ·exact ⟨by omega,bY.nil,bR.nil,fun _ _ h=>h⟩
 clear H;rintro ⟨k,v,xs,Lo,g⟩ a w hI H;dsimp only at hI H;obtain ⟨hk,hrw,dP,hgm⟩:=hI;dsimp only [lca,bq] at H;refine kP H (SR fun _ bW=>Rc rfl (Kz bW (SQ fun _ cB=>Cd rfl ?_ ?_))) <;> clear H bW
 ·intro jJ a H
  try have p40:=dT jJ
  have hk2:k < T.rows[q].cells.length:=by omega
  obtain ⟨b3,o3,x1,x2,x3,x4,x5,x6,x7,x8,x9,gA,gn,gc,rfl,hrow3,hch,hcf⟩:=CY hk2 hgc;replace hrow3:=fun j u hj=>aJ hgm (hrow3 j u hj);refine kP H (Kc cB (SQ fun _ dw=>SB (SR fun _ dR=>Ri lu iQ rfl rfl ?_)));clear H cB;intro a H;refine bB iQ (cs:=[_,_,_,_,_,_,_]) H wn rfl rfl (fun j v hj=>H.hp.aI (hrow3 j v hj)) rfl ?_;clear H;intro a H;refine dB iQ H wn rfl ?_;clear H;intro b12 a w Gw H;refine aY iQ 0 (vs:=[_,_,_,_,_,_,_]) _ H wn rfl rfl rfl rfl rfl rfl rfl rfl ?_;clear H;intro w H;dsimp only [List.set,setRow] at H;refine dR _ _ ?_;clear dR;refine kP H (SC (Rm rfl (Rf C8 rfl ?_)));clear H;intro a H;refine bB eO (cs:=[_,_,_,_,_]) H wn rfl rfl (H.hp.bU 0 rfl rfl) rfl ?_;clear H;intro a H;refine s_call Sl H wn rfl (WH _ _ H.ro T.rows[q].cells[k].head _ _ _ (hch.mono hgm)) rfl ?_;clear H;rintro v46 Ka a w rfl yL H;refine ig xU pV [_] [_] H wn rfl rfl rfl rfl rfl (by intro i q h;match i,h with|0,h=>exact h|n+1,h=>simp at h) rfl rfl ?_;clear H;intro X5 a w atM H;refine nk (Li:=[_,_,_,_]) (Lo:=Lo) (news:=[.bool (qz T.rows[q].cells[k].head)]) xU pV rfl rfl H wn rfl rfl hrw rfl (H.hp.bU 0 rfl rfl) rfl (by omega) (by omega) rfl ?_;clear H;intro v48 aeG a w amL H;refine kH H (bC dw rfl (SC (Rd rfl (Rm rfl ?_))));clear H dw;intro a H;refine aD ?_;refine dM ((k+1,v48,xs++[.bool (qz T.rows[q].cells[k].head)],aeG,_)) (by exact (H.dG (Pl:=[_,_,_,_]) (cZ:=[_,_]) [2,3] (by decide) rfl).sub ⟨rfl,rfl,rfl,rfl,aC⟩) ?_
  (try dsimp only);exact ⟨by omega,amL,by rw [iH hk2,kY,kY];exact (dP.mono yL).snoc (X9 _ _) rfl,fun b o h=>yL b o (hgm b o h)⟩
 intro jJ a H
 try have p40:=dF jJ
 obtain rfl:k=T.rows[q].cells.length:=by omega
 rw [tX] at dP;obtain ⟨Gr,hmr,hrep,H⟩:=St.nQ (Li:=[_,_]) H hrw (rows:=(T.rows[q].cells.map fun c=>qz c.head).map CX) (by simp) dP;refine eu ?_;refine aW _ _ ?_;clear aW;refine kP H (SR fun _ dW=>Rm rfl (Ra rfl (ak dW rfl ?_)));clear H dW;intro a H;refine bS ?_;refine (eZ H results32 (.cons (aV H rfl) (.cons (aV H rfl) .nil)) ?_).1
 first
  | exact H.rt ⟨_,by rw [au (by simp_all),ah (by omega)],by rw [KE hq];exact hrep⟩
  | exact H.rt ⟨_,by rw [ah (by simp_all)],by rw [show Ac T row=[] by refine Ad ?_;rw [show T.rows=[] by rw [hT];unfold wP;rw [show qR d.flow id=none by simp_all];rfl];simp only [List.length_nil];omega];exact av.iL rfl (by decide)⟩
  | exact H.rt ⟨_,by rw [au (by simp_all),au (by omega)],by rw [Ad (by omega)];exact av.iL rfl (by decide)⟩
end Go.Proofs.YtdiflmikikiedaaGreat
