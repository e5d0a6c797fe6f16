/-
  What the claim stands on, part 6: Rf0 Iat Bi13 Dlr Ccl Dnn Cst Dcl Nm Nml Nd13 Ne13 An13 Sfp Rm16 Cut14 Fpn13 Anx13 Ada13 Sgn Bof13 Adf14 Fok Npre Ada16 Fl16 Tot16 Adm16 Anid.
-/
import Derived.Test.YtdgnnpjijhafaaaGreatWbe
namespace Go.Proofs.YtdgnnpjijhafaaaGreat
set_option linter.all false
open Go.Proofs.Tryz
open Go.RowKit
theorem abI{C:bG}{e:Int}{h:fI}(hE:iX C e h=0):∀q∈refs h,q=0∨q∈C.mP:=by
 have z:=mo hE;have h3:=z (ou C h.marks) (by simp);have h4:=z (kW (xM C h.marks.dQ) h.marks.dQ.length) (by simp);have h6:=z (kW (Db C e h.marks.layers) h.marks.layers.length) (by simp);intro q hq
 unfold refs at hq
 rcases iL.1 hq with rfl|hq
 ·unfold ou at h3
  by_cases h0:h.marks.ins=0
  ·exact .inl h0
  refine .inr<|Classical.byContradiction fun hn=>?_;rw[ay ⟨h0,hn⟩]at h3;cases h3
 rcases iF.1 hq with hq|hq
 ·obtain⟨x,hx,rfl⟩:=List.mem_map.1 hq;obtain⟨k,hk,rfl⟩:=List.getElem_of_mem hx;have h5:=Hl h4 k hk
  unfold xM at h5
  rw[gF hk]at h5;dsimp only[Bg]at h5;refine .inr<|Classical.byContradiction fun hn=>?_;rw[ay hn]at h5;cases h5
 obtain⟨x,hx,rfl⟩:=List.mem_map.1 hq;obtain⟨k,hk,rfl⟩:=List.getElem_of_mem hx;have h5:=Hl h6 k hk
 unfold Db at h5
 rw[gF hk]at h5;dsimp only[KH]at h5;refine .inr<|Classical.byContradiction fun hn=>?_;rw[ay hn]at h5;cases h5
def qX(C:bG)(L:List fI):Prop:=∀h∈L,∃e,iX C e h=0
theorem qX.nil(C:bG):qX C []:=fun _ h=>by cases h
theorem qX.cons{C:bG}{e:Int}{h:fI}{L:List fI}(h1:iX C e h=0)(h2:qX C L):qX C (h::L):=fun x hx=>by
 rcases iL.1 hx with rfl|hx
 ·exact⟨e,h1⟩
 exact h2 x hx
theorem qX.app{C:bG}{A B:List fI}(h1:qX C A)(h2:qX C B):qX C (A++B):=fun x hx=>(iF.1 hx).elim (h1 x)<|h2 x
mutual
theorem aCW(C:bG)(body note:Bool)(t:Int):∀(x:ah)(s s':CS),fM C body note t x s=(0,s')->qX C (J4 x)
 |.mk k c i tx h f r,s,s',e=>by
  have hf:=VB C false true t f;have hr:=amT C note (t+1) r;rw[fM]at e;(iterate 2 obtain⟨-,e⟩:=jY e);obtain⟨e1,e⟩:=jY e;rw[J4];refine qX.cons e1 ?_
  by_cases h6:k=6
  ·exact ahe
  rw[au h6]at e|-;rw[fQ]
  by_cases h7:k=7
  ·rw[ay h7]at e|-;exact hr _ _ (WO e).2
  rw[au h7];exact qX.nil C
theorem VB(C:bG)(body note:Bool)(t:Int):∀(l:List ah)(s s':CS),jH C body note t l s=(0,s')->qX C (pJ l)
 |[],_,_,_=>by rw[pJ];exact qX.nil C
 |x::r,s,s',e=>by
  rw[jH]at e;obtain⟨e1,e⟩:=jY e;rw[pJ];exact(aCW C body note t x s _ (Prod.ext e1 M)).app (VB C body note t r _ _ e)
theorem aCX(C:bG)(note:Bool)(t:Int):∀(x:aN)(s s':CS),Az C note t x s=(0,s')->qX C (J7 x)
 |.mk h cs,s,s',e=>by
  have hc:=amS C note t cs;rw[Az]at e;obtain⟨e1,e⟩:=jY e;rw[J7];exact qX.cons (mo e1 _ fJ) (hc _ _ e)
theorem amT(C:bG)(note:Bool)(t:Int):∀(l:List aN)(s s':CS),jm C note t l s=(0,s')->qX C (Br l)
 |[],_,_,_=>by rw[Br];exact qX.nil C
 |x::r,s,s',e=>by
  rw[jm]at e;obtain⟨e1,e⟩:=jY e;rw[Br];exact(aCX C note t x s _ (Prod.ext e1 M)).app (amT C note t r _ _ e)
theorem aCV(C:bG)(note:Bool)(t:Int):∀(x:aP)(s s':CS),cellC C note t x s=(0,s')->qX C (JZ x)
 |.mk i h f,s,s',e=>by
  have hf:=VB C false note t f;rw[cellC]at e;obtain⟨-,e⟩:=jY e;obtain⟨e1,e⟩:=jY e;rw[JZ];exact qX.cons e1 (hf _ _ e)
theorem amS(C:bG)(note:Bool)(t:Int):∀(l:List aP)(s s':CS),qH C note t l s=(0,s')->qX C (CJ l)
 |[],_,_,_=>by rw[CJ];exact qX.nil C
 |x::r,s,s',e=>by
  rw[qH]at e;obtain⟨e1,e⟩:=jY e;rw[CJ];exact(aCV C note t x s _ (Prod.ext e1 M)).app (amS C note t r _ _ e)
end
theorem adv{d:jq}(hc:jK d=0):∀q∈Od d,q=0∨q∈d.revs.map dJ.id:=by
 have z:=mo hc;have h2:=z (fD [iX d.mX 3 d.fin,dX (BG d.fin.marks) 21]) (by simp);have h3:=z (jH d.mX true false 0 d.flow ⟨0,[]⟩).1 (by simp);have hi:=VB d.mX true false 0 d.flow _ _<|Um h3;intro q hq
 unfold Od at hq
 rcases iF.1 hq with hq|hq
 ·obtain⟨h,hh,hq⟩:=List.mem_flatMap.1 hq;obtain⟨e,he⟩:=hi h hh;exact abI he q hq
 exact abI (mo h2 _ fJ) q hq
theorem apK{d:jq}(hc:jK d=0):(d.revs.map dJ.id).Pairwise (·<·)∧∀q∈d.revs.map dJ.id,1<=q∧q<=1073741824:=by
 have h:=mo (mo hc _ fJ) (Fj d.revs) (by simp);have h1:=mo h _<|fJ;have h2:=mo h _<|gH _ fJ
 have hl:d.revs.length<=256:=by
  unfold dX at h1
  by_cases hd:256<(d.revs.length:Int)
  ·rw[ay<|aG hd]at h1;cases h1
  omega
 have hi:∀i(hi:i<d.revs.length),1<=d.revs[i].id∧d.revs[i].id<=1073741824∧(∀k(hk:k<d.revs.length),k+1=i->d.revs[k].id<d.revs[i].id):=by
  intro i hi;have h3:=Hl h2 i O
  unfold Ey at h3
  rw[gF hi]at h3;have h4:=VW<|mo h3 _ fJ;rw[gF hi]at h4;refine⟨h4.1,h4.2.1,fun k hk e=>?_⟩;subst e;have h5:=h4.2.2 O;rw[Nat.add_sub_cancel,gF hk]at h5;exact h5
 refine⟨List.pairwise_iff_getElem.2 ?_,fun q hq=>?_⟩
 ·intro i j hi' hj hij;rw[bM]at hi' hj;rw[List.getElem_map,List.getElem_map]
  induction j with
  |zero=>omega
  |succ j ih=>
   have h1:=(hi (j+1) hj).2.2 j O M
   by_cases e:i=j
   ·subst e;exact h1
   exact Int.lt_trans (ih O O O) h1
 obtain⟨x,hx,rfl⟩:=List.mem_map.1 hq;obtain⟨k,hk,rfl⟩:=List.getElem_of_mem hx;exact⟨(hi k hk).1,(hi k hk).2.1⟩
theorem aIJ{d:jq}(hc:jK d=0){q:Int}(h:q∈tY d):1<=q∧q<=1073741824:=by
 unfold tY at h
 rw[List.mem_filter,qm,Yp]at h;obtain⟨h1|h1,h2⟩:=h
 ·cases h1
 exact(apK hc).2 q ((adv hc q h1).resolve_left h2)
theorem aII{d:jq}(hc:jK d=0):(tY d).length<=d.revs.length:=by
 obtain⟨hi,-⟩:=apK hc
 have hnd:(d.revs.map dJ.id).Nodup:=hi.imp fun h=>by omega
 have hu:(tY d).Nodup:=(aeY List.nodup_nil).sublist List.filter_sublist
 have hp:=(List.perm_ext_iff_of_nodup (hnd.sublist<|List.filter_sublist (p:=fun q=>decide<|q∈tY d)) hu).2 fun q=>by
  rw[List.mem_filter,qm];refine⟨fun h=>h.2,fun h=>⟨?_,h⟩⟩;have h1:=h
  unfold tY at h1
  rw[List.mem_filter,qm,Yp]at h1;obtain⟨h2|h2,h3⟩:=h1
  ·cases h2
  exact(adv hc q h2).resolve_left h3
 rw[<-hp.length_eq];exact Nat.le_trans (List.length_filter_le _ _) (by rw[bM];exact eP _)
theorem anK{G:GH}{α:Type}{f:α->Int}{A:List α}{B:Option Addr}{n c k:Nat}(hv:av G (.sl 1<|A.map fun q=>[li<|f q]) (.slice B n c))(hk:k<A.length):∃b o,B=some ⟨b,o,none⟩∧aJ G b (o+k)=some (vi<|f A[k]):=by
 obtain⟨b,o,cs,h1,h2,h3,h4⟩:=hv.at_ k [li<|f A[k]] (by simp[hk])
 simp only[bg]at h4
 obtain⟨_,_,rfl,⟨rfl,-⟩,rfl⟩:=h4;exact⟨b,o,h1,by simpa using h3 0 _ M⟩
theorem axI:aW 178:=aX func178 M
theorem axJ:aW 179:=aX func179 M
theorem acy{p:Nat->Bool}(hp:∀h,p h=true->p (h+1)=true):∀(f i j:Nat),i<=j->j-i<=f->(∀h,i<=h->h<nO p f i j->p h=false)∧(nO p f i j<j->p (nO p f i j)=true)
 |0,i,j,h1,h2=>⟨fun h a b=>by simp only[nO]at b;omega,fun h=>by simp only[nO]at h;omega⟩
 |f+1,i,j,h1,h2=>by
  have up:∀a b,a<=b->p a=true->p b=true:=fun a b hab=>by
   induction hab with
   |refl=>exact fun h=>h
   |step _ ih=>exact fun h=>hp _<|ih h
  rw[nO]
  by_cases h:i<j
  ·rw[ay h]
   cases hm:p ((i+j)/2)
   ·rw[au (by simp)];obtain⟨r1,r2⟩:=acy hp f ((i+j)/2+1) j O O;refine⟨fun q a b=>?_,r2⟩
    by_cases hq:(i+j)/2+1<=q
    ·exact r1 q hq b
    cases hpq:p q
    ·rfl
    rw[up q _ O hpq]at hm;cases hm
   rw[ay M];obtain⟨r1,r2⟩:=acy hp f i ((i+j)/2) O O;refine⟨r1,fun _=>?_⟩
   by_cases hq:nO p f i ((i+j)/2)<(i+j)/2
   ·exact r2 hq
   have:=acw (p:=p) f i ((i+j)/2) O;rw[show nO p f i ((i+j)/2)=(i+j)/2 by omega];exact hm
  rw[au h];exact⟨fun q a b=>by omega,fun q=>absurd q h⟩
theorem auS{l:List Int}(hs:l.Pairwise (·<=·))(t:Int):(∀h(hh:h<l.length),h<qZ l t->l[h]<t)∧∀hh:qZ l t<l.length,t<=l[qZ l t]:=by
 -- the test,as if the list went on with its last number
 let p:Nat->Bool:=fun h=>decide (¬l.getD h 0<t)
 let p':Nat->Bool:=fun h=>decide<|l.length<=h∨¬l.getD h 0<t
 have hpp:∀(f i j:Nat),j<=l.length->i<=j->nO p f i j=nO p' f i j:=by
  intro f
  induction f with
  |zero=>intro i j _ _;rfl
  |succ f ih=>
   intro i j hj hij;rw[nO,nO]
   by_cases h:i<j
   ·rw[ay h,ay h]
    have e:p ((i+j)/2)=p' ((i+j)/2):=by
     show decide _=decide _
     exact decide_eq_decide.2 ⟨.inr,fun h=>h.resolve_left O⟩
    rw[e,ih _ _ O O,ih _ _ hj O]
   rw[au h,au h]
 have hmono:∀h,p' h=true->p' (h+1)=true:=fun h e=>by
  have e:=mW e;refine kZ ?_
  by_cases h1:l.length<=h+1
  ·exact .inl h1
  refine .inr ?_;have e2:=e.resolve_left O;have h3:=List.pairwise_iff_getElem.1 hs h (h+1) O O<|Nat.lt_succ_self _;rw[List.getD_eq_getElem?_getD,gF (show h<l.length by omega)]at e2;rw[List.getD_eq_getElem?_getD,gF (show h+1<l.length by omega)]
  simp only[Option.getD_some]at e2|-
  omega
 obtain⟨r1,r2⟩:=acy hmono l.length 0 l.length (fP _) O;have hn:qZ l t=nO p' l.length 0 l.length:=hpp _ _ _ (eP _)<|fP _;rw[<-hn]at r1 r2;refine⟨fun h hh h1=>?_,fun hh=>?_⟩
 ·have h2:=of_decide_eq_false<|r1 h (fP _) h1;rw[List.getD_eq_getElem?_getD,gF hh]at h2
  simp only[Option.getD_some]at h2
  omega
 have h2:=(mW<|r2 hh).resolve_left O;rw[List.getD_eq_getElem?_getD,gF hh]at h2
 simp only[Option.getD_some]at h2
 omega
theorem aBz{l:List Int}(hs:l.Pairwise (·<=·))(t:Int):yX l t=decide (t∈l):=by
 rw[zL,qm]
 constructor
 ·intro h;exact lZ<|mW h
 intro h;obtain⟨k,hk,rfl⟩:=List.getElem_of_mem h;obtain⟨r1,r2⟩:=auS hs l[k]
 have hkn:qZ l l[k]<=k:=by
  by_cases h:qZ l l[k]<=k
  ·exact h
  have:=r1 k hk O;omega
 have h2:=r2 O
 have h3:l[qZ l l[k]]<=l[k]:=by
  rcases Nat.lt_or_eq_of_le hkn with h|h
  ·exact List.pairwise_iff_getElem.1 hs _ _ O hk h
  exact Int.le_of_eq<|getElem_congr_idx h
 exact kZ (by rw[gF (by omega:qZ l l[k]<l.length)];exact cO some O)
theorem aEy(G:GH)(w0:World)(hG:Hold G w0)(x y:Int):Calls prog 178 #[vi x,vi y] w0 (bD w0 G fun u G'=>u=.bool (decide<|x<y)∧G=G'):=by
 refine eN [(0,_),(1,_)] func178 M ntmps178 M M hG<|SR fun _ K1=>ak K1 M<|SR fun _ K2=>Rm M fun a H=>s_call aav H wn M (acE _ _ H.ro x) M ?_;rintro v6 G6 a w ⟨rfl,rfl⟩ Kl H;refine kH H (Rm M<|Sp 7 M ?_ ?_)<;>clear H
 ·intro h7 a H
  cases h7
 refine fun h7=>bJ h7 M<|Pf h7 M<|Rm M ?_;intro a H;(iterate 2 refine IQ H (wg H M M M) M M ?_;intro a H);exact KX H (wg H M M M) M M M M<|Pf M M<|ak K2 M<|LR results178 M fun H=>H.rt ⟨M,M⟩
theorem aD8(G:GH)(w0:World)(hG:Hold G w0)(x:Int):Calls prog 179 #[vi x] w0 (bD w0 G fun u G'=>u=.bool false∧G=G'):=by
 exact eN [(0,_)] func179 M ntmps179 M M hG (SR fun _ K1=>ak K1 M<|SR fun _ K2=>Rm M<|Rm M<|Rc M<|ak K2 M<|LR results179 M fun H=>H.rt ⟨by simp,M⟩)
theorem YK {p:Prop} (h:p:=by
 first
  |exact H.rt ⟨by rw[amf heq.symm O,<-heq];simp_all[ajd],M⟩
  | exact H.rt ⟨by rw [amg heq.symm O,<- heq],M⟩):p:=h
theorem auR(G:GH)(w0:World)(hG:Hold G w0)(l:List Int)(t:Int)(v:aj)(hv:av G (.sl 1<|l.map fun k=>[li k]) v)(hl:l.length<=4294967296) :
  Calls prog 104 #[v,vi t] w0 (bD w0 G fun u G'=>u=.tuple #[vi (qZ l t),.bool<|yX l t]∧G=G'):=by
 obtain⟨A,c,rfl,hc1,hc2,-⟩:=hv.slice;rw[bM]at *;obtain⟨p,hp⟩:∃p:Nat->Bool,p=fun h=>decide (¬l.getD h 0<t):=⟨_,M⟩
 have hbs:qZ l t=nO p l.length 0 l.length:=by rw[hp,qZ]
 refine eN [(0,_),(1,_)] func104 M ntmps104 M M hG ?_;intro a H;refine kP H<|SR fun _ K1=>Ra M<|ak K1 M<|SR fun _ K2=>Rm M<|Rl qV M<|ak K2 M<|SR fun _ K3=>Rm M<|Ra M<|ak K3 M<|SQ fun _ K4=>SB ?_;clear H K1 K2 K3;intro a H;skip;refine dY (ι:=Nat×Nat×Nat) (Tc:=[(0,_),(1,_),(6,_)]) (Lc:=[]) (fun gh=>[(7,vi gh.1),(8,vi gh.2.1)]) (fun gh=>[]) (fun gh=>G) (fun gh=>gh.1<=gh.2.1∧gh.2.1<=l.length∧gh.2.1-gh.1<=gh.2.2∧nO p gh.2.2 gh.1 gh.2.1=qZ l t) (fun gh=>gh.2.1-gh.1) ((0,l.length,l.length)) (by exact H.sub ⟨M,M,M,M,M,aC⟩) ?_ ?_
 ·exact⟨fP _,eP _,Nat.sub_le _ _,hbs.symm⟩
 clear H;rintro⟨i,j,f⟩ a w hI H;dsimp only at hI H;obtain⟨hij,hj,hf1,heq⟩:=hI;dsimp only[lca,bq]at H;refine kP H (SQ fun _ K1=>SR fun _ K2=>Rm M<|Rm M<|Rc M<|Kz K2<|Cd M ?_ ?_)<;>clear H K2
 ·intro pF a H
  try have vP:=dT pF
  have hlt:i<j:=by omega
  rw[anz hf1 hlt]at heq;obtain⟨m,hm⟩:∃m,m=(i+j)/2:=⟨_,M⟩;rw[<-hm]at heq
  have hml:m<l.length:=by omega
  obtain⟨b,o,rfl,hrow⟩:=anK (f:=fun q=>q) hv hml
  replace hrow:aJ G b (o+m*1)=some (vi l[m]):=by rw[Nat.mul_one];exact hrow
  have hpm:p m=decide (¬l[m]<t):=by rw[hp];simp[List.getD,hml]
  rw[hpm]at heq;refine kP H<|Kc K1<|SB<|SR fun _ K2=>Rm M<|Rm M<|Rd M ?_;clear H K1;intro a H;rw[show((i:Int)+(j:Int))=((i+j:Nat):Int) by push_cast;rfl]at H;refine IK ((i+j:Nat):Int) Xm oU H wn M (anA O O) M ?_;clear H;intro a H;refine adR _ H wn M M M Z M ?_;clear H;intro a H;rw[anx,<-hm]at H;refine IK (m:Int) oU Xm H wn M (KC O O) M ?_;clear H;intro a H;refine kH H (ak K2 M<|SR fun _ K1=>Rm M<|Rm M<|Ri qV aF M M<|Rg aF M (by assumption) ?_);clear H K2;intro a H;refine kH H<|Rm M ?_;clear H;intro a H;refine s_call axI H wn M (aEy _ _ H.ro l[m] t) M ?_;clear H;rintro v27 G27 a w ⟨rfl,rfl⟩ amB H;refine K1 _ _ ?_;clear K1;refine jU H M ?_ ?_
  ·intro h27
   try have p27:=dT h27
   rw[au (by simpa using p27)]at heq;refine kP H<|SC<|Rm M<|Rd M<|Ra M ?_;clear H;intro a H;refine aI ?_;refine dO ((m+1,j,f-1)) (by exact H.sub ⟨M,M,M,M,M,aC⟩) ?_
   (try dsimp only);exact⟨O,hj,O,heq⟩
  intro h27
  try have p27:=dF h27
  rw[ay (by simpa using p27)]at heq;refine kP H<|SC<|Rm M<|Ra M ?_;clear H;intro a H;refine aI ?_;refine dO ((i,m,f-1)) (by exact H.sub ⟨M,M,M,M,M,aC⟩) ?_
  (try dsimp only);exact⟨O,O,O,heq⟩
 intro pF a H
 try have vP:=dF pF
 refine dS ?_;refine K4 _ _ ?_;clear K4;refine bU<|fun _ K2=>?_;rw[anw O]at heq;refine kP H (SC<|Rm M<|Rm M<|Rm M<|Rc M<|Rm M<|Sp 35 M ?_ ?_)<;>clear H
 ·intro jr a H
  try have p35:=dT jr
  have hil:i<l.length:=by omega
  obtain⟨b,o,rfl,hrow⟩:=anK (f:=fun q=>q) hv hil
  replace hrow:aJ G b (o+i*1)=some (vi l[i]):=by rw[Nat.mul_one];exact hrow
  refine kH H (YM jr M<|YM jr M<|YI qV aF jr M M<|YR aF jr M (by assumption) ?_);clear H;intro a H;refine kH H (YM jr M<|YC jr M<|YM jr M<|Sp 42 M ?_ ?_)<;>clear H
  ·intro jP a H
   try have p42:=dT jP
   refine kH H<|bJ jP M<|bJ jP M<|Ku M<|Ku M<|Ks jP M<|PT jr jP M<|Pt jr M<|Ra M<|bZ K2 M ?_;clear H K2;intro a H;refine eH ?_;refine(gV H results104 (.cons (cK H M) (.cons (cK H M) .nil)) ?_).1
   exact YK
  intro jP a H
  try have p42:=dF jP
  refine kH H (YM jP M<|YM jP M<|YI qV aF jP M M<|YR aF jP M (by assumption) ?_);clear H;intro a H;refine s_call axJ H (wg H M M jP) M (aD8 _ _ H.ro l[i]) M ?_;clear H;rintro v47 G47 a w ⟨rfl,rfl⟩ aKi H;refine kH H (YM jP M<|Sp 48 M ?_ ?_)<;>clear H
  ·intro h48 a H
   cases h48
  intro h48 a H
  try have p48:=dF h48
  refine kH H<|aU h48 M<|PF jP h48 M<|PF jr jP M<|Pt jr M<|Ra M<|bZ K2 M ?_;clear H K2;intro a H;refine eH ?_;refine(gV H results104 (.cons (cK H M) (.cons (cK H M) .nil)) ?_).1
  exact YK
 intro jr a H
 try have p35:=dF jr
 refine kH H<|bJ jr M<|aU jr M<|aU jr M<|Ku M<|Ku M<|Ku M<|Ku M<|Ku M<|Ku M<|Ku M<|Ku M<|Ku M<|Ks jr M<|Pf jr M<|Ra M<|bZ K2 M ?_;clear H K2;intro a H;refine eH ?_;refine(gV H results104 (.cons (cK H M) (.cons (cK H M) .nil)) ?_).1
 exact YK
theorem axH:aW 177:=aX func177 M
theorem adK(G:GH)(x:dJ):bg G x.dat x.cells:=by
 simp only[dJ.dat,dJ.cells,bg]
 exact aga
def pY(l:List dJ):List aj:=(l.map dJ.cells).flatten
theorem WR:∀l:List dJ,(pY l).length=l.length*3
 |[]=>rfl
 |p::l=>by
  have:=WR l
  simp only[pY,dV,List.flatten_cons,gT]at this|-
  rw[this,show p.cells.length=3 from rfl,lK];omega
theorem adH:∀{l:List dJ}{k:Nat}(h:k<l.length)(j:Nat),j<3->(pY l)[k*3+j]?=l[k].cells[j]?
 |p::l,0,_,j,hj=>by
  simp only[pY,dV,List.flatten_cons,Nat.zero_mul,fB,List.getElem_cons_zero]
  rw[xH (by rw[show p.cells.length=3 from rfl];exact hj)]
 |p::l,k+1,h,j,hj=>by
  have ih:=adH (l:=l) (k:=k) (by simpa using h) j hj
  simp only[pY,dV,List.flatten_cons,List.getElem_cons_succ]at ih|-
  rw[uQ (by rw[show p.cells.length=3 from rfl];omega),show p.cells.length=3 from rfl,show(k+1)*3+j-3=k*3+j by omega];exact ih
theorem adG(l m:List dJ):pY (l++m)=pY l++pY m:=by simp[pY]
theorem aGJ{w0 w:World}{F:Nat->Prop}{G0 G:GH}{L Lo:OL}{e c n:Nat}{A:Option Addr}{l:List dJ}(h:bT e 3 (.slice A n c) n (pY l) Lo)(hn:n=l.length)(H:Hp w0 F G0 G L w)(hsub:∀x∈Lo,x∈L){k:Nat}(hk:k<l.length) :
  ∃b,A=some ⟨b,0,none⟩∧∀j u,[vi l[k].id,.string l[k].author,vi l[k].time][j]?=some u->w.cell? ⟨b,0+k*3+j,none⟩=some u:=by
 rcases h.2 with⟨_,h0,_⟩|⟨b,cap,cur,he,hl,h1,h2,h3,h4⟩
 ·omega
 injection he with e1 e2 e3
 refine⟨b,e1,fun j u hu=>?_⟩
 have hj:j<3:=by have:=(jJ.1 hu).1;simpa using this
 refine H.Iy (c:=cur) (e:=e) (fz:=(0,0)) (hsub _ (by rw[hl];exact List.mem_singleton_self _)) ?_;have h5:=adH hk j hj;rw[<-h4,xG,iw,Array.getElem?_toList]at h5;rw[show 0+k*3+j=k*3+j by omega,h5];exact hu
theorem afK {p:Prop} (h:p:=by
 first
  |exact H.hp.gX ⟨M,by rw[VT hk2 hno h16];rfl⟩
  | exact H.hp.gX ⟨M,by rw [show l.take k=l from jX O] at hno;rw [hno];rfl⟩):p:=h
theorem aD3{G:GH}{w0:World}{Lo:OL}{v fv:aj}(l:List dJ)(p:dJ->Bool)(hO:fZ G Lo w0)(hrw:bT 81 3 v l.length (pY l) Lo)(hf:∀x∈l,wB fv G x.dat<|p x) :
  Calls prog 177 #[v,fv] w0 (fG w0 G Lo fun u G' L'=>L'=Lo∧u=vi (om<|l.findIdx? p)):=by
 obtain⟨A,c,rfl,hc1,hc2⟩:=hrw.shape;have hml:maxLen=9223372036854775807:=rfl;refine iY (N:=19) (T:=[(0,_),(1,_)]) func177 M ntmps177 M M hO ?_;intro a H;refine kP H<|SR fun _ K1=>ak K1 M<|SQ fun _ K2=>SR fun _ K3=>Rm M<|Rl tV M<|Rm M<|Kz K3<|SB ?_;clear H K1 K3;intro a H;skip;refine dY (ι:=Nat×GH) (Tc:=[(0,_),(1,_),(7,_)]) (Lc:=[]) (fun gh=>[(8,vi gh.1)]) (fun gh=>[]++Lo) (fun gh=>gh.2) (fun gh=>gh.1<=l.length∧(l.take gh.1).findIdx? p=none∧(∀b o,G b=some o->gh.2 b=some o)) (fun gh=>l.length-gh.1) ((0,G)) (by exact H.sub ⟨M,M,M,M,aC⟩) ?_ ?_
 ·exact zO
 clear H;rintro⟨k,g⟩ a w hI H;dsimp only at hI H;obtain⟨hk,hno,hgm⟩:=hI;dsimp only[lca,bq]at H;refine kP H (SR fun _ K1=>Rc M<|Kz K1<|SQ fun _ K3=>Cd M ?_ ?_)<;>clear H K1
 ·intro h9 a H
  try have p9:=dT h9
  have hk2:k<l.length:=by omega
  obtain⟨b,rfl,hrow⟩:=aGJ hrw M H.hp (fun x hx=>by first|exact hx|exact gH _ hx|simpa using hx) hk2;refine kP H<|Kc K3<|SQ fun _ K1=>SB<|SR fun _ K4=>Rm M<|ak K4 M<|SR fun _ K5=>Rm M<|Rm M<|Rm M<|Ri tV qU M M ?_;clear H K3 K4;intro a H;refine aY qU (cs:=[vi l[k].id,.string l[k].author,vi l[k].time]) H wn M M hrow M ?_;clear H;intro a H;refine ow H wn M M (hf _ (ig hk2) _ _ _ hgm H.ro<|adK _ l[k]) M ?_;clear H;rintro v16 xu a w rfl xW H;refine K5 _ _ ?_;clear K5;refine jU H M ?_ ?_
  ·intro h16
   try have p16:=dT h16
   refine kP H<|SR fun _ K3=>Rm M<|ak K3 M ?_;clear H K3;intro a H;refine lr H results177 M ?_
   exact afK
  intro h16
  try have p16:=dF h16
  refine kP H<|Kc K1<|SC<|Rd M<|Rm M ?_;clear H K1;intro a H;refine aI ?_;refine dO ((k+1,xu)) (by exact H.sub ⟨M,M,M,M,aC⟩) ?_
  (try dsimp only);exact afT
 intro h9 a H
 try have p9:=dF h9
 refine dS ?_;refine K2 _ _ ?_;clear K2;refine kP H<|SR fun _ K1=>ak K1 M ?_;clear H K1;intro a H;refine lr H results177 M ?_
 exact afK
theorem aGv{G:GH}{l:List dJ}{xs:List aj}(h:bR G 3 (l.map dJ.dat) xs):xs=pY l:=by
 obtain⟨css,rfl,h2,h3⟩:=h;rw[bM]at h2
 have e:css=l.map dJ.cells:=by
  apply List.ext_getElem?
  intro j;rw[ql]
  by_cases hj:j<l.length
  ·have h4:=(h3 j l[j].dat css[j] (by simp[hj])<|gF O).1;rw[gF hj,gF O,adJ h4];rfl
  rw[List.getElem?_eq_none O,List.getElem?_eq_none O];rfl
 rw[e];rfl
theorem aGk{l:List dJ}{p:dJ->Bool}{i:Nat}(h:l.findIdx? p=some i):∃hi:i<l.length,(l.take<|i+1).filter (fun x=>!p x)=l.take i:=by
 obtain⟨hi,h1,h2⟩:=List.findIdx?_eq_some_iff_getElem.1 h;refine⟨hi,?_⟩;rw[ji hi,List.filter_append,List.filter_eq_self.2]
 ·simp[h1]
 intro x hx;obtain⟨j,hj,rfl⟩:=List.getElem_of_mem hx;rw[List.getElem_take]
 have hj2:j<i:=by rw[List.length_take]at hj;omega
 have:=h2 j hj2
 simpa using this
theorem aGl{l:List dJ}{p:dJ->Bool}(h:l.findIdx? p=none):l.filter (fun x=>!p x)=l:=by
 rw[List.findIdx?_eq_none_iff]at h
 exact List.filter_eq_self.2 fun x hx=>by rw[h x hx];rfl
theorem aGm{cl:List aj}{i:Nat}{x y z:aj}(h:i*3+3<=cl.length):(setRow cl (0+i*3) [x,y,z]).length=cl.length∧(setRow cl (0+i*3) [x,y,z]).take ((i+1)*3)=cl.take (i*3)++[x,y,z]∧∀m,(i+1)*3<=m->(setRow cl (0+i*3) [x,y,z])[m]?=cl[m]?:=by
 have e:setRow cl (0+i*3) [x,y,z]=cl.take (i*3)++[x,y,z]++cl.drop (i*3+3):=by
  rw[fB,Oo _ _ _ (by simpa using h)];rfl
 have hl:(cl.take (i*3)++[x,y,z]).length=(i+1)*3:=by rw[gT,List.length_take];simp;omega
 refine⟨WV ..,?_,fun m hm=>?_⟩
 ·rw[e,<-hl,List.take_left]
 rw[e,uQ O,hl,List.getElem?_drop];congr 1;omega
theorem aGj{l:List dJ}{cl:List aj}{i:Nat}(hi:i<l.length)(h:cl.take (l.length*3)=pY l):cl.take (i*3)=pY (l.take i):=by
 have e:cl.take (i*3)=(cl.take<|l.length*3).take (i*3):=by rw[List.take_take,Nat.min_eq_left O]
 have h2:pY l=pY (l.take i)++pY (l.drop i):=by rw[<-adG,List.take_append_drop]
 have h3:(pY<|l.take i).length=i*3:=by rw[WR,List.length_take];omega
 rw[e,h,h2,<-h3,List.take_left]
theorem aGn{l:List dJ}{p:dJ->Bool}{j:Nat}(hj:j<l.length):(l.take<|j+1).filter (fun x=>!p x)=(l.take j).filter (fun x=>!p x)++if p l[j]then[]else[l[j]]:=by
 rw[ji hj,List.filter_append]
 cases h:p l[j]<;>simp[h]
set_option maxHeartbeats 1000000 in
theorem awI{G:GH}{w0:World}{Lo:OL}{v fv:aj}(l:List dJ)(p:dJ->Bool)(hO:fZ G Lo w0)(hrw:bT 81 3 v l.length (pY l) Lo)(hf:∀x∈l,wB fv G x.dat<|p x) :
  Calls prog 101 #[v,fv] w0 (fG w0 G Lo fun u G' L'=>bT 81 3 u (l.filter fun x=>!p x).length (pY<|l.filter fun x=>!p x) L'):=by
 obtain⟨A,c,rfl,hc1,hc2⟩:=hrw.shape;have hml:maxLen=9223372036854775807:=rfl;have hdl:=WR l;refine iY (N:=42) (T:=[(0,_),(1,_)]) func101 M ntmps101 M M hO<|SR fun _ K1=>ak K1 M<|SR fun _ K2=>Rm M<|Rm M fun a H=>gM axH (Li:=[]) (L:=Lo) H wn M (aD3 l p (Hp.owns (Li:=[]) H.hp) hrw hf) M ?_;clear H;rintro v10 sN L10 a w ⟨rfl,rfl⟩ uw H;dsimp only[List.nil_append]at H;obtain⟨o,ho⟩:∃o,o=l.findIdx? p:=⟨_,M⟩;rw[<-ho]at H;refine kH H (ak K2 M<|SQ fun _ K1=>SR fun _ K3=>Rm M<|Rc M<|Kz K3<|Cd M ?_ ?_)<;>clear H K2 K3
 ·intro h12 a H
  try have nU:=dT h12
  obtain rfl:o=none:=by cases o with|none=>rfl|some i=>first|(simp[om]at nU;done)|(simp[om]at nU;omega)
  exact kP H (SR fun _ K2=>Rm M<|ak K2 M<|LR results101 M fun H=>H.hp.gX (by rw[aGl ho.symm];exact hrw))
 intro h12 a H
 try have nU:=dF h12
 obtain⟨i0,rfl⟩:∃i,o=some i:=by cases o with|none=>simp[om]at nU|some i=>exact⟨i,M⟩
 obtain⟨hi0,hinit⟩:=aGk ho.symm
 rcases hrw.2 with⟨_,h0,_⟩|⟨b,cap,cur,he,rfl,hcap1,hcap2,hsz,htk⟩
 ·omega
 injection he with e1 e2 e3
 subst e1;subst e3;obtain⟨cl0,rfl⟩:∃cl:List aj,cur=cl.toArray:=⟨cur.toList,by simp⟩;rw[List.size_toArray]at hsz;dsimp only[om]at H;refine kP H<|Kc K1<|SQ fun _ K2=>SR fun _ K3=>Rm M<|Rd M<|ak K3 M<|SB ?_;clear H K1 K3;intro a H;skip;refine dY (ι:=Nat×Nat×List aj×GH) (Tc:=[(0,_),(1,_)]) (Lc:=[]) (fun gh=>[(5,vi gh.2.1),(6,vi gh.1)]) (fun gh=>[(b,.cells gh.2.2.1.toArray 81 (0,0))]) (fun gh=>gh.2.2.2) (fun gh=>gh.2.1<gh.1∧gh.1<=l.length∧gh.2.2.1.length=c*3∧gh.2.1=((l.take gh.1).filter fun x=>!p x).length∧gh.2.2.1.take (gh.2.1*3)=pY ((l.take gh.1).filter fun x=>!p x)∧(∀m,gh.1*3<=m->m<l.length*3->gh.2.2.1[m]?=(pY l)[m]?)∧(∀b o,G b=some o->gh.2.2.2 b=some o)) (fun gh=>l.length-gh.1) ((i0+1,i0,cl0,sN)) (by exact H.sub ⟨M,M,M,M,aC⟩) ?_ ?_
 ·exact⟨Nat.lt_succ_self _,hi0,hsz,by rw[hinit,List.length_take];exact(Nat.min_eq_left<|Nat.le_of_lt hi0).symm,by rw[hinit];exact aGj hi0 htk,fun m h1 h2=>by rw[<-htk,xG,ay h2],uw⟩
 clear H;rintro⟨j,i,cl,g⟩ a w hI H;dsimp only at hI H;obtain⟨hij,hj,hcl,hil,hkept,hrest,hgm⟩:=hI;dsimp only[lca,bq]at H;refine kP H (SQ fun _ K1=>SR fun _ K3=>Rm M<|Rm M<|Rl tV M<|Rc M<|Kz K3<|Cd M ?_ ?_)<;>clear H K3
 ·intro h19 a H
  try have vQ:=dT h19
  have hj2:j<l.length:=by omega
  have hjc:∀q u,[vi l[j].id,.string l[j].author,vi l[j].time][q]?=some u->cl.toArray[0+j*3+q]?=some u:=fun q u hq=>by
   have hq2:q<3:=by have:=(jJ.1 hq).1;simpa using this
   rw[List.getElem?_toArray,fB,hrest _ O O,adH hj2 q hq2];exact hq
  have hdt:=aGn (p:=p) hj2;refine kP H<|Kc K1<|SQ fun _ K3=>SB<|SR fun _ K4=>Rm M<|Rm M<|Ri tV qU M M fun a H=>aY qU (cs:=[vi l[j].id,.string l[j].author,vi l[j].time]) H wn M M (fun q u hq=>H.hp.Iy (c:=cl.toArray) fJ<|hjc q u hq) M fun a H=>dK qU H wn M fun b7 a w Bt H=>bH qU 0 (vs:=[_,_,_]) H wn M fun w H=>K4 _ _<|kP H<|SR fun _ K1=>Rm M fun a H=>aY qU (cs:=[_,_,_]) H wn M M (H.hp.dB 0 M M) M fun a H=>ow H wn M M (hf _ (ig hj2) _ _ _ hgm H.ro<|adK _ l[j]) M ?_;clear H;rintro v28 LM a w rfl za H;refine kH H (Rn M<|Kz K1<|Cd M ?_ ?_)<;>clear H K1
  ·intro kD a H
   try have p29:=dT kD
   rw[au (by simpa using kD)]at hdt;have hds:=aGm (cl:=cl) (i:=i) (x:=vi l[j].id) (y:=.string l[j].author) (z:=vi l[j].time) O;refine kP H (SR fun _ K1=>Rm M (Rm M fun a H=>aY qU (cs:=[_,_,_]) H wn M M (H.hp.dB 0 M M) M (Ri tV qU M M fun a H=>EG qU 1 (c:=cl) (vs:=[vi l[j].id,.string l[j].author,vi l[j].time]) _ H wn M M M M M M (Nat.ble_eq_true_of_le (by simp only[lK,List.length_nil];omega)) rfl ?_)));clear H;intro w H;dsimp only[List.set]at H;refine K1 _ _ (kP H (SC (Rm M (Rd M (bZ K3 M (SC (Rm M (Rd M (Ra M fun a H=>aI (dO ((j+1,i+1,setRow cl (0+i*3) [vi l[j].id,.string l[j].author,vi l[j].time],LM)) (by exact(H.dR (Pl:=[_,_]) (dH:=[_]) [1] Z M).sub ⟨M,M,M,M,aC⟩) ?_))))))))))
   (try dsimp only);exact⟨O,O,by rw[hds.1,hcl],by rw[hdt,gT,<-hil];rfl,by rw[hdt,adG,<-hkept,hds.2.1];rfl,fun m h1 h2=>by rw[hds.2.2 m O,hrest m O h2],fun b o h=>za b o<|hgm b o h⟩
  intro kD a H
  try have p29:=dF kD
  rw[ay (by simpa using kD),iR]at hdt;refine kP H (Kc K3 (SC (Rm M (Rd M (Ra M fun a H=>aI (dO ((j+1,i,cl,LM)) (by exact(H.dR (Pl:=[_,_]) (dH:=[_]) [1] Z M).sub ⟨M,M,M,M,aC⟩) ?_))))))
  (try dsimp only);exact⟨O,O,hcl,by rw[hdt];exact hil,by rw[hdt];exact hkept,fun m h1 h2=>hrest m O h2,fun b o h=>za b o<|hgm b o h⟩
 intro h19 a H
 try have vQ:=dF h19
 refine dS<|K2 _ _<|kP H<|SR fun _ K2=>Rm M<|Rm M fun a H=>aHe tV qU i H wn M M M O M ?_;clear H;intro a H;rw[bQ,D5,add_lit]at H;refine aGY tV qU M M 0 H wn M M O O ?_;clear H;intro cz w hz1 hz2 H;dsimp only[List.set]at H;refine K2 _ _<|kP H<|SR fun _ K2=>Rm M<|Rm M fun a H=>R8 tV qU i H wn M M M O M<|ak K2 M fun a H=>lr H results101 M ?_
 obtain rfl:j=l.length:=by omega
 rw[oI]at hil hkept;exact H.hp.gX ⟨WR _,.inr ⟨b,c,cz.toArray,by rw[<-hil],M,O,hcap2,by rw[List.size_toArray,hz1,hcl],by rw[<-hkept,<-hil];rw[fB]at hz2;exact hz2⟩⟩
theorem auk {p:Prop} (h:p:=by
 exact H.hp.gX ⟨[],bT.nil,bR.nil⟩):p:=h
theorem Ju {p:Prop} (h:p:=by
 exact H.hp.gX ⟨[],bT.empty,bR.nil⟩):p:=h
theorem JC {p:Prop} (h:p:=by
 have hr0:=hnil (by simpa using h4);subst hr0;exact auk):p:=h
theorem aja(G:GH)(w0:World)(hO:fZ G [] w0)(rows:List (List Dat))(A:Option Addr)(n c:Nat)(hv:av G (.sl 3 rows) (.slice A n c))(hz:rows.length<=4294967296) :
  Calls prog 102 #[.slice A n c] w0 (fG w0 G [] fun u G' L'=>∃xs,bT 81 3 u rows.length xs L'∧bR G' 3 rows xs):=by
 obtain⟨hn,hc1,hc2,hnil,hx⟩:=hv.cells;refine iY (N:=8) (T:=[(0,_)]) func102 M ntmps102 M M hO<|SR fun _ K1=>ak K1 M<|SQ fun _ K2=>SR fun _ K3=>Rm M fun a H=>EF tV H wn M M fun a H=>K3 _ _<|jU H M ?_ ?_
 ·intro h4;exact kP H<|SR fun _ K1=>ak K1 M fun a H=>lr H results102 M JC
 intro h4;refine fU<|K2 _ _<|bU<|fun _ K1=>?_
 have hA:¬A=none:=by intro e;rw[e]at h4;cases h4
 refine mF<|ED tV qU H wn M fun b5 a w hb5 H=>kH H<|Rm M ?_;intro a H
 by_cases hr0:rows=[]
 ·have hn0:n=0:=by rw[hn,hr0];rfl
  subst hn0;refine Dn tV qU H wn M M (eP _) M<|bZ K1 M fun a H=>lr H results102 M ?_;subst hr0;exact Ju
 obtain⟨b,o,xs,rfl,hxl,hxc,hx1,gK⟩:=hx hr0;refine lW (Li:=[]) (Lo:=[_]) (news:=xs) tV qU M M H wn M M bT.empty hxl (fun j u hj=>H.hp.aJ<|hxc j u hj) hx1 O O M ?_;intro v7 Lo a w hrow H;dsimp only[List.nil_append]at H;exact kH H (bZ K1 M<|LR results102 M fun H=>H.hp.gX ⟨_,by rw[fB,hn]at hrow;exact hrow,gK⟩)
theorem avZ(G:GH)(w0:World)(hO:fZ G [] w0)(rows:List (List Dat))(A:Option Addr)(n c:Nat)(hv:av G (.sl 6 rows) (.slice A n c))(hz:rows.length<=4294967296) :
  Calls prog 234 #[.slice A n c] w0 (fG w0 G [] fun u G' L'=>∃xs,bT 171 6 u rows.length xs L'∧bR G' 6 rows xs):=by
 obtain⟨hn,hc1,hc2,hnil,hx⟩:=hv.cells;refine iY (N:=8) (T:=[(0,_)]) func234 M ntmps234 M M hO<|SR fun _ K1=>ak K1 M<|SQ fun _ K2=>SR fun _ K3=>Rm M fun a H=>EF mR H wn M M fun a H=>K3 _ _<|jU H M ?_ ?_
 ·intro h4;exact kP H<|SR fun _ K1=>ak K1 M fun a H=>lr H results234 M JC
 intro h4;refine fU<|K2 _ _<|bU<|fun _ K1=>?_
 have hA:¬A=none:=by intro e;rw[e]at h4;cases h4
 refine mF<|ED mR kQ H wn M fun b5 a w hb5 H=>kH H<|Rm M ?_;intro a H
 by_cases hr0:rows=[]
 ·have hn0:n=0:=by rw[hn,hr0];rfl
  subst hn0;refine Dn mR kQ H wn M M (eP _) M<|bZ K1 M fun a H=>lr H results234 M ?_;subst hr0;exact Ju
 obtain⟨b,o,xs,rfl,hxl,hxc,hx1,gK⟩:=hx hr0;refine lW (Li:=[]) (Lo:=[_]) (news:=xs) mR kQ M M H wn M M bT.empty hxl (fun j u hj=>H.hp.aJ<|hxc j u hj) hx1 O O M ?_;intro v7 Lo a w hrow H;dsimp only[List.nil_append]at H;exact kH H (bZ K1 M<|LR results234 M fun H=>H.hp.gX ⟨_,by rw[fB,hn]at hrow;exact hrow,gK⟩)
theorem avY(G:GH)(w0:World)(hO:fZ G [] w0)(rows:List (List Dat))(A:Option Addr)(n c:Nat)(hv:av G (.sl 2 rows) (.slice A n c))(hz:rows.length<=4294967296) :
  Calls prog 235 #[.slice A n c] w0 (fG w0 G [] fun u G' L'=>∃xs,bT 174 2 u rows.length xs L'∧bR G' 2 rows xs):=by
 obtain⟨hn,hc1,hc2,hnil,hx⟩:=hv.cells;refine iY (N:=8) (T:=[(0,_)]) func235 M ntmps235 M M hO<|SR fun _ K1=>ak K1 M<|SQ fun _ K2=>SR fun _ K3=>Rm M fun a H=>EF zB H wn M M fun a H=>K3 _ _<|jU H M ?_ ?_
 ·intro h4;exact kP H<|SR fun _ K1=>ak K1 M fun a H=>lr H results235 M JC
 intro h4;refine fU<|K2 _ _<|bU<|fun _ K1=>?_
 have hA:¬A=none:=by intro e;rw[e]at h4;cases h4
 refine mF<|ED zB Du H wn M fun b5 a w hb5 H=>kH H<|Rm M ?_;intro a H
 by_cases hr0:rows=[]
 ·have hn0:n=0:=by rw[hn,hr0];rfl
  subst hn0;refine Dn zB Du H wn M M (eP _) M<|bZ K1 M fun a H=>lr H results235 M ?_;subst hr0;exact Ju
 obtain⟨b,o,xs,rfl,hxl,hxc,hx1,gK⟩:=hx hr0;refine lW (Li:=[]) (Lo:=[_]) (news:=xs) zB Du M M H wn M M bT.empty hxl (fun j u hj=>H.hp.aJ<|hxc j u hj) hx1 O O M ?_;intro v7 Lo a w hrow H;dsimp only[List.nil_append]at H;exact kH H (bZ K1 M<|LR results235 M fun H=>H.hp.gX ⟨_,by rw[fB,hn]at hrow;exact hrow,gK⟩)
theorem avW(G:GH)(w0:World)(hO:fZ G [] w0)(rows:List (List Dat))(A:Option Addr)(n c:Nat)(hv:av G (.sl 6 rows) (.slice A n c))(hz:rows.length<=4294967296) :
  Calls prog 236 #[.slice A n c] w0 (fG w0 G [] fun u G' L'=>∃xs,bT 178 6 u rows.length xs L'∧bR G' 6 rows xs):=by
 obtain⟨hn,hc1,hc2,hnil,hx⟩:=hv.cells;refine iY (N:=8) (T:=[(0,_)]) func236 M ntmps236 M M hO<|SR fun _ K1=>ak K1 M<|SQ fun _ K2=>SR fun _ K3=>Rm M fun a H=>EF BS H wn M M fun a H=>K3 _ _<|jU H M ?_ ?_
 ·intro h4;exact kP H<|SR fun _ K1=>ak K1 M fun a H=>lr H results236 M JC
 intro h4;refine fU<|K2 _ _<|bU<|fun _ K1=>?_
 have hA:¬A=none:=by intro e;rw[e]at h4;cases h4
 refine mF<|ED BS Dw H wn M fun b5 a w hb5 H=>kH H<|Rm M ?_;intro a H
 by_cases hr0:rows=[]
 ·have hn0:n=0:=by rw[hn,hr0];rfl
  subst hn0;refine Dn BS Dw H wn M M (eP _) M<|bZ K1 M fun a H=>lr H results236 M ?_;subst hr0;exact Ju
 obtain⟨b,o,xs,rfl,hxl,hxc,hx1,gK⟩:=hx hr0;refine lW (Li:=[]) (Lo:=[_]) (news:=xs) BS Dw M M H wn M M bT.empty hxl (fun j u hj=>H.hp.aJ<|hxc j u hj) hx1 O O M ?_;intro v7 Lo a w hrow H;dsimp only[List.nil_append]at H;exact kH H (bZ K1 M<|LR results236 M fun H=>H.hp.gX ⟨_,by rw[fB,hn]at hrow;exact hrow,gK⟩)
theorem avQ(G:GH)(w0:World)(hG:Hold G w0)(rows:List (List Dat))(A:Option Addr)(n c:Nat)(hv:av G (.sl 6 rows) (.slice A n c))(hz:rows.length<=4294967296) :
  Calls prog 236 #[.slice A n c] w0 (bD w0 G fun u G'=>av G' (.sl 6 rows) u):=ME hG (avW G w0 (yj hG) rows A n c hv hz) M
theorem awc(G:GH)(w0:World)(hO:fZ G [] w0)(rows:List (List Dat))(A:Option Addr)(n c:Nat)(hv:av G (.sl 2 rows) (.slice A n c))(hz:rows.length<=4294967296) :
  Calls prog 237 #[.slice A n c] w0 (fG w0 G [] fun u G' L'=>∃xs,bT 181 2 u rows.length xs L'∧bR G' 2 rows xs):=by
 obtain⟨hn,hc1,hc2,hnil,hx⟩:=hv.cells;refine iY (N:=8) (T:=[(0,_)]) func237 M ntmps237 M M hO<|SR fun _ K1=>ak K1 M<|SQ fun _ K2=>SR fun _ K3=>Rm M fun a H=>EF yB H wn M M fun a H=>K3 _ _<|jU H M ?_ ?_
 ·intro h4;exact kP H<|SR fun _ K1=>ak K1 M fun a H=>lr H results237 M JC
 intro h4;refine fU<|K2 _ _<|bU<|fun _ K1=>?_
 have hA:¬A=none:=by intro e;rw[e]at h4;cases h4
 refine mF<|ED yB Dx H wn M fun b5 a w hb5 H=>kH H<|Rm M ?_;intro a H
 by_cases hr0:rows=[]
 ·have hn0:n=0:=by rw[hn,hr0];rfl
  subst hn0;refine Dn yB Dx H wn M M (eP _) M<|bZ K1 M fun a H=>lr H results237 M ?_;subst hr0;exact Ju
 obtain⟨b,o,xs,rfl,hxl,hxc,hx1,gK⟩:=hx hr0;refine lW (Li:=[]) (Lo:=[_]) (news:=xs) yB Dx M M H wn M M bT.empty hxl (fun j u hj=>H.hp.aJ<|hxc j u hj) hx1 O O M ?_;intro v7 Lo a w hrow H;dsimp only[List.nil_append]at H;exact kH H (bZ K1 M<|LR results237 M fun H=>H.hp.gX ⟨_,by rw[fB,hn]at hrow;exact hrow,gK⟩)
theorem avS(G:GH)(w0:World)(hG:Hold G w0)(rows:List (List Dat))(A:Option Addr)(n c:Nat)(hv:av G (.sl 2 rows) (.slice A n c))(hz:rows.length<=4294967296) :
  Calls prog 237 #[.slice A n c] w0 (bD w0 G fun u G'=>av G' (.sl 2 rows) u):=ME hG (awc G w0 (yj hG) rows A n c hv hz) M
theorem avX(G:GH)(w0:World)(hO:fZ G [] w0)(rows:List (List Dat))(A:Option Addr)(n c:Nat)(hv:av G (.sl 4 rows) (.slice A n c))(hz:rows.length<=4294967296) :
  Calls prog 238 #[.slice A n c] w0 (fG w0 G [] fun u G' L'=>∃xs,bT 209 4 u rows.length xs L'∧bR G' 4 rows xs):=by
 obtain⟨hn,hc1,hc2,hnil,hx⟩:=hv.cells;refine iY (N:=8) (T:=[(0,_)]) func238 M ntmps238 M M hO<|SR fun _ K1=>ak K1 M<|SQ fun _ K2=>SR fun _ K3=>Rm M fun a H=>EF IY H wn M M fun a H=>K3 _ _<|jU H M ?_ ?_
 ·intro h4;exact kP H<|SR fun _ K1=>ak K1 M fun a H=>lr H results238 M JC
 intro h4;refine fU<|K2 _ _<|bU<|fun _ K1=>?_
 have hA:¬A=none:=by intro e;rw[e]at h4;cases h4
 refine mF<|ED IY Le H wn M fun b5 a w hb5 H=>kH H<|Rm M ?_;intro a H
 by_cases hr0:rows=[]
 ·have hn0:n=0:=by rw[hn,hr0];rfl
  subst hn0;refine Dn IY Le H wn M M (eP _) M<|bZ K1 M fun a H=>lr H results238 M ?_;subst hr0;exact Ju
 obtain⟨b,o,xs,rfl,hxl,hxc,hx1,gK⟩:=hx hr0;refine lW (Li:=[]) (Lo:=[_]) (news:=xs) IY Le M M H wn M M bT.empty hxl (fun j u hj=>H.hp.aJ<|hxc j u hj) hx1 O O M ?_;intro v7 Lo a w hrow H;dsimp only[List.nil_append]at H;exact kH H (bZ K1 M<|LR results238 M fun H=>H.hp.gX ⟨_,by rw[fB,hn]at hrow;exact hrow,gK⟩)
theorem avR(G:GH)(w0:World)(hG:Hold G w0)(rows:List (List Dat))(A:Option Addr)(n c:Nat)(hv:av G (.sl 4 rows) (.slice A n c))(hz:rows.length<=4294967296) :
  Calls prog 238 #[.slice A n c] w0 (bD w0 G fun u G'=>av G' (.sl 4 rows) u):=ME hG (avX G w0 (yj hG) rows A n c hv hz) M
section
def AO(x:Nat->aj×OL)(m:Nat)(y:aj×OL):Nat->aj×OL:=fun j=>if j=m then y else x j
theorem aIz(x:Nat->aj×OL)(m:Nat)(y:aj×OL):AO x m y m=y:=ay M
theorem arK{x:Nat->aj×OL}{m j:Nat}{y:aj×OL}(h:j≠m):AO x m y j=x j:=au h
def tq(ms:List Nat)(S:Nat->Bool)(x:Nat->aj×OL):OL:=ms.flatMap fun m=>bif S m then(x m).2 else[]
theorem aln{S:Nat->Bool}{x:Nat->aj×OL}{y:aj×OL}{m:Nat}:∀{ms:List Nat},m∉ms->tq ms (dD S m) (AO x m y)=tq ms S x
 |[],_=>rfl
 |k::ms,h=>by
  have hk:k≠m:=fun e=>h (by simp[e])
  have ih:=aln (S:=S) (x:=x) (y:=y) (ms:=ms) fun hm=>h<|gH _ hm
  unfold tq at ih|-
  rw[List.flatMap_cons,List.flatMap_cons,ih,arK hk,show dD S m k=S k from au hk]
theorem alo{S:Nat->Bool}{x:Nat->aj×OL}{y:aj×OL}{m:Nat}(hS:S m=false):∀{ms:List Nat},ms.Nodup->m∈ms->(y.2++tq ms S x).Perm (tq ms (dD S m)<|AO x m y)
 |k::ms,hn,hm=>by
  rw[List.nodup_cons]at hn
  by_cases hk:k=m
  ·subst hk
   have e:=aln (S:=S) (x:=x) (y:=y) hn.1
   unfold tq at e|-
   rw[List.flatMap_cons,List.flatMap_cons,e,aIz,hS,show dD S k k=true from ay M]
   exact List.Perm.refl _
  ·have ih:=alo (S:=S) (x:=x) (y:=y) hS hn.2 (by
    rcases iL.1 hm with e|h
    ·exact absurd e.symm hk
    ·exact h)
   unfold tq at ih|-
   rw[List.flatMap_cons,List.flatMap_cons,arK hk,show dD S m k=S k from au hk,<-iG]
   refine(List.Perm.append_right _ vD).trans ?_
   rw[iG]
   exact List.Perm.append_left _ ih
section
variable{N:Nat}{D:List Deferred}{w0:World}{F:Nat->Prop}{G0 G G1 G2:GH}{L L1 L2:OL}{T Xs:List (Nat×aj)}
variable{r:Option Nat}{P:Program}{Q:Exit->Act->World->Prop}{l:List Oper}{a a':Act}{w w':World}
theorem aiM{id:Nat}(ms:List Nat)(hm:P.follows .mixedOrders=true)(bK:List (List Nat))(B:List Nat)(hk:xO l bK=true)(hB:yx l bK B=true)(hnd:ms.Nodup)(hms:(ms.all fun m=>Nat.blt m l.length&&!B.contains m)=true)(pr:(Nat->aj×OL)->Nat->aj->GH->Prop)
  (hp:∀m,ms.contains m=true->∀x y i v G,Nat.beq i m=false->(bK.getD i []).contains m=false->pr x i v G->pr (AO x m y) i v G)
  (H:St N D w0 F G0 G L T a w)
  (hstep:allI (fun i o=>∀x L' S a w G1,(∀q,q∈L->q∈L')->B.contains i=false->ms.contains i=false->S i=false->(∀j∈bK.getD i [],S j=true)->(∀k o,G k=some o->G1 k=some o)->St N D w0 F G0 G1 L' T a w->(∀i d,S i=true->dZ l i=some d->∃v,a.tmps[d]?=some v∧pr x i v G1)->
   WL r P l.toArray (fun e a' w'=>e=.normal∧DX N D w0 F G0 G L' T l (pr x) (dD S i) a' w') [o] a w) 0 l)
  (hmid:allI (fun m o=>ms.contains m=true->∀x L' S a w G1,(∀q,q∈L->q∈L')->S m=false->(∀j∈bK.getD m [],S j=true)->(∀k o,G k=some o->G1 k=some o)->St N D w0 F G0 G1 L' T a w->(∀y i d,i≠m->S i=true->dZ l i=some d->∃v,a.tmps[d]?=some v∧pr (AO x m y) i v G1)->
   WL r P l.toArray (fun e a' w'=>e=.normal∧∃y,DX N D w0 F G0 G (y.2++L') T l (pr<|AO x m y) (dD S m) a' w') [o] a w) 0 l)
  (hend:∀x a w G1,(∀k o,G k=some o->G1 k=some o)->St N D w0 F G0 G1 (tq ms (fun _=>true) x++L) T a w->(∀i d,B.contains i=false->dZ l i=some d->∃v,a.tmps[d]?=some v∧pr x i v G1)->WL r P l.toArray (fun e a w=>e=.normal∧Q .normal a w) (qM l B) a w):WP r P (.region id l.toArray true) Q a w:=by
 refine JG hm bK B hk hB (fun S a w=>∃x,DX N D w0 F G0 G (tq ms S x++L) T l (pr x) S a w)
  ⟨fun _=>(.bool false,[]),DX.perm (L1:=L) ⟨G,fun _ _ h=>h,H.move H.hp.drew,fun _ _ h=>absurd (show false=true from h) Z⟩ (by
   have:∀ms:List Nat,tq ms (fun _=>false) (fun _=>(.bool false,[]))=[]:=fun ms=>by
    induction ms with
    |nil=>rfl
    |cons k ms ih=>unfold tq at ih|-;rw[List.flatMap_cons,ih];rfl
   rw[this];exact List.Perm.refl _)⟩ ?_ ?_
 ·rintro i o S a w ho hb aM jA hdesc ⟨x,G1,hG,HS,hv⟩
  have hsub:∀q,q∈L->q∈tq ms S x++L:=fun q hq=>List.mem_append_right _ hq
  have hno:∀j,j<l.length->S j=true->(bK.getD j []).contains i=false:=fun j hjl hj=>by
   cases hc:(bK.getD j []).contains i with
   |false=>rfl
   |true=>
    have:=hdesc j hjl (by simpa using hc)
    rw[this]at hj;cases hj
  cases hi:ms.contains i with
  |true=>
   have h:=zM hmid i o ho
   rw[fB]at h
   have h:=h hi x _ S a w G1 hsub aM jA hG HS fun y j d hj hSj hd=>by
    obtain⟨v,hv1,hv2⟩:=hv j d hSj hd
    exact⟨v,hv1,hp i hi x y j v _ (qY hj) (hno j (rR hd) hSj) hv2⟩
   refine mU (fun e a' w'⟨he,y,hD⟩=>⟨he,AO x i y,hD.perm ?_⟩) h
   rw[<-iG]
   exact List.Perm.append_right L (alo aM hnd (by simpa using hi))
  |false=>
   have h:=zM hstep i o ho
   rw[fB]at h
   have e:∀ms:List Nat,i∉ms->tq ms (dD S i) x=tq ms S x:=fun ms hn=>by
    induction ms with
    |nil=>rfl
    |cons k ms ih=>
     have ih:=ih fun h=>hn<|gH _ h
     unfold tq at ih|-
     rw[List.flatMap_cons,List.flatMap_cons,ih,show dD S i k=S k from au fun e=>hn (by simp[e])]
   refine mU (fun e' a' w'⟨he,hD⟩=>⟨he,x,?_⟩)<|h x _ S a w G1 hsub hb hi aM jA hG HS hv
   rw[e ms (by simpa using hi)]
   exact hD
 ·rintro S a w hall Nt ⟨x,G1,hG,HS,hv⟩
  have hS:∀m∈ms,S m=true:=fun m hmm=>by
   have h:=lM.1 hms m hmm
   rw[kV]at h
   exact hall m (Eq.mp Nat.blt_eq h.1) (by simpa using h.2)
  have e:∀ms:List Nat,(∀m∈ms,S m=true)->tq ms S x=tq ms (fun _=>true) x:=fun ms h=>by
   induction ms with
   |nil=>rfl
   |cons k ms ih=>
    have ih:=ih fun m hm=>h m<|gH _ hm
    unfold tq at ih|-
    rw[List.flatMap_cons,List.flatMap_cons,ih,h k fJ]
  replace e:=e ms hS
  rw[e]at HS
  exact hend x a w G1 hG HS fun j d hb hd=>hv j d (hall j (rR hd) hb) hd
end
end
theorem ayx:aW 234:=aX func234 M
theorem ayy:aW 235:=aX func235 M
theorem ayz:aW 236:=aX func236 M
theorem ayA:aW 237:=aX func237 M
theorem aH0:sO prog 36 [(0,1),(1,1),(2,1),(3,1)] [.slice none 0 0,.slice none 0 0,.slice none 0 0,.slice none 0 0]:=⟨V,V⟩
theorem ayB:aW 238:=aX func238 M
theorem bg.setAt{G:GH}:∀{r:List Dat}{cs:List aj}{k:Nat}{d:Dat}{v:aj},bg G r cs->r[k]?=some d->av G d v->bg G r (cs.set k v)
 |[],_,_,_,_,_,h,_=>by simp at h
 |e::r,cs,k,d,v,h,hk,hv=>by
  simp only[bg]at h|-
  obtain⟨x,vs,rfl,h1,h2⟩:=h
  cases k with
  |zero=>
   simp only[Cg,oW]at hk
   subst hk;exact⟨v,vs,M,hv,h2⟩
  |succ k=>exact⟨x,vs.set k v,M,h1,bg.setAt h2 (by simpa using hk) hv⟩
theorem bR.setAt{G:GH}{sz:Nat}:∀{rows:List (List Dat)}{xs:List aj}{i k:Nat}{r:List Dat}{d:Dat}{v:aj},bR G sz rows xs->rows[i]?=some r->r[k]?=some d->k<sz->av G d v->bR G sz rows (xs.set (i*sz+k) v)
 |[],_,_,_,_,_,_,_,h,_,_,_=>by simp at h
 |q::rows,xs,i,k,r,d,v,h,hr,hk,hs,hv=>by
  obtain⟨css,rfl,h2,h3⟩:=h
  cases css with
  |nil=>simp at h2
  |cons c css=>
   obtain⟨h4,h5⟩:=h3 0 q c M M;have h6:bR G sz rows css.flatten:=⟨css,M,by simpa using h2,fun j r' cs hr' hc=>h3 (j+1) r' cs (by simpa using hr') (by simpa using hc)⟩
   have h7:∀{c' x':List aj},bg G q c'->c'.length=sz->bR G sz rows x'->bR G sz (q::rows) (c'++x'):=fun a b e=>by
    have h8:=((bR.nil (G:=G) (sz:=sz)).snoc a b).append e
    simpa using h8
   rw[List.flatten_cons]
   cases i with
   |zero=>
    simp only[Cg,oW]at hr
    subst hr;rw[Nat.zero_mul,fB,List.set_append_left _ _ O];exact h7 (h4.setAt hk hv) (by rw[List.length_set];exact h5) h6
   |succ i=>
    rw[List.set_append_right _ _ (by rw[h5,Nat.succ_mul];omega),h5,show(i+1)*sz+k-sz=i*sz+k by rw[Nat.succ_mul];omega];exact h7 h4 h5 (bR.setAt h6 (by simpa using hr) hk hs hv)
theorem aH4{G:GH}{l:List dh}{xs:List aj}{k:Nat}(h:bR G 6 (l.map dh.dat) xs)(hk:k<l.length):∃A c,xs[k*6+5]?=some (.slice A l[k].props.length c)∧av G (.sl 2<|l[k].props.map jy.dat) (.slice A l[k].props.length c):=by
 obtain⟨cs,hcl,hcx,hcr⟩:=h.at (k:=k) (r:=l[k].dat) (by simp[hk]);obtain⟨A,c,rfl,hp⟩:=Xa hcr;exact⟨A,c,hcx 5 _ M,hp⟩
theorem aEA{G:GH}{l:List fV}{xs:List aj}{k:Nat}(h:bR G 2 (l.map fV.dat) xs)(hk:k<l.length):∃A n c,xs[k*2+1]?=some (.slice A n c)∧av G (.sl 4<|l[k].levels.map qG.dat) (.slice A n c):=by
 obtain⟨cs,hcl,hcx,hcr⟩:=h.at (k:=k) (r:=l[k].dat) (by simp[hk]);obtain⟨v1,vs,rfl,-,v2,vs2,rfl,h2,-⟩:=hcr;obtain⟨A,n,c,rfl⟩:=av.form h2;exact⟨A,n,c,hcx 1 _ M,h2⟩
theorem aul {p:Prop} (h:p:=by
 exact Ht HT Hb hG hv (iq bP) H M):p:=h
theorem aum {p:Prop} (h:p:=by
 exact qw V (iq bP) M M HT Hb hG hv J2 (zi) H):p:=h
theorem wF {p:Prop} (h:p:=by
 clear H;intro a H;refine aI ⟨M,?_⟩;exact aul):p:=h
theorem ZH {p:Prop} (h:p:=by
 (iterate 15 (rcases i with _|i;(first|exact h|exact absurd hi Z|exact absurd hc Z)));exact trivial):p:=h
theorem agJ {p:Prop} (h:p:=by
 refine dN [] M trivial V Eo M M ?_;intro aZ a w G1 hG HT H fin;exact kH H (Rf MU M fun _ H=>fin H iJ M)):p:=h
theorem agK {p:Prop} (h:p:=by
 refine dN [] M trivial V Ep M M ?_;intro aZ a w G1 hG HT H fin;exact kH H (Rf MS M fun _ H=>fin H iJ M)):p:=h
theorem ahk {p:Prop} (h:p:=by
 clear H;rintro v14 DR a w zi J2 H;refine aI ⟨M,?_⟩;exact aum):p:=h
theorem ahl {p:Prop} (h:p:=by
 intro aZ a w G1 hG HT H fin;exact kH H (Ro uL 0 M fun _ H=>fin H iJ M)):p:=h
theorem ahm {p:Prop} (h:p:=by
 intro aZ a w G1 hG HT H fin;exact kH H (Ro EM 0 M fun _ H=>fin H iJ M)):p:=h
set_option maxHeartbeats 2000000 in
theorem awf(G:GH)(w0:World)(hG:Hold G w0)(s:DY)(a1 b1_ c1 d1:aj)(hR:Ca G s a1 b1_ c1 d1)(z1:s.styles.length<=4294967296)(z2:s.lists.length<=4294967296)(z3:s.comments.length<=4294967296)(z4:s.vars.length<=4294967296)(z5:∀x∈s.styles,x.props.length<=4294967296)(z6:∀x∈s.lists,x.levels.length<=4294967296) :
  Calls prog 180 #[.agg #[a1,b1_,c1,d1]] w0 (bD w0 G fun u G'=>∃a' b' c' d',u=.agg #[a',b',c',d']∧Ca G' s a' b' c' d'):=by
 have hml:maxLen=9223372036854775807:=rfl;obtain⟨aA,an,ac,rfl⟩:=hR.st.form;obtain⟨bA,bn,bc,rfl⟩:=hR.li.form;obtain⟨cA,cn,cc,rfl⟩:=hR.cm.form;obtain⟨dA,dn,dc,rfl⟩:=hR.va.form;obtain⟨hs1,hs2,hs3,hs4⟩:=hR;refine eN [(0,_)] func180 M ntmps180 M M hG fun a H=>dw<|fun _ K1=>eD (cs:=[_,_,_,_]) H wn M M M fun b1 a w hb1 H=>dK DC H wn M fun b2 a w hb2 H=>K1 _ _<|bU<|fun _ K1=>?_;have H:=H.dR (Pl:=[_,_]) (dH:=[_,_]) [1,0] Z M;obtain⟨Ga,hma,hb1',H⟩:=H.eX;have hga:=fun j v hj=>lQ hb1' 0 [.slice aA an ac,.slice bA bn bc,.slice cA cn cc,.slice dA dn dc] M j v hj;replace hs1:=hs1.mono hma;replace hs2:=hs2.mono hma;replace hs3:=hs3.mono hma;replace hs4:=hs4.mono hma
 have iq:Yc (fun(bP:Nat->aj×OL)(cu:Nat)(v:aj)(G:GH)=>match cu with|0=>v=(aK b1 0)|1=>v=.slice aA an ac|2=>v=(bP 2).1∧∃xs,bT 171 6 v s.styles.length xs (bP 2).2∧bR G 6 (s.styles.map dh.dat) xs|3=>v=(aK b1 1)|4=>v=.slice bA bn bc|5=>v=(bP 5).1∧∃xs,bT 174 2 v s.lists.length xs (bP 5).2∧bR G 2 (s.lists.map fV.dat) xs|6=>v=(aK b1 2)|7=>v=.slice cA cn cc|8=>av G (.sl 6<|s.comments.map jw.dat) v|9=>v=(aK b1 3)|10=>v=.slice dA dn dc|11=>av G (.sl 2<|s.vars.map mV.dat) v|12=>∃c' d',v=.agg #[(bP 2).1,(bP 5).1,c',d']∧av G (.sl 6<|s.comments.map jw.dat) c'∧av G (.sl 2<|s.vars.map mV.dat) d'|13=>∃b,v=(aK b 0)∧bP 13=((aK b 0),[(b,.cells #[.slice none 0 0,.slice none 0 0,.slice none 0 0,.slice none 0 0] 36 (0,0))])|_=>True):=by intro bP cu v G G' hm h;(iterate 15 (rcases cu with _|cu;(first|exact h|exact let⟨h1,xs,h2,h3⟩:=h;⟨h1,xs,h2,h3.mono hm⟩|exact av.mono hm h|exact let⟨c',d',h1,h2,h3⟩:=h;⟨c',d',h1,h2.mono hm,h3.mono hm⟩)));exact trivial
 refine aiM [2,5,13] (hmx) [[],[0],[0,1],[],[3],ra 0 5,[],[6],ra 0 8,[],[9],ra 0 11,ra 0 12,[],ra 0 14] [14] V V Z V (fun(bP:Nat->aj×OL)(cu:Nat)(v:aj)(G:GH)=>match cu with|0=>v=(aK b1 0)|1=>v=.slice aA an ac|2=>v=(bP 2).1∧∃xs,bT 171 6 v s.styles.length xs (bP 2).2∧bR G 6 (s.styles.map dh.dat) xs|3=>v=(aK b1 1)|4=>v=.slice bA bn bc|5=>v=(bP 5).1∧∃xs,bT 174 2 v s.lists.length xs (bP 5).2∧bR G 2 (s.lists.map fV.dat) xs|6=>v=(aK b1 2)|7=>v=.slice cA cn cc|8=>av G (.sl 6<|s.comments.map jw.dat) v|9=>v=(aK b1 3)|10=>v=.slice dA dn dc|11=>av G (.sl 2<|s.vars.map mV.dat) v|12=>∃c' d',v=.agg #[(bP 2).1,(bP 5).1,c',d']∧av G (.sl 6<|s.comments.map jw.dat) c'∧av G (.sl 2<|s.vars.map mV.dat) d'|13=>∃b,v=(aK b 0)∧bP 13=((aK b 0),[(b,.cells #[.slice none 0 0,.slice none 0 0,.slice none 0 0,.slice none 0 0] 36 (0,0))])|_=>True) (fun m hm x y i v G hi hc h=>by
  have hm:m=2∨m=5∨m=13:=by simpa using hm
  rcases hm with rfl|rfl|rfl
  ·exact ZH
  ·exact ZH
  ·exact ZH
  ) H ?_ ?_ ?_
 ·clear H;refine aD ?_ ?_ ?_ ?_<|aD ?_ ?_ ?_ ?_<|aD ?_ ?_ ?_ ?_<|bE ?_<|bE ?_<|bE ?_ dz
  ·intro bP gI aZ a w G1 gU _ _ aM hc hG HT hv;have H:=HT;clear aM;have Hb:=H.full;have H:=Hb;clear hc;exact kH H<|Rf MS M wF
  ·intro bP gI aZ a w G1 gU _ _ aM hc hG HT hv;have H:=HT;clear aM;have H:=H.aQ (hv 0 6 (hc 0 Z) M) M;have Hb:=H.full;have H:=Hb;clear hc;exact kH H<|Rg uL M (aH hG<|hga 0 _ M) wF
  ·exact Fg
  ·intro bP gI aZ a w G1 gU _ _ aM hc hG HT hv;have H:=HT;clear aM;have Hb:=H.full;have H:=Hb;clear hc;exact kH H<|Rf MU M wF
  ·intro bP gI aZ a w G1 gU _ _ aM hc hG HT hv;have H:=HT;clear aM;have H:=H.aQ (hv 3 9 (hc 3 Z) M) M;have Hb:=H.full;have H:=Hb;clear hc;exact kH H<|Rg EM M (aH hG<|hga 1 _ M) wF
  ·exact Fg
  ·intro bP gI aZ a w G1 gU _ _ aM hc hG HT hv;have H:=HT;clear aM;have Hb:=H.full;have H:=Hb;clear hc;exact kH H<|Rf aaK M wF
  ·intro bP gI aZ a w G1 gU _ _ aM hc hG HT hv;have H:=HT;clear aM;have H:=H.aQ (hv 6 12 (hc 6 Z) M) M;have Hb:=H.full;have H:=Hb;clear hc;exact kH H<|Rg IW M (aH hG<|hga 2 _ M) wF
  ·intro bP gI aZ a w G1 gU _ _ aM hc hG HT hv;have H:=HT;clear aM;have H:=H.aQ (hv 7 13 (hc 7 Z) M) M;have Hb:=H.full;have H:=Hb;clear hc;exact s_call ayz H wn M (avQ _ _ H.ro _ _ _ _ (hs3.mono hG) (by simpa using z3)) M ahk
  ·intro bP gI aZ a w G1 gU _ _ aM hc hG HT hv;have H:=HT;clear aM;have Hb:=H.full;have H:=Hb;clear hc;exact kH H<|Rf aaL M wF
  ·intro bP gI aZ a w G1 gU _ _ aM hc hG HT hv;have H:=HT;clear aM;have H:=H.aQ (hv 9 15 (hc 9 Z) M) M;have Hb:=H.full;have H:=Hb;clear hc;exact kH H<|Rg AJ M (aH hG<|hga 3 _ M) wF
  ·intro bP gI aZ a w G1 gU _ _ aM hc hG HT hv;have H:=HT;clear aM;have H:=H.aQ (hv 10 16 (hc 10 Z) M) M;have Hb:=H.full;have H:=Hb;clear hc;refine s_call ayA H wn M (avS _ _ H.ro _ _ _ _ (hs4.mono hG) (by simpa using z4)) M ?_;clear H;rintro v17 DT a w Ij M7 H;exact aI ⟨M,qw V (iq bP) M M HT Hb hG hv M7 (Ij) H⟩
  ·intro bP gI aZ a w G1 gU _ _ aM hc hG HT hv;have H:=HT;clear aM;obtain⟨u8,CZ,qz⟩:=hv 2 8 (hc 2 Z) M;(try dsimp only at qz);obtain⟨h8,XB,FU,Vi⟩:=qz;obtain⟨sA,sc,rfl,-,-⟩:=FU.shape;have H:=H.fT CZ;obtain⟨Xj,FV,rX⟩:=hv 5 11 (hc 5 Z) M;(try dsimp only at rX);obtain⟨h11,OM,BD,Nk⟩:=rX;obtain⟨lA,lc,rfl,-,-⟩:=BD.shape;have H:=H.fT FV;obtain⟨u14,Ry,zi⟩:=hv 8 14 (hc 8 Z) M;(try dsimp only at zi);obtain⟨XF,n14,c14,rfl⟩:=zi.form;have H:=H.fT Ry;obtain⟨u17,aDG,Ij⟩:=hv 11 17 (hc 11 Z) M;(try dsimp only at Ij);obtain⟨A17,n17,c17,rfl⟩:=Ij.form;have H:=H.fT aDG;have Hb:=H.full;have H:=Hb;clear hc;exact jM aH0 [_,_,_,_] H wn M M M M fun a H=>aI ⟨M,qw V (iq bP) M M HT Hb hG hv (fun _ _ h=>h) (⟨_,_,by rw[<-h8,<-h11],zi,Ij⟩) H⟩
  ·exact Fg
  intro _ _ _ _ _ _ _ hB;exact jC
 ·clear H;refine aD ?_ ?_ ?_ ?_<|aD ?_ ?_ ?_ ?_<|aD ?_ ?_ ?_ ?_<|bE ?_<|bE ?_<|bE ?_ dz
  ·intro hB;exact jC
  ·intro hB;exact jC
  ·intro _ bP gI aZ a w G1 gU _ hc hG HT hv;have H:=HT;have H:=H.aQ (hv (.bool false,[]) 1 7 Z (hc 1 Z) M) M;have Hb:=H.full;have H:=Hb;clear hc;refine gM ayx (Li:=gI) (L:=[]) (H.cast (iR _).symm) wn M (avZ _ _ (yj H.ro) _ _ _ _ (hs1.mono hG) (by simpa using z1)) M ?_;clear H;rintro v8 G8 L8 a w ⟨XB,FU,Vi⟩ uX H;rw[bM]at FU;have H:=H.perm vD;exact aI ⟨M,(v8,L8),Co V (iq<|AO bP 2 (v8,L8)) M HT Hb hG (fun j e h1 h2 h3=>hv (v8,L8) j e h1 h2 h3) uX (⟨M,XB,FU,Vi⟩) H⟩
  ·intro hB;exact jC
  ·intro hB;exact jC
  ·intro _ bP gI aZ a w G1 gU _ hc hG HT hv;have H:=HT;have H:=H.aQ (hv (.bool false,[]) 4 10 Z (hc 4 Z) M) M;have Hb:=H.full;have H:=Hb;clear hc;refine gM ayy (Li:=gI) (L:=[]) (H.cast (iR _).symm) wn M (avY _ _ (yj H.ro) _ _ _ _ (hs2.mono hG) (by simpa using z2)) M ?_;clear H;rintro v11 DN Jh a w ⟨OM,BD,Nk⟩ nZ H;rw[bM]at BD;have H:=H.perm vD;exact aI ⟨M,(v11,Jh),Co V (iq<|AO bP 5 (v11,Jh)) M HT Hb hG (fun j e h1 h2 h3=>hv (v11,Jh) j e h1 h2 h3) nZ (⟨M,OM,BD,Nk⟩) H⟩
  ·intro hB;exact jC
  ·intro hB;exact jC
  ·intro hB;exact jC
  ·intro hB;exact jC
  ·intro hB;exact jC
  ·intro hB;exact jC
  ·intro hB;exact jC
  ·intro _ bP gI aZ a w G1 gU _ hc hG HT hv;have H:=HT;have Hb:=H.full;have H:=Hb;clear hc;exact dK DC H wn M fun b3 a w hb3 H=>aI ⟨M,((aK b3 0),[(b3,.cells #[.slice none 0 0,.slice none 0 0,.slice none 0 0,.slice none 0 0] 36 (0,0))]),Co V (iq<|AO bP 13 ((aK b3 0),[(b3,.cells #[.slice none 0 0,.slice none 0 0,.slice none 0 0,.slice none 0 0] 36 (0,0))])) M HT Hb hG (fun j e h1 h2 h3=>hv ((aK b3 0),[(b3,.cells #[.slice none 0 0,.slice none 0 0,.slice none 0 0,.slice none 0 0] 36 (0,0))]) j e h1 h2 h3) (fun _ _ h=>h) (⟨b3,M,M⟩) H⟩
  intro hB;exact jC
 clear H;intro bP a w G jL H hv
 simp only[tq,List.flatMap_cons,List.flatMap_nil,cond_true,iR,iG]at H
 obtain⟨u3,hu3,hp3⟩:=hv 13 3 Z M;(try dsimp only at hp3);obtain⟨b3,rfl,e13⟩:=hp3;have H:=H.fT hu3;obtain⟨u8,CZ,qz⟩:=hv 2 8 Z M;(try dsimp only at qz);obtain⟨h8,XB,FU,Vi⟩:=qz;obtain⟨sA,sc,rfl,-,-⟩:=FU.shape;have H:=H.fT CZ;obtain⟨Xj,FV,rX⟩:=hv 5 11 Z M;(try dsimp only at rX);obtain⟨h11,OM,BD,Nk⟩:=rX;obtain⟨lA,lc,rfl,-,-⟩:=BD.shape;have H:=H.fT FV;obtain⟨u18,aco,Q7⟩:=hv 12 18 Z M;(try dsimp only at Q7);obtain⟨aKU,aKV,rfl,hc18,amj⟩:=Q7;obtain⟨eA,en,ec,rfl⟩:=hc18.form;obtain⟨fA,fn,fc,rfl⟩:=amj.form;have H:=H.fT aco;clear hv;obtain⟨⟨vS,LS⟩,eS⟩:∃y,y=bP 2:=⟨_,M⟩;obtain⟨⟨vL,LL⟩,eL⟩:∃y,y=bP 5:=⟨_,M⟩;rw[<-eS,<-eL,e13]at H;rw[<-eS]at FU h8;rw[<-eL]at BD h11;dsimp only at H FU BD h8 h11;subst h8;subst h11;rw[<-iG]at H;have H:=H.perm<|vD (l₁:=LS++LL) (l₂:=[_,_]);dsimp only[lca,bq]at H;refine bH DC 0 (vs:=[_,_,_,_]) H wn M fun w H=>aI ⟨M,K1 _ _<|kP H<|SQ fun _ K1=>SR fun _ K2=>aV MS uL 0 M M<|Rl mR M<|Rm M<|Kz K2<|SB ?_⟩;clear H K2;intro a H;skip;refine dY (ι:=Nat×List aj×OL×GH) (Tc:=[(2,_),(3,_),(21,_)]) (Lc:=[(_,_),(_,_)]) (fun gh=>[(22,vi gh.1)]) (fun gh=>[]++(gh.2.2.1++LL)) (fun gh=>gh.2.2.2) (fun gh=>gh.1<=s.styles.length∧bT 171 6 (.slice sA s.styles.length sc) s.styles.length gh.2.1 gh.2.2.1∧bR gh.2.2.2 6 (s.styles.map dh.dat) gh.2.1∧(∀b o,G b=some o->gh.2.2.2 b=some o)) (fun gh=>s.styles.length-gh.1) ((0,XB,LS,G)) (by exact H.sub ⟨M,M,M,M,aC⟩) ?_ ?_
 ·exact⟨fP _,FU,Vi,fun _ _ h=>h⟩
 clear H;rintro⟨k,xs,Lo,g⟩ a w hI H;dsimp only at hI H;obtain⟨hk,hrw,gK,hgm⟩:=hI;dsimp only[lca,bq]at H;refine kP H (SR fun _ K2=>Rc M<|Kz K2<|SQ fun _ K3=>Cd M ?_ ?_)<;>clear H K2
 ·intro h23 a H
  try have rH:=dT h23
  have hk2:k<s.styles.length:=by omega
  obtain⟨bs,rfl⟩:=hrw.ptr O;obtain⟨pA,pc,hpx,hpr⟩:=aH4 gK hk2;obtain⟨cur,-,rfl,hcur,hset⟩:=hrw.set1;have hpz:=z5 _<|ig hk2;refine kP H<|Kc K3<|SQ fun _ K2=>SB<|SR fun _ K4=>Rm M<|ak K4 M ?_;clear H K3 K4;intro a H
  have Ep:yG (fun(cu:Nat)(v:aj)(G:GH)=>match cu with|0=>v=(aK b3 0)|1=>v=.slice (some ⟨bs,0,none⟩) s.styles.length sc|2=>v=vi k|3=>v=(aK b3 0)|4=>v=.slice (some ⟨bs,0,none⟩) s.styles.length sc|5=>v=vi k|6=>v=(aK bs (0+k*6))|7=>v=(aK bs (0+k*6+5))|8=>v=.slice pA s.styles[k].props.length pc|9=>av G (.sl 2<|s.styles[k].props.map jy.dat) v|_=>True):=by intro cu v G G' hm h;(iterate 13 (rcases cu with _|cu;(first|exact h|exact av.mono hm h)));exact trivial
  refine yM (hmx) [[],[0],[],[],[3],[],[3,4,5],ra 3 4,ra 3 5,ra 3 6,ra 0 10,ra 0 11,ra 0 12] [10,11,12] V V _ Ep H ?_ ?_
  ·clear H;refine aD ?_ ?_ ?_ ?_<|aD ?_ ?_ ?_ ?_<|aD ?_ ?_ (bX M) (bX M)<|bE (bX M) dz
   ·exact agK
   ·exact dN [(0,25,_)] M ⟨fun _ _ h=>h,aC⟩ V Ep M M ahl
   ·exact dN [] M trivial V Ep M M JA
   ·exact agK
   ·exact dN [(3,28,_)] M ⟨fun _ _ h=>h,aC⟩ V Ep M M ahl
   ·exact dN [] M trivial V Ep M M JA
   ·exact dN [(4,29,_),(5,30,_)] M ⟨fun _ _ h=>h,fun _ _ h=>h,aC⟩ V Ep M M fun aZ a w G1 hG HT H fin=>kH H<|Ri mR kQ M M fun _ H=>fin H iJ M
   ·exact dN [(6,31,_)] M ⟨fun _ _ h=>h,aC⟩ V Ep M M fun aZ a w G1 hG HT H fin=>kH H<|Rf UM M fun _ H=>fin H iJ M
   ·exact dN [(7,32,_)] M ⟨fun _ _ h=>h,aC⟩ V Ep M M fun aZ a w G1 hG HT H fin=>vo Dy H wn M (hrw.at H.hp (fun x hx=>gH _<|gH _<|List.mem_append_left _ hx) (by rw[fB];exact hpx)) M jD
   refine dN [(8,33,_)] M ⟨fun _ _ h=>h,aC⟩ V Ep M M fun aZ a w G1 hG HT H fin=>s_call akb H wn M (ajb _ _ H.ro _ _ _ _ (hpr.mono hG) (by simpa using hpz)) M ?_;clear H;rintro v34 G34 a w Rh aAX H;exact fin H aAX<|Rh
  clear H;intro a w G CK H hv;have H:=H.aQ (hv 1 26 M M) M;have H:=H.aQ (hv 2 27 M M) M;obtain⟨u34,aDH,Rh⟩:=hv 9 34 Z M;(try dsimp only at Rh);obtain⟨LB,n34,c34,rfl⟩:=Rh.form;have H:=H.fT aDH;clear hv;refine kH H (Ri mR kQ M M (Rf UM M fun a H=>EG Dy 2 (c:=cur) (vs:=[.slice LB n34 c34]) (cur.set (k*6+5) (.slice LB n34 c34)) H wn M M M M M M (by simp;omega) (by rw[fB];rfl) ?_));clear H;intro w H;dsimp only[List.set,List.cons_append,List.nil_append]at H;have hrwn:=hset (k*6+5) (.slice LB n34 c34);have abB:=(gK.mono CK).setAt (i:=k) (k:=5) (r:=s.styles[k].dat) (v:=.slice LB n34 c34) (by simp[hk2]) M Z Rh;refine aI ⟨M,K2 _ _ (kP H (SC (Rd M (Rm M fun a H=>aI (dO ((k+1,xs.set (k*6+5) (.slice LB n34 c34),[(bs,.cells (cur.set (k*6+5) (.slice LB n34 c34)).toArray 171 (0,0))],_)) (by exact H.sub ⟨M,M,M,M,aC⟩) ?_)))))⟩
  (try dsimp only);exact⟨O,hrwn,abB,fun b o h=>CK b o<|hgm b o h⟩
 intro h23 a H
 try have rH:=dF h23
 obtain rfl:k=s.styles.length:=by omega
 refine dS<|K1 _ _<|kP H<|SQ fun _ K1=>SR fun _ K2=>aV MU EM 0 M M<|Rl zB M<|Rm M<|Kz K2<|SB ?_;clear H K2;intro a H;skip;refine dY (ι:=Nat×List aj×OL×GH) (Tc:=[(2,_),(3,_),(40,_)]) (Lc:=[(_,_),(_,_)]) (fun gh=>[(41,vi gh.1)]) (fun gh=>[]++(Lo++gh.2.2.1)) (fun gh=>gh.2.2.2) (fun gh=>gh.1<=s.lists.length∧bT 174 2 (.slice lA s.lists.length lc) s.lists.length gh.2.1 gh.2.2.1∧bR gh.2.2.2 2 (s.lists.map fV.dat) gh.2.1∧(∀b o,g b=some o->gh.2.2.2 b=some o)) (fun gh=>s.lists.length-gh.1) ((0,OM,LL,g)) (by exact H.sub ⟨M,M,M,M,aC⟩) ?_ ?_
 ·exact⟨fP _,BD,Nk.mono hgm,fun _ _ h=>h⟩
 clear H;rintro⟨k2,xs2,OZ,g2⟩ a w hI H;dsimp only at hI H;obtain⟨hk2,hrw2,Nl,nk⟩:=hI;dsimp only[lca,bq]at H;refine kP H (SR fun _ K2=>Rc M<|Kz K2<|SQ fun _ K4=>Cd M ?_ ?_)<;>clear H K2
 ·intro jP a H
  try have p42:=dT jP
  have hk3:k2<s.lists.length:=by omega
  obtain⟨bl,rfl⟩:=hrw2.ptr O;obtain⟨qA,qn,qc,hqx,hqr⟩:=aEA Nl hk3;obtain⟨aae,-,rfl,aJ8,aDA⟩:=hrw2.set1;have hqz:=z6 _<|ig hk3;refine kP H<|Kc K4<|SQ fun _ K2=>SB<|SR fun _ K5=>Rm M<|ak K5 M ?_;clear H K4 K5;intro a H
  have Eo:yG (fun(cu:Nat)(v:aj)(G:GH)=>match cu with|0=>v=(aK b3 1)|1=>v=.slice (some ⟨bl,0,none⟩) s.lists.length lc|2=>v=vi k2|3=>v=(aK b3 1)|4=>v=.slice (some ⟨bl,0,none⟩) s.lists.length lc|5=>v=vi k2|6=>v=(aK bl (0+k2*2))|7=>v=(aK bl (0+k2*2+1))|8=>v=.slice qA qn qc|9=>av G (.sl 4<|s.lists[k2].levels.map qG.dat) v|_=>True):=by intro cu v G G' hm h;(iterate 13 (rcases cu with _|cu;(first|exact h|exact av.mono hm h)));exact trivial
  refine yM (hmx) [[],[0],[],[],[3],[],[3,4,5],ra 3 4,ra 3 5,ra 3 6,ra 0 10,ra 0 11,ra 0 12] [10,11,12] V V _ Eo H ?_ ?_
  ·clear H;refine aD ?_ ?_ ?_ ?_<|aD ?_ ?_ ?_ ?_<|aD ?_ ?_ (bX M) (bX M)<|bE (bX M) dz
   ·exact agJ
   ·exact dN [(0,44,_)] M ⟨fun _ _ h=>h,aC⟩ V Eo M M ahm
   ·exact dN [] M trivial V Eo M M JA
   ·exact agJ
   ·exact dN [(3,47,_)] M ⟨fun _ _ h=>h,aC⟩ V Eo M M ahm
   ·exact dN [] M trivial V Eo M M JA
   ·exact dN [(4,48,_),(5,49,_)] M ⟨fun _ _ h=>h,fun _ _ h=>h,aC⟩ V Eo M M fun aZ a w G1 hG HT H fin=>kH H<|Ri zB Du M M fun _ H=>fin H iJ M
   ·exact dN [(6,50,_)] M ⟨fun _ _ h=>h,aC⟩ V Eo M M fun aZ a w G1 hG HT H fin=>kH H<|Rf aaI M fun _ H=>fin H iJ M
   ·exact dN [(7,51,_)] M ⟨fun _ _ h=>h,aC⟩ V Eo M M fun aZ a w G1 hG HT H fin=>vo aeh H wn M (hrw2.at H.hp (fun x hx=>gH _<|gH _<|List.mem_append_right _ hx) (by rw[fB];exact hqx)) M jD
   refine dN [(8,52,_)] M ⟨fun _ _ h=>h,aC⟩ V Eo M M fun aZ a w G1 hG HT H fin=>s_call ayB H wn M (avR _ _ H.ro _ _ _ _ (hqr.mono hG) (by simpa using hqz)) M ?_;clear H;rintro v53 G53 a w Rj abk H;exact fin H abk<|Rj
  clear H;intro a w G qI H hv;have H:=H.aQ (hv 1 45 M M) M;have H:=H.aQ (hv 2 46 M M) M;obtain⟨u53,aDJ,Rj⟩:=hv 9 53 Z M;(try dsimp only at Rj);obtain⟨LC,n53,c53,rfl⟩:=Rj.form;have H:=H.fT aDJ;clear hv;refine kH H (Ri zB Du M M (Rf aaI M fun a H=>EG aeh (2+Lo.length) (c:=aae) (vs:=[.slice LC n53 c53]) (aae.set (k2*2+1) (.slice LC n53 c53)) H wn M (anO [_,_] Lo _) M M M M (by simp;omega) (by rw[fB];rfl) ?_));clear H;intro w H;have H:=H.cast<|aqD [_,_] Lo _ _;have aDx:=aDA (k2*2+1) (.slice LC n53 c53);have aBX:=(Nl.mono qI).setAt (i:=k2) (k:=1) (r:=s.lists[k2].dat) (v:=.slice LC n53 c53) (by simp[hk3]) M Z Rj;refine aI ⟨M,K2 _ _ (kP H (SC (Rd M (Rm M fun a H=>aI (dO ((k2+1,xs2.set (k2*2+1) (.slice LC n53 c53),[(bl,.cells (aae.set (k2*2+1) (.slice LC n53 c53)).toArray 174 (0,0))],_)) (by exact H.sub ⟨M,M,M,M,aC⟩) ?_)))))⟩
  (try dsimp only);exact⟨O,aDx,aBX,fun b o h=>qI b o<|nk b o h⟩
 intro jP a H
 try have p42:=dF jP
 obtain rfl:k2=s.lists.length:=by omega
 refine dS<|K1 _ _<|dw<|fun _ K1=>aY DC (cs:=[_,_,_,_]) H wn M M (H.hp.dB 0 M M) M fun a H=>bH DC 1 (vs:=[_,_,_,_]) H wn M fun w H=>K1 _ _<|eH ?_;have H:=H.un (A:=[_,_]);obtain⟨Gr,hmr,aDj,H⟩:=St.qy (Li:=[_,_]++Lo) H hrw2 (rows:=s.lists.map fV.dat) (by simp) Nl;obtain⟨Gs,hms,aDi,H⟩:=St.qy (Li:=[_,_]) H hrw (rows:=s.styles.map dh.dat) (by simp) ((gK.mono nk).mono hmr);refine(leave1 H results180 (.cons (vk DC (cs:=[_,_,_,_]) H M M<|H.hp.dB 1 M M) .nil) ?_).1;exact H.rt ⟨_,_,_,_,M,aDi,aDj.mono hms,(((hc18.mono hgm).mono nk).mono hmr).mono hms,(((amj.mono hgm).mono nk).mono hmr).mono hms⟩
theorem ajI:aW 102:=aX func102 M
theorem axK:aW 180:=aX func180 M
theorem aqX:sO prog 38 [(0,1),(1,5),(6,1),(7,4)] [.slice none 0 0,.slice none 0 0,.int .i64 0,.int .i64 0,.slice none 0 0,.slice none 0 0,.slice none 0 0,.slice none 0 0,.slice none 0 0,.slice none 0 0,.slice none 0 0]:=⟨V,V⟩
theorem avT(G:GH)(w0:World)(hO:fZ G [] w0)(l:List ah)(v:aj)(hv:av G (.sl 11<|l.map ah.dat) v)(hz:aR l<=4294967296) :
  Calls prog 140 #[v] w0 (fG w0 G [] fun u G' L'=>∃xs,bT 118 11 u l.length xs L'∧bR G' 11 (l.map ah.dat) xs):=by
 have ih:=Uk 4294967297 O;have hl:=wo l;refine iY (N:=5) (T:=[(0,_)]) func140 M ntmps140 M M hO (SR fun _ K1=>ak K1 M (SR fun _ K2=>Rm M fun a H=>gM ajW (Li:=[]) (L:=[]) H wn M (ajD (fun x=>x) _ _ (yj H.ro) l _ _ hv O<|fun y hy=>aiZ (n:=4294967296) (Uk 4294967296 O) O y (by have:=I8 hy;omega)) rfl ?_));clear H;rintro v4 G4 L4 a w ⟨xs4,aDq,aBS⟩ Kj H;dsimp only[List.nil_append]at H;exact kH H<|ak K2 M<|LR results140 M fun H=>H.hp.gX ⟨xs4,aDq,aBS⟩
def asJ(G:GH)(D:jh)(d:jq)(L:OL):Prop :=
 ∃xf Lf xr Lr,L=Lf++Lr∧bT 118 11 (bN D.f) d.flow.length xf Lf∧bR G 11 (d.flow.map ah.dat) xf∧bT 81 3 (bN D.r) d.revs.length xr Lr∧bR G 3 (d.revs.map dJ.dat) xr∧
  kr G d.fin (bN D.p) (bN D.d) (bN D.y)∧D.ins=d.fin.marks.ins∧D.move=d.fin.marks.move∧Ca G d.qb (bN D.s1) (bN D.s2) (bN D.s3) (bN D.s4)
theorem agS {p:Prop} (h:p:=by
 (iterate 14 (rcases i with _|i;(first|exact h|exact absurd hi Z|exact absurd hc Z)));exact trivial):p:=h
set_option maxHeartbeats 2000000 in
theorem awL(G:GH)(w0:World)(hO:fZ G [] w0)(D:jh)(d:jq)(hR:lH G D d)(hz:sM d) :
  Calls prog 105 #[D.val] w0 (fG w0 G [] fun u G' L'=>∃D':jh,u=D'.val∧asJ G' D' d L'):=by
 obtain⟨hfl,hhd,hins,hmv,xZ,hst⟩:=hR;obtain⟨zf,zh,zr,zt,zs,Ls⟩:=hz;refine iY (N:=16) (T:=[(0,_)]) func105 M ntmps105 M M hO fun a H=>dw<|fun _ K1=>eD (cs:=[_,_,_,_,_,_,_,_,_,_,_]) H wn M M M fun b1 a w hb1 H=>dK jc H wn M fun b2 a w hb2 H=>K1 _ _<|bU<|fun _ K1=>?_;have H:=H.dR (Pl:=[_,_]) (dH:=[_,_]) [1,0] Z M;obtain⟨Ga,hma,hb1',H⟩:=H.eX;have hga:=fun j v hj=>lQ hb1' 0 D.cells M j v hj;replace hfl:=hfl.mono hma;replace hhd:=hhd.mono hma;replace xZ:=xZ.mono hma;replace hst:=hst.mono hma
 have iq:Yc (fun(bP:Nat->aj×OL)(cu:Nat)(v:aj)(G:GH)=>match cu with|0=>v=(aK b1 0)|1=>v=bN D.f|2=>v=(bP 2).1∧∃xs,bT 118 11 v d.flow.length xs (bP 2).2∧bR G 11 (d.flow.map ah.dat) xs|3=>v=(aK b1 1)|4=>v=wN d.fin (bN D.p) (bN D.d) (bN D.y)|5=>∃p y z,v=.agg #[p,vi d.fin.marks.ins,vi d.fin.marks.move,y,z]∧kr G d.fin p y z|6=>v=(aK b1 6)|7=>v=bN D.r|8=>v=(bP 8).1∧∃xs,bT 81 3 v d.revs.length xs (bP 8).2∧bR G 3 (d.revs.map dJ.dat) xs|9=>v=(aK b1 7)|10=>v=.agg #[bN D.s1,bN D.s2,bN D.s3,bN D.s4]|11=>∃a' b' c' d',v=.agg #[a',b',c',d']∧Ca G d.qb a' b' c' d'|_=>True):=by intro bP cu v G G' hm h;(iterate 14 (rcases cu with _|cu;(first|exact h|exact let⟨h1,xs,h2,h3⟩:=h;⟨h1,xs,h2,h3.mono hm⟩|exact let⟨p,y,z,h1,h2⟩:=h;⟨p,y,z,h1,h2.mono hm⟩|exact let⟨p,q,y,z,h1,h2⟩:=h;⟨p,q,y,z,h1,h2.mono hm⟩)));exact trivial
 refine aiM [2,8] (hmx) [[],[0],[0,1],[],[3],ra 0 5,[],[6],ra 0 8,[],[9],ra 0 11,ra 0 12,ra 0 13] [12,13] V V Z V (fun(bP:Nat->aj×OL)(cu:Nat)(v:aj)(G:GH)=>match cu with|0=>v=(aK b1 0)|1=>v=bN D.f|2=>v=(bP 2).1∧∃xs,bT 118 11 v d.flow.length xs (bP 2).2∧bR G 11 (d.flow.map ah.dat) xs|3=>v=(aK b1 1)|4=>v=wN d.fin (bN D.p) (bN D.d) (bN D.y)|5=>∃p y z,v=.agg #[p,vi d.fin.marks.ins,vi d.fin.marks.move,y,z]∧kr G d.fin p y z|6=>v=(aK b1 6)|7=>v=bN D.r|8=>v=(bP 8).1∧∃xs,bT 81 3 v d.revs.length xs (bP 8).2∧bR G 3 (d.revs.map dJ.dat) xs|9=>v=(aK b1 7)|10=>v=.agg #[bN D.s1,bN D.s2,bN D.s3,bN D.s4]|11=>∃a' b' c' d',v=.agg #[a',b',c',d']∧Ca G d.qb a' b' c' d'|_=>True) (fun m hm x y i v G hi hc h=>by
  have hm:m=2∨m=8:=by simpa using hm
  rcases hm with rfl|rfl
  ·exact agS
  ·exact agS
  ) H ?_ ?_ ?_
 ·clear H;refine aD ?_ ?_ ?_ ?_<|aD ?_ ?_ ?_ ?_<|aD ?_ ?_ ?_ ?_<|bE ?_<|bE ?_ dz
  ·intro bP gI aZ a w G1 gU _ _ aM hc hG HT hv;have H:=HT;clear aM;have Hb:=H.full;have H:=Hb;clear hc;exact kH H<|Rf wH M wF
  ·intro bP gI aZ a w G1 gU _ _ aM hc hG HT hv;have H:=HT;clear aM;have H:=H.aQ (hv 0 3 (hc 0 Z) M) M;have Hb:=H.full;have H:=Hb;clear hc;exact kH H<|Rg eG M (aH hG<|hga 0 _ M) wF
  ·exact Fg
  ·intro bP gI aZ a w G1 gU _ _ aM hc hG HT hv;have H:=HT;clear aM;have Hb:=H.full;have H:=Hb;clear hc;exact kH H<|Rf MV M wF
  ·intro bP gI aZ a w G1 gU _ _ aM hc hG HT hv;have H:=HT;clear aM;have H:=H.aQ (hv 3 6 (hc 3 Z) M) M;have Hb:=H.full;have H:=Hb;clear hc;exact aY oC (cs:=[bN D.p,vi d.fin.marks.ins,vi d.fin.marks.move,bN D.d,bN D.y]) H wn M M (fun j v hj=>H.hp.aJ<|aH hG (by rw[<-hins,<-hmv]at hj;exact lQ hb1' 1 _ M j v hj)) M wF
  ·intro bP gI aZ a w G1 gU _ _ aM hc hG HT hv;have H:=HT;clear aM;have H:=H.aQ (hv 4 7 (hc 4 Z) M) M;have Hb:=H.full;have H:=Hb;clear hc;refine s_call Qe H wn M (PY _ _ H.ro d.fin _ _ _ _ _ _ _ _ _ (hhd.mono hG) zh) M ?_;rintro v8 G8 a w qz uX H;exact aI ⟨M,qw V (iq bP) M M HT Hb hG hv uX (qz) H⟩
  ·intro bP gI aZ a w G1 gU _ _ aM hc hG HT hv;have H:=HT;clear aM;have Hb:=H.full;have H:=Hb;clear hc;exact kH H<|Rf MW M wF
  ·intro bP gI aZ a w G1 gU _ _ aM hc hG HT hv;have H:=HT;clear aM;have H:=H.aQ (hv 6 9 (hc 6 Z) M) M;have Hb:=H.full;have H:=Hb;clear hc;exact kH H<|Rg Dz M (aH hG<|hga 6 _ M) wF
  ·exact Fg
  ·intro bP gI aZ a w G1 gU _ _ aM hc hG HT hv;have H:=HT;clear aM;have Hb:=H.full;have H:=Hb;clear hc;exact kH H<|Rf Qo M wF
  ·intro bP gI aZ a w G1 gU _ _ aM hc hG HT hv;have H:=HT;clear aM;have H:=H.aQ (hv 9 12 (hc 9 Z) M) M;have Hb:=H.full;have H:=Hb;clear hc;exact aY DC (cs:=[bN D.s1,bN D.s2,bN D.s3,bN D.s4]) H wn M M (fun j v hj=>H.hp.aJ<|aH hG<|lQ hb1' 7 _ M j v hj) M wF
  ·intro bP gI aZ a w G1 gU _ _ aM hc hG HT hv;have H:=HT;clear aM;have H:=H.aQ (hv 10 13 (hc 10 Z) M) M;have Hb:=H.full;have H:=Hb;clear hc;exact s_call axK H wn M (awf _ _ H.ro d.qb _ _ _ _ (hst.mono hG) zs Ls.ln Ls.cn Ls.vn Ls.pl Ls.ll) M ahk
  ·intro _ _ _ _ _ _ _ hB;exact jC
  intro _ _ _ _ _ _ _ hB;exact jC
 ·clear H;refine aD ?_ ?_ ?_ ?_<|aD ?_ ?_ ?_ ?_<|aD ?_ ?_ ?_ ?_<|bE ?_<|bE ?_ dz
  ·intro hB;exact jC
  ·intro hB;exact jC
  ·intro _ bP gI aZ a w G1 gU _ hc hG HT hv;have H:=HT;have H:=H.aQ (hv (.bool false,[]) 1 4 Z (hc 1 Z) M) M;have Hb:=H.full;have H:=Hb;clear hc;refine gM Uv (Li:=gI) (L:=[]) (H.cast (iR _).symm) wn M (avT _ _ (yj H.ro) d.flow _ (hfl.mono hG) O) M ?_;rintro v5 G5 L5 a w ⟨xs5,aDs,aBU⟩ CK H;have H:=H.perm vD;exact aI ⟨M,(v5,L5),Co V (iq<|AO bP 2 (v5,L5)) M HT Hb hG (fun j e h1 h2 h3=>hv (v5,L5) j e h1 h2 h3) CK (⟨M,xs5,aDs,aBU⟩) H⟩
  ·intro hB;exact jC
  ·intro hB;exact jC
  ·intro hB;exact jC
  ·intro hB;exact jC
  ·intro hB;exact jC
  ·intro _ bP gI aZ a w G1 gU _ hc hG HT hv;have H:=HT;have H:=H.aQ (hv (.bool false,[]) 7 10 Z (hc 7 Z) M) M;have Hb:=H.full;have H:=Hb;clear hc;refine gM ajI (Li:=gI) (L:=[]) (H.cast (iR _).symm) wn M (aja _ _ (yj H.ro) _ _ _ _ (xZ.mono hG) (by simpa using zr)) M ?_;rintro v11 DN Jh a w ⟨OM,BD,Nk⟩ nZ H;rw[bM]at BD;have H:=H.perm vD;exact aI ⟨M,(v11,Jh),Co V (iq<|AO bP 8 (v11,Jh)) M HT Hb hG (fun j e h1 h2 h3=>hv (v11,Jh) j e h1 h2 h3) nZ (⟨M,OM,BD,Nk⟩) H⟩
  ·intro hB;exact jC
  ·intro hB;exact jC
  ·intro hB;exact jC
  ·intro hB;exact jC
  intro hB;exact jC
 clear H;intro bP a w G jL H hv
 simp only[tq,List.flatMap_cons,List.flatMap_nil,cond_true,iR,iG]at H
 obtain⟨u5,Kw,wO⟩:=hv 2 5 Z M;(try dsimp only at wO);obtain⟨h5,xf,ND,abA⟩:=wO;obtain⟨fA,fc,rfl,-,-⟩:=ND.shape;have H:=H.fT Kw;obtain⟨u8,CZ,qz⟩:=hv 5 8 Z M;(try dsimp only at qz);obtain⟨p8,y8,z8,rfl,Vp⟩:=qz;obtain⟨a1,a2,a3,rfl⟩:=Vp.props.form;obtain⟨a4,a5,a6,rfl⟩:=Vp.dQ.form;obtain⟨a7,a8,a9,rfl⟩:=Vp.layers.form;have H:=H.fT CZ;obtain⟨Xj,FV,rX⟩:=hv 8 11 Z M;(try dsimp only at rX);obtain⟨h11,xr,NG,abC⟩:=rX;obtain⟨rA,rc,rfl,-,-⟩:=NG.shape;have H:=H.fT FV;obtain⟨u14,Ry,zi⟩:=hv 11 14 Z M;(try dsimp only at zi);obtain⟨kF,q14,y14,z14,rfl,Rw⟩:=zi;obtain⟨c1,c2,c3,rfl⟩:=Rw.st.form;obtain⟨c4,c5,c6,rfl⟩:=Rw.li.form;obtain⟨c7,c8,c9,rfl⟩:=Rw.cm.form;obtain⟨d1,d2,d3,rfl⟩:=Rw.va.form;have H:=H.fT Ry;clear hv;obtain⟨⟨vF,LF⟩,eF⟩:∃y,y=bP 2:=⟨_,M⟩;obtain⟨⟨vR,LR⟩,eR⟩:∃y,y=bP 8:=⟨_,M⟩;rw[<-eF,<-eR]at H;rw[<-eF]at ND h5;rw[<-eR]at NG h11;dsimp only at H ND NG h5 h11;subst h5;subst h11;rw[<-iG]at H;have H:=H.perm<|vD (l₁:=LF++LR) (l₂:=[_]);dsimp only[lca,bq]at H;refine jM aqX [_,_,_,_,_,_,_,_,_,_,_] H wn M M M M fun a H=>bH jc 0 (vs:=[_,_,_,_,_,_,_,_,_,_,_]) H wn M fun w H=>aI ⟨M,K1 _ _<|eH ((leave1 H results105 (.cons (vk jc (cs:=[_,_,_,_,_,_,_,_,_,_,_]) H M M<|H.hp.dB 0 M M) .nil) ?_).1)⟩;exact H.hp.lU (L':=LF++LR) (E5 _ _) ⟨⟨(fA,d.flow.length,fc),(a1,a2,a3),(a4,a5,a6),(a7,a8,a9),(rA,d.revs.length,rc),(c1,c2,c3),(c4,c5,c6),(c7,c8,c9),(d1,d2,d3),d.fin.marks.ins,d.fin.marks.move⟩,M,xf,LF,xr,LR,M,ND,abA,NG,abC,Vp,M,M,Rw⟩
theorem axE:aW 172:=aX func172 M
theorem ayu:aW 229:=aX func229 M
theorem axD:aW 171:=aX func171 M
theorem aFA{G:GH}(r:aN):wB (.func (.func 172) #[] #[]) G r.dat (decide<|r.cells.length=0):=by
 intro G1 w0 cs hm hG hr;refine kJ (caps:=[]) axE ?_;obtain⟨pA,pn,pc,dA,dn,dc,yA,yn,yc,fA,fn,fc,rfl,-,hf⟩:=hr.row;have hn:=hf.len;rw[bM]at hn;subst hn;exact eN [(0,_)] func172 M ntmps172 M M hG fun a H=>dw<|fun _ K1=>eD (cs:=[_,_,_,_,_,_]) H wn M M M fun b1 a w hb1 H=>kH H<|ak K1 M<|SR fun _ K2=>aV rT qD 0 M M<|Rl ko M<|Rc M<|ak K2 M<|LR results172 M fun H=>H.rt<|iN<|decide_eq_decide.2 O
theorem awH(G:GH)(w0:World)(hG:Hold G w0)(l:List aN)(v:aj)(hv:av G (.sl 6<|l.map aN.dat) v)(hne:∀r∈l,r.cells≠[]) :
  Calls prog 169 #[v,.func (.func 172) #[] #[]] w0 (bD w0 G fun u G'=>av G' (.sl 6<|l.map aN.dat) u):=by
 obtain⟨A,n,c,rfl⟩:=hv.form
 have hno:l.findIdx? (fun r=>decide<|r.cells.length=0)=none:=by
  rw[List.findIdx?_eq_none_iff];intro r hr;exact mE fun h=>hne r hr<|List.length_eq_zero_iff.1 h
 refine eN [(0,_),(1,_)] func169 M ntmps169 M M hG<|SR fun _ K1=>ak K1 M<|SR fun _ K2=>Rm M<|Rm M fun a H=>s_call ajR H wn M (anS _ _ H.ro l (fun r=>decide<|r.cells.length=0) _ _ hv<|fun r _=>aFA r) M ?_;rintro v10 sN a w rfl uw H;rw[hno]at H;refine kH H (ak K2 M<|SQ fun _ K1=>SR fun _ K3=>Rm M<|Rc M<|Kz K3<|Cd M ?_ ?_)<;>clear H K2 K3
 ·intro h12 a H;exact agx
 intro h12 a H
 try have nU:=dF h12
 exact absurd M nU
def Jk(n:Nat):Prop:=∀(G:GH)(w0:World),Hold G w0->∀(l:List ah)(v:aj),av G (.sl 11 (l.map ah.dat)) v->kM l->aR l<n->
 Calls prog 99 #[v] w0 (bD w0 G fun u G'=>av G' (.sl 11 ((fq l).map ah.dat)) u)
theorem aFv{n:Nat}(ih:Jk n)(hn:n<=4294967296)(G:GH)(w0:World)(hG:Hold G w0)(x:aP)(cs:List aj)(hv:bg G x.dat cs)(hne:Et x)(hz:bY x.dat<n+1) :
  Calls prog 229 #[.agg cs.toArray] w0 (bD w0 G fun u G'=>∃cs',u=.agg cs'.toArray∧bg G' (nC x).dat cs'):=by
 have he:=AU x;obtain⟨pA,pn,pc,dA,dn,dc,yA,yn,yc,fA,fn,fc,rfl,hh,hf⟩:=hv.cell;rw[aFb]at hne;refine eN [(0,_)] func229 M ntmps229 M M hG fun a H=>dw<|fun _ K1=>eD (cs:=[_,_,_,_,_,_,_]) H wn M M M fun b1 a w hb1 H=>dK iQ H wn M fun b2 a w hb2 H=>K1 _ _<|bU<|fun _ K1=>?_
 have iq:yG (fun(cu:Nat)(v:aj)(G:GH)=>match cu with|0=>v=(aK b1 0)|1=>v=vi x.id|2=>v=(aK b1 1)|3=>v=.agg #[.slice pA pn pc,vi x.head.marks.ins,vi x.head.marks.move,.slice dA dn dc,.slice yA yn yc]|4=>∃p d l,v=.agg #[p,vi x.head.marks.ins,vi x.head.marks.move,d,l]∧kr G x.head p d l|5=>v=(aK b1 6)|6=>v=.slice fA fn fc|7=>av G (.sl 11 ((fq x.flow).map ah.dat)) v|_=>True):=by intro cu v G G' hm h;(iterate 10 (rcases cu with _|cu;(first|exact h|exact let⟨p,d,l,h1,h2⟩:=h;⟨p,d,l,h1,h2.mono hm⟩|exact av.mono hm h)));exact trivial
 refine yM (hmx) [[],[0],[],[2],[2,3],[],[5],ra 2 5,ra 0 8,ra 0 9] [8,9] V V _ iq H ?_ ?_
 ·clear H;refine aD ?_ ?_ ?_ ?_<|aD ?_ ?_ ?_ ?_<|bE (bX M)<|bE (bX M) dz
  ·exact dN [] M trivial V iq M M TP
  ·exact aiA
  ·exact agH
  ·exact ahE
  ·exact ahV
  ·exact dN [] M trivial V iq M M TN
  ·exact agM
  exact dN [(6,9,_)] M ⟨fun _ _ h=>h,aC⟩ V iq M M fun aZ a w G1 hG HT H fin=>s_call JK H wn M (ih _ _ H.ro x.flow _ (hf.mono hG) hne O) M Za
 clear H;intro a w G jL H hv;have H:=H.aQ (hv 1 4 M M) M;obtain⟨u7,hu7,Kq⟩:=hv 4 7 Z M;(try dsimp only at Kq);obtain⟨p7,d7,l7,rfl,FN⟩:=Kq;obtain⟨a1,a2,a3,rfl⟩:=FN.props.form;obtain⟨a4,a5,a6,rfl⟩:=FN.dQ.form;obtain⟨a7,a8,a9,rfl⟩:=FN.layers.form;have H:=H.fT hu7;obtain⟨u10,Rx,Am⟩:=hv 7 10 Z M;(try dsimp only at Am);obtain⟨A10,n10,c10,rfl⟩:=Am.form;have H:=H.fT Rx;clear hv;refine jM aqT [_,_,_,_,_,_,_] H wn M M M M fun a H=>bH iQ 0 (vs:=[_,_,_,_,_,_,_]) H wn M fun w H=>aI ⟨M,K1 _ _<|eH ((leave1 H results229 (.cons (vk iQ (cs:=[_,_,_,_,_,_,_]) H M M<|H.hp.dB 0 M M) .nil) ?_).1)⟩;exact H.rt ⟨_,M,by rw[aE3];exact bg.V7 (x:=.mk x.id x.head<|fq x.flow) FN Am⟩
theorem aFw{n:Nat}(ih:Jk n)(hn:n<=4294967296){G:GH}{w0:World}(x:aP)(hne:Et x)(hz:bY x.dat<n+1):ES (.func (.func 229) #[] #[]) w0 G x.dat (nC x).dat:=by
 intro G1 w1 cs hm1 hG1 hr;have h:=aFv ih hn _ _ hG1 x cs hr hne hz;have h2:=kJ (P:=prog) (caps:=[]) (args:=[.agg cs.toArray]) ayu h;exact h2
theorem aFx{n:Nat}(ih:Jk n)(hn:n<=4294967296)(G:GH)(w0:World)(hG:Hold G w0)(x:aN)(cs:List aj)(hv:bg G x.dat cs)(hne:Ev x)(hz:bY x.dat<n+1) :
  Calls prog 171 #[.agg cs.toArray] w0 (bD w0 G fun u G'=>∃cs',u=.agg cs'.toArray∧bg G' (nR x).dat cs'):=by
 have he:=zC x;have hl:=EP x.cells;obtain⟨pA,pn,pc,dA,dn,dc,yA,yn,yc,fA,fn,fc,rfl,hh,hf⟩:=hv.row;rw[aoT]at hne;refine eN [(0,_)] func171 M ntmps171 M M hG fun a H=>dw<|fun _ K1=>eD (cs:=[_,_,_,_,_,_]) H wn M M M fun b1 a w hb1 H=>dK iC H wn M fun b2 a w hb2 H=>K1 _ _<|bU<|fun _ K1=>?_
 have iq:yG (fun(cu:Nat)(v:aj)(G:GH)=>match cu with|0=>v=(aK b1 0)|1=>v=.agg #[.slice pA pn pc,vi x.head.marks.ins,vi x.head.marks.move,.slice dA dn dc,.slice yA yn yc]|2=>∃p d l,v=.agg #[p,vi x.head.marks.ins,vi x.head.marks.move,d,l]∧kr G x.head p d l|3=>v=(aK b1 5)|4=>v=.slice fA fn fc|5=>av G (.sl 7<|x.cells.map fun y=>(nC y).dat) v|_=>True):=by intro cu v G G' hm h;(iterate 8 (rcases cu with _|cu;(first|exact h|exact let⟨p,d,l,h1,h2⟩:=h;⟨p,d,l,h1,h2.mono hm⟩|exact av.mono hm h)));exact trivial
 refine yM (hmx) [[],[0],[0,1],[],[3],ra 0 5,ra 0 6,ra 0 7] [6,7] V V _ iq H ?_ ?_
 ·clear H;refine aD ?_ ?_ ?_ ?_<|aD ?_ ?_ (bX M) (bX M) dz
  ·exact agI
  ·exact Zq
  ·exact Zy
  ·exact dN [] M trivial V iq M M Pp
  ·exact agN
  exact dN [(4,7,_)] M ⟨fun _ _ h=>h,aC⟩ V iq M M fun aZ a w G1 hG HT H fin=>s_call akc H wn M (ajF nC _ _ H.ro x.cells _ _ (hf.mono hG) O<|fun y hy=>aFw ih hn y (aoR hne.2 y hy) (by have:=asw hy;omega)) rfl Zb
 clear H;intro a w G jL H hv;obtain⟨u5,Kw,wO⟩:=hv 2 5 Z M;(try dsimp only at wO);obtain⟨p5,d5,l5,rfl,yZ⟩:=wO;obtain⟨a1,a2,a3,rfl⟩:=yZ.props.form;obtain⟨a4,a5,a6,rfl⟩:=yZ.dQ.form;obtain⟨a7,a8,a9,rfl⟩:=yZ.layers.form;have H:=H.fT Kw;obtain⟨u8,CZ,qz⟩:=hv 5 8 Z M;(try dsimp only at qz);obtain⟨A8,n8,c8,rfl⟩:=qz.form;have H:=H.fT CZ;clear hv;refine jM aqS [_,_,_,_,_,_] H wn M M M M fun a H=>bH iC 0 (vs:=[_,_,_,_,_,_]) H wn M fun w H=>aI ⟨M,K1 _ _<|eH ((leave1 H results171 (.cons (vk iC (cs:=[_,_,_,_,_,_]) H M M<|H.hp.dB 0 M M) .nil) ?_).1)⟩;exact H.rt ⟨_,M,by rw[aoL];exact bg.V8 (x:=.mk x.head<|x.cells.map nC) yZ (by show av _ (.sl 7 ((x.cells.map nC).map aP.dat)) _;rw[List.map_map];exact qz)⟩
theorem aFy{n:Nat}(ih:Jk n)(hn:n<=4294967296){G:GH}{w0:World}(x:aN)(hne:Ev x)(hz:bY x.dat<n+1):ES (.func (.func 171) #[] #[]) w0 G x.dat (nR x).dat:=by
 intro G1 w1 cs hm1 hG1 hr;have h:=aFx ih hn _ _ hG1 x cs hr hne hz;have h2:=kJ (P:=prog) (caps:=[]) (args:=[.agg cs.toArray]) axD h;exact h2
theorem joined {G:GH} {o:List ah} {z y:ah} {x0:List aj} {s p d q f r:aj} (hc:bR G 11 (o.map ah.dat) x0) (hl:x0.length=o.length*11) (hh:kr G z.head p d q) (hf:av G (.sl 11 (z.flow.map ah.dat)) f) (hr:av G (.sl 6 (z.rows.map aN.dat)) r) (hs:s=.string (z.text++y.text)) :
  bR G 11 ((o++[lu z y]).map ah.dat) ((x0++[vi z.kind,vi z.code,vi z.id,.string z.text,p,vi z.head.marks.ins,vi z.head.marks.move,d,q,f,r]).set (((o++[z]).length - 1)*11+3) s):=by
 rw [iy,gT,List.length_singleton,Nat.add_sub_cancel,List.set_append_right _ _ O,hl,Ch];refine hc.snoc ?_ M;rw [hs];exact bg.mkItem (x:=lu z y) hh hf hr
theorem Ud{s:ByteArray}{k:Int}{n:Nat}(hk:k=1):(s.toList==(⟨#[]⟩:ByteArray).toList)=true↔(k=7∧n=0)∨(k=1∧s.size=0):=by
 rw[beq_iff_eq,ByteArray.toList_eq,ByteArray.toList_eq]
 constructor
 ·intro h;refine .inr ⟨hk,?_⟩;have:=cO List.length h
  simpa using this
 rintro(⟨h,-⟩|⟨-,h⟩)
 ·omega
 have:s.data.toList.length=0:=by simpa using h
 rw[List.length_eq_zero_iff.1 this]
theorem afL {p:Prop} (h:p:=by
 exact fin H iJ (by show _=_;first|rfl|exact cO (fun A=>Value.slice A out.length vc) (hvA c2))):p:=h
theorem Pk {p:Prop} (h:p:=by
 first
  |exact absurd ((aG c4).symm.trans h) Z
  | (rw [hos]
     refine EZ hnd fun o2 z2 e2 hj=>?_;rw[vN,hyk,hyh]at hj;obtain⟨j1,j2,j3⟩:=hj
     first
       |exact c1 j1
       | (have c2':0 < (out.length:Int):=by rw [e2,gT,List.length_singleton];omega
          obtain⟨o,z,_,_,_,e,_,epk,_⟩:=Ao c2';obtain⟨-,ez⟩:=List.append_inj' (e2.symm.trans e) M
          injection ez with ez
          subst ez
          first
            |exact c2 c2'
            |exact c3 (by rw[epk];exact j2)
            | exact c4 (by rw [epk];exact j3)))):p:=h
theorem ahS {p:Prop} (h:p:=by
 refine fu 21 74 16 69 M M fun _ a w G1 hG HT H fin=>?_;obtain⟨_,_,_,_,_,_,rfl,_,_,_,_,_,_,_,_,hx⟩:=Ao c2
 refine aY oC (cs:=[pp,vi pk.1.marks.ins,vi pk.1.marks.move,pd,pl]) H (wg H M M (aG c3)) M M (fun j u hj=>hrw.at H.hp (fun x hx=>gH _ hx) (by
     rw[fB,Nat.add_assoc];refine hx (4+j) u ?_
     match j,hj with
     |0,hj=>exact hj
     |1,hj=>exact hj
     |2,hj=>exact hj
     |3,hj=>exact hj
     | 4,hj=>exact hj)) M ?_;clear H;intro a H
 exact Jv):p:=h
theorem ahU {p:Prop} (h:p:=by
 refine xC 22 75 24 77 16 69 M M fun _ a w G1 hG HT H fin=>?_;refine s_call Qf H (wg H M M (aG c3)) M (Qg _ _ H.ro pk.1 l[k].head _ _ _ _ _ _ (by obtain ⟨_,_,_,_,_,_,_,e,_,_,_,_,hh,_⟩:=Ao c2;rw [e];exact hh.mono hG) (CU.mono fun b o h=>hG b o (rW b o (rV b o (mJ b o h))))) M ?_;clear H;rintro v78 G78 a w rfl abl H;exact fin H abl (rfl)):p:=h
theorem ZI {p:Prop} (h:p:=by
 refine iE 7 60 M M fun _ a w G1 hG HT H fin=>?_;refine kH H (YM (aG c2) M ?_);clear H;intro a H;exact afL):p:=h
theorem agT {p:Prop} (h:p:=by
 refine iE 16 69 M M fun _ a w G1 hG HT H fin=>?_;refine kH H (YM (aG c3) M ?_);clear H;intro a H;exact afL):p:=h
theorem Ze {p:Prop} (h:p:=by
 refine fu 12 65 7 60 M M fun _ a w G1 hG HT H fin=>?_;obtain ⟨_,_,_,_,_,_,rfl,_,_,_,_,_,_,_,_,hx⟩:=Ao c2;refine vo aF H (wg H M M (aG c2)) M (hrw.at H.hp (fun x hx=>gH _ hx) (by rw [fB];exact hx 0 _ M)) M ?_;exact jD):p:=h
set_option maxHeartbeats 4000000 in
theorem aFz{n:Nat}(ih:Jk n)(hn:n<=1073741824):Jk (n+1):=by
  intro G w0 hG l v hv hne hz;obtain⟨A,c,rfl,hc1,hc2,hg⟩:=hv.slice
  have hml:4294967297<=maxLen:=by decide
  have htl:kN l<=aR l:=Dt l;have hll:l.length<=kN l:=NP l;rw[bM]at *;refine eN [(0,_)] func99 M ntmps99 M M hG ?_;intro a H;refine kP H<|SR fun _ K1=>ak K1 M<|SR fun _ K2=>ak K2 M<|SQ fun _ K3=>SR fun _ K4=>Rm M<|Rl dM M<|Rm M<|Kz K4<|SB ?_;clear H K1 K2 K4;intro a H;skip;refine dY (ι:=Nat×aj×List aj×OL×GH) (Tc:=[(7,_),(8,_)]) (Lc:=[]) (fun gh=>[(3,gh.2.1),(9,vi gh.1)]) (fun gh=>[]++gh.2.2.2.1) (fun gh=>gh.2.2.2.2) (fun gh=>gh.1<=l.length∧bT 118 11 gh.2.1 (sF l gh.1).length gh.2.2.1 gh.2.2.2.1∧bR gh.2.2.2.2 11 ((sF l gh.1).map ah.dat) gh.2.2.1∧(∀b o,G b=some o->gh.2.2.2.2 b=some o)) (fun gh=>l.length-gh.1) ((0,.slice none 0 0,[],[],G)) (by exact H.sub ⟨M,M,M,M,aC⟩) ?_ ?_
  · exact⟨O,bT.nil,bR.nil,fun _ _ h=>h⟩
  clear H;rintro⟨k,v,xs,Lo,g⟩ a w hI H;dsimp only at hI H;obtain⟨hk,hrw,gK,hgm⟩:=hI;have hol:=aFM hk;obtain⟨out,hout⟩:∃o,o=sF l k:=⟨_,M⟩;rw[<-hout]at hrw gK hol;dsimp only[lca,bq]at H;refine kP H (SR fun _ K1=>Rc M<|Kz K1<|SQ fun _ K2=>Cd M ?_ ?_)<;>clear H K1
  · intro h10 a H
    try have lC:=dT h10
    have hk2:k<l.length:=by omega
    have hos:=Ww hk2;have hot:=Wx (l:=l) (k:=k) O;have htt:=Oy l<|k+1;rw[ji hk2,Gy]at htt
    simp only[kN]at htt
    rw[<-hout]at hos hot;obtain⟨vA,vc,rfl,-,-⟩:=hrw.shape;obtain⟨b,o,pA,pn,pc,dA,dn,dc,yA,yn,yc,fA,fn,fc,rA,rn,rc,rfl,hrow,hhd,hfl,hrs⟩:=vI hk2 hg;replace hrow:=fun j u hj=>aH hgm<|hrow j u hj;have hnx:=Eu hne _<|ig hk2;rw[Wo]at hnx;obtain⟨hnf,hnr⟩:=hnx;have hzi:=GK hk2;have hze:=lY l[k];have hrl:=ER l[k].rows
    have aDl:∀r∈l[k].rows.map nR,r.cells≠[]:=fun r hr=>by
      obtain⟨x,hx,rfl⟩:=List.mem_map.1 hr;have h1:=ade hnr x hx;rw[aoT]at h1;rw[aoL];exact fun e=>h1.1<|List.map_eq_nil_iff.1 e
    refine kP H<|Kc K2<|SQ fun _ K1=>SB<|SR fun _ K4=>Ri dM bL M M ?_;clear H K2;intro a H;refine aY bL (cs:=[_,_,_,_,_,_,_,_,_,_,_]) H wn M M (fun j v hj=>H.hp.aJ<|hrow j v hj) M ?_;clear H;intro a H;refine dK bL H wn M ?_;clear H;intro b5 a w hb5 H;refine bH bL 0 (vs:=[_,_,_,_,_,_,_,_,_,_,_]) H wn M ?_;clear H;intro w H;refine K4 _ _ ?_;clear K4;refine kP H<|SR fun _ K2=>Rf vG M ?_;clear H;intro a H;refine aY oC (cs:=[_,_,_,_,_]) H wn M M (H.hp.dB 0 M M) M ?_;clear H;intro a H;refine s_call Qe H wn M (PY _ _ H.ro _ _ _ _ _ _ _ _ _ _ (hhd.mono hgm) O) M ?_;clear H;rintro v15 Jc a w ⟨vP,d15,l15,rfl,CU⟩ xV H;obtain⟨a1,a2,a3,rfl⟩:=CU.props.form;obtain⟨a4,a5,a6,rfl⟩:=CU.dQ.form;obtain⟨a7,a8,a9,rfl⟩:=CU.layers.form;refine kH H<|Rf vG M ?_;clear H;intro a H;refine bH oC 0 (vs:=[_,_,_,_,_]) H wn M ?_;clear H;intro w H;refine K2 _ _ ?_;clear K2;refine kP H<|SR fun _ K2=>aV uU eG 0 M M ?_;clear H;intro a H;refine s_call JK H wn M (ih _ _ H.ro l[k].flow _ (hfl.mono fun b o h=>xV b o<|hgm b o h) hnf O) M ?_;clear H;rintro v19 LK a w Q8 mJ H;obtain⟨GQ,n19,c19,rfl⟩:=Q8.form;refine kH H<|Rf uU M ?_;clear H;intro a H;refine bH eG 0 (vs:=[_]) H wn M ?_;clear H;intro w H;refine K2 _ _ ?_;clear K2;refine kP H<|SR fun _ K2=>aV mZ lX 0 M M ?_;clear H;intro a H;refine s_call aap H wn M (ajG nR _ _ H.ro l[k].rows _ _ (hrs.mono fun b o h=>mJ b o<|xV b o<|hgm b o h) O<|fun x hx=>aFy ih O x (ade hnr x hx) (by have:=asD hx;omega)) rfl ?_;clear H;rintro v23 Je a w Nu rV H;rw[show(l[k].rows.map fun x=>(nR x).dat)=(l[k].rows.map nR).map aN.dat by rw[List.map_map];rfl]at Nu;obtain⟨A23,n23,c23,rfl⟩:=Nu.form;refine s_call ajT H wn M (awH _ _ H.ro (l[k].rows.map nR) _ Nu aDl) M ?_;clear H;rintro v24 yF a w Nv rW H;obtain⟨LA,n24,c24,rfl⟩:=Nv.form;have amO:=Nv.len;rw[bM,bM]at amO;subst amO;refine kH H<|Rf mZ M ?_;clear H;intro a H;refine bH lX 0 (vs:=[_]) H wn M ?_;clear H;intro w H;refine K2 _ _ ?_;clear K2;refine bU<|fun _ K2=>?_;obtain⟨y,hy⟩:∃y,y=nI l[k]:=⟨_,M⟩;have hye:=hy.trans<|IC l[k]
    have hyk:y.kind=l[k].kind:=by rw[hye];rfl
    have RA:y.text=l[k].text:=by rw[hye];rfl
    have hyh:y.head=l[k].head:=by rw[hye];rfl
    have VP:y.rows.length=l[k].rows.length:=by rw[hye];simp[ah.rows]
    rw[<-hy]at hos;obtain⟨xL,vM⟩:∃x,x=[vi l[k].kind,vi l[k].code,vi l[k].id,.string l[k].text,.slice a1 a2 a3,vi l[k].head.marks.ins,vi l[k].head.marks.move,.slice a4 a5 a6,.slice a7 a8 a9,.slice GQ n19 c19,.slice LA l[k].rows.length c24]:=⟨_,M⟩
    have FT:bg yF y.dat xL:=by
      rw[vM,hye];exact bg.mkItem (x:=.mk l[k].kind l[k].code l[k].id l[k].text l[k].head (fq l[k].flow)<|l[k].rows.map nR) (CU.mono fun b o h=>rW b o<|rV b o<|mJ b o h) (Q8.mono fun b o h=>rW b o<|rV b o h) Nv
    have Ka:=gK.mono fun b o h=>rW b o<|rV b o<|mJ b o<|xV b o h;have amr:∀b o,G b=some o->yF b=some o:=fun b o h=>rW b o<|rV b o<|mJ b o<|xV b o<|hgm b o h;refine kP H<|SC<|Rm M<|Rl dM M<|bZ K2 M<|SB ?_;clear H K2;intro a H;refine rQ (ι:=Bool) (Tc:=[(3,_),(5,_),(6,_),(7,_),(8,_),(9,_)]) (Lc:=[]) (fun gh=>[(32,.bool gh)]) (fun gh=>[(b5,.cells [vi l[k].kind,vi l[k].code,vi l[k].id,.string l[k].text,.slice a1 a2 a3,vi l[k].head.marks.ins,vi l[k].head.marks.move,.slice a4 a5 a6,.slice a7 a8 a9,.slice GQ n19 c19,.slice LA l[k].rows.length c24].toArray 118 (0,0))]++Lo) (fun gh=>yF) (fun gh=>gh=true↔uh y) (by exact H.sub ⟨M,M,M,M,M,M,aC⟩) ?_ ?_
    · skip;refine kP H (SC<|aV iW aF 0 M M<|Rc M<|Rm M<|Sp 36 M ?_ ?_)<;>clear H
      · intro lS a H
        try have p36:=dT lS
        refine kH H (YF mZ lS M<|YO lX 0 lS M<|YL jI lS M<|YC lS M<|Pt lS M<|Rm M<|Sp 42 M ?_ ?_)<;>clear H
        · intro jP a H
          try have p42:=dT jP
          refine kH H<|aU jP M<|aU jP M<|Ku M<|Ku M<|Ku M<|Ks jP M<|Pt jP M<|Ra M ?_;clear H;intro a H;refine aI ?_;refine⟨_,by exact H.sub ⟨M,M,M,M,M,M,M,aC⟩,?_⟩;rw[uh,hyk,VP,RA]
          first
            |exact⟨fun _=>.inl ⟨p36,O⟩,fun _=>by first|rfl|exact kZ p42⟩
            |exact⟨fun h=>(by cases h),fun h=>(by exfalso;omega)⟩
            |exact Ud p46
            |fail
        intro jP a H
        try have p42:=dF jP
        refine kH H (YF iW jP M<|YO aF 0 jP M<|YC jP M<|YM jP M<|Sp 46 M ?_ ?_)<;>clear H
        · intro h46 a H
          try have p46:=dT h46
          exfalso;omega
        intro h46 a H
        try have p46:=dF h46
        refine kH H<|bJ h46 M<|PF jP h46 M<|Pf jP M<|Ra M ?_;clear H;intro a H;refine aI ?_;refine⟨_,by exact H.sub ⟨M,M,M,M,M,M,M,aC⟩,?_⟩;rw[uh,hyk,VP,RA]
        first
          |exact⟨fun _=>.inl ⟨p36,O⟩,fun _=>by first|rfl|exact kZ p42⟩
          |exact⟨fun h=>(by cases h),fun h=>(by exfalso;omega)⟩
          |exact Ud p46
          |fail
      intro lS a H
      try have p36:=dF lS
      refine kH H<|aU lS M<|aU lS M<|Pf lS M<|Rm M ?_;clear H;intro a H;refine Oj iW H (wg H M M M) M M ?_;clear H;intro a H;refine vo aF H (wg H M M M) M (H.hp.sD 0 M M) M ?_;clear H;intro a H;refine KX H (wg H M M M) M M M M ?_;clear H;intro a H;refine IQ H (wg H M M M) M M ?_;clear H;intro a H;refine WU H 46 M ?_ ?_
      · intro h46
        try have p46:=dT h46
        refine kH H<|YF pE h46 M<|YO gN 0 h46 M ?_;clear H;intro a H;refine BN H (wg H M M h46) M M M ?_;clear H;intro a H;refine Ol H (wg H M M M) M h46 M M ?_;clear H;intro a H;refine kH H<|Pf M M<|Ra M ?_;clear H;intro a H;refine aI ?_;refine⟨_,by exact H.sub ⟨M,M,M,M,M,M,M,aC⟩,?_⟩;rw[uh,hyk,VP,RA]
        first
          |exact⟨fun _=>.inl ⟨p36,O⟩,fun _=>by first|rfl|exact kZ p42⟩
          |exact⟨fun h=>(by cases h),fun h=>(by exfalso;omega)⟩
          |exact Ud p46
          |fail
      intro h46
      try have p46:=dF h46
      refine kH H<|bJ h46 M ?_;clear H;intro a H;refine R6 H (wg H M M M) M h46 M M ?_;clear H;intro a H;refine kH H<|Pf M M<|Ra M ?_;clear H;intro a H;refine aI ?_;refine⟨_,by exact H.sub ⟨M,M,M,M,M,M,M,aC⟩,?_⟩;rw[uh,hyk,VP,RA]
      first
        |exact⟨fun _=>.inl ⟨p36,O⟩,fun _=>by first|rfl|exact kZ p42⟩
        |exact⟨fun h=>(by cases h),fun h=>(by exfalso;omega)⟩
        |exact Ud p46
        |fail
    clear H;intro db a w hI H;skip;dsimp only[lca,bq]at H;refine jU H M ?_ ?_
    · intro h32
      try have p32:=dT h32
      have hdp:=hI.1 (by assumption);rw[Hf hdp]at hos;refine kP H<|Kc K1<|SC<|Rd M<|Rm M ?_;clear H K1;intro a H;refine aI ?_;refine dO ((k+1,_,xs,Lo,_)) (by exact(H.dR (Pl:=[_]) (dH:=[]) [] Z M).sub ⟨M,M,M,M,aC⟩) ?_
      (try dsimp only);exact⟨O,by rw[hos];exact hrw,by rw[hos];exact Ka,amr⟩
    intro h32
    try have p32:=dF h32
    have hnd:¬uh y:=fun h=>by have:=hI.2 h;simp_all
    obtain⟨bo,pk,pt,pp,pd,pl,Ao⟩:∃(bo:Nat)(pk:fI×Int)(pt:ByteArray)(pp pd pl:aj),0<(out.length:Int)->∃(o:List ah)(z:ah)(x0:List aj)(f r:aj),out=o++[z]∧vA=some ⟨bo,0,none⟩∧pk=(z.head,z.kind)∧pt=z.text∧
        xs=x0++[vi z.kind,vi z.code,vi z.id,.string z.text,pp,vi z.head.marks.ins,vi z.head.marks.move,pd,pl,f,r]∧x0.length=o.length*11∧bR yF 11 (o.map ah.dat) x0∧kr yF z.head pp pd pl∧av yF (.sl 11<|z.flow.map ah.dat) f∧av yF (.sl 6<|z.rows.map aN.dat) r∧
        ∀j u,[vi pk.2,vi z.code,vi z.id,.string pt,pp,vi pk.1.marks.ins,vi pk.1.marks.move,pd,pl][j]?=some u->xs[(out.length-1)*11+j]?=some u:=by
      by_cases h0:0<out.length
      · obtain⟨bo,hbo⟩:=hrw.ptr h0;obtain⟨o,z,e⟩:∃o z,out=o++[z]:=⟨_,_,(List.dropLast_concat_getLast (fun e=>by rw[e]at h0;simp at h0)).symm⟩;rw[e,iy]at Ka;obtain⟨x0,cs,hxs,hc0,hrz,hcl,hxl⟩:=Ka.aHQ;obtain⟨qA,qn,qc,sA,sn,sc,tA,tn,tc,JL,JQ,JM,rA2,WM,rc2,rfl,hh,hf2,hr2⟩:=hrz.item;rw[bM]at hxl;refine⟨bo,(z.head,z.kind),z.text,.slice qA qn qc,.slice sA sn sc,.slice tA tn tc,fun _=>⟨o,z,x0,_,_,e,hbo,M,M,hxs,hxl,hc0,hh,hf2,hr2,fun j u hj=>?_⟩⟩;rw[hxs,e,gT,List.length_singleton,Nat.add_sub_cancel,uQ O,hxl,Ch];rw[<-hj]
        match j,hj with
        |0,hj=>rfl
        |1,hj=>rfl
        |2,hj=>rfl
        |3,hj=>rfl
        |4,hj=>rfl
        |5,hj=>rfl
        |6,hj=>rfl
        |7,hj=>rfl
        |8,hj=>rfl
        |_+9,hj=>simp at hj
      exact⟨0,(⟨[],⟨0,0,[],[]⟩⟩,0),⟨#[]⟩,.slice none 0 0,.slice none 0 0,.slice none 0 0,fun h=>by omega⟩
    have hvA:0<(out.length:Int)->vA=some ⟨bo,0,none⟩:=fun h=>by obtain⟨_,_,_,_,_,_,e,_⟩:=Ao h;exact e
    refine rQ (ι:=Bool×GH) (Tc:=[(3,_),(5,_),(6,_),(7,_),(8,_),(9,_)]) (Lc:=[]) (fun gh=>[(52,.bool gh.1)]) (fun gh=>[(b5,.cells [vi l[k].kind,vi l[k].code,vi l[k].id,.string l[k].text,.slice a1 a2 a3,vi l[k].head.marks.ins,vi l[k].head.marks.move,.slice a4 a5 a6,.slice a7 a8 a9,.slice GQ n19 c19,.slice LA l[k].rows.length c24].toArray 118 (0,0))]++Lo) (fun gh=>gh.2) (fun gh=>(gh.1=true->(l[k].kind=1∧0<(out.length:Int)∧pk.2=1∧pk.1=l[k].head))∧(gh.1=false->sF l (k+1)=out++[y])∧(∀b o,yF b=some o->gh.2 b=some o)) (by exact H.sub ⟨M,M,M,M,M,M,aC⟩) ?_ ?_
    · skip
      by_cases c1:l[k].kind=1
      · skip
        by_cases c2:0<(out.length:Int)
        · skip
          by_cases c3:pk.2=1
          · skip
            by_cases c4:pk.1=l[k].head
            · skip;refine dI hmx [[],[0],[0,1],[0,1,2],ra 0 4,ra 0 5,ra 0 6,ra 0 7,ra 0 8,ra 0 8,ra 0 8++[9],ra 0 11,ra 0 12,ra 0 13,ra 0 14,ra 0 15,ra 0 16,ra 0 17,ra 0 17,ra 0 17++[18],ra 0 20,ra 0 21,ra 0 22,ra 0 17,ra 0 17++[23],ra 0 25,ra 0 26,ra 0 27] [] V [_,vi l[k].kind,_,_,_,_,_,_,.slice (some ⟨bo,0,none⟩) out.length vc,_,vi ((out.length-1:Nat):Int),_,_,vi pk.2,_,_,_,.slice (some ⟨bo,0,none⟩) out.length vc,_,vi ((out.length-1:Nat):Int),_,_,wN pk.1 pp pd pl,_,wN l[k].head (.slice a1 a2 a3) (.slice a4 a5 a6) (.slice a7 a8 a9),.bool (decide<|pk.1=l[k].head),_,_] H (aD (Z0 M<|Rf iW M) (Z1 0 53 M<|Ro aF 0 M) (Z1 1 54 M<|Rc M) (Z1 2 55 M<|Rm M)<|aD (Z1 3 56 M<|YM (aG c1) M) (Z2 4 57 3 56 M<|YC (aG c1) M) (Z2 3 56 5 58 M<|Pt (aG c1) M) (Z1 6 59 M<|Rm M)<|aD ?_ (Z1 7 60 M<|YM (aG c2) M) ?_ (Z3 8 61 10 63 7 60 M<|YI dM bL (aG c2) M M)<|aD (Z2 11 64 7 60 M<|YF iW (aG c2) M) ?_ (Z2 13 66 7 60 M<|YC (aG c2) M) (Z2 7 60 14 67 M<|Pt (aG c2) M)<|aD (Z1 15 68 M<|Rm M) ?_ (Z1 16 69 M<|YM (aG c3) M) ?_<|aD (Z3 17 70 19 72 16 69 M<|YI dM bL (aG c3) M M) (Z2 20 73 16 69 M<|YF vG (aG c3) M) ?_ (Z1 16 69 M<|YF vG (aG c3) M)<|aD ?_ ?_ (Z2 16 69 25 78 M<|Pt (aG c3) M) (Z1 26 79 M<|Ra M) dz) ?_
              · exact ZI
              · exact Py
              · exact Ze
              · exact agT
              · exact Zr
              · exact ahS
              · exact Zg
              · exact ahU
              clear H;intro a w G nZ H hv;have H:=H.aQ (hv 27 52 M M) M;clear hv;refine aI ⟨M,?_⟩;refine⟨(_,_),by exact H.sub ⟨M,M,M,M,M,M,M,aC⟩,?_⟩;(try dsimp only);refine⟨fun h=>by first|exact absurd h Z|exact⟨c1,c2,c3,mW h⟩,fun h=>?_,nZ⟩
              exact Pk
            skip;refine dI hmx [[],[0],[0,1],[0,1,2],ra 0 4,ra 0 5,ra 0 6,ra 0 7,ra 0 8,ra 0 8,ra 0 8++[9],ra 0 11,ra 0 12,ra 0 13,ra 0 14,ra 0 15,ra 0 16,ra 0 17,ra 0 17,ra 0 17++[18],ra 0 20,ra 0 21,ra 0 22,ra 0 17,ra 0 17++[23],ra 0 25,ra 0 26,ra 0 27] [] V [_,vi l[k].kind,_,_,_,_,_,_,.slice (some ⟨bo,0,none⟩) out.length vc,_,vi ((out.length-1:Nat):Int),_,_,vi pk.2,_,_,_,.slice (some ⟨bo,0,none⟩) out.length vc,_,vi ((out.length-1:Nat):Int),_,_,wN pk.1 pp pd pl,_,wN l[k].head (.slice a1 a2 a3) (.slice a4 a5 a6) (.slice a7 a8 a9),.bool (decide<|pk.1=l[k].head),_,_] H (aD (Z0 M<|Rf iW M) (Z1 0 53 M<|Ro aF 0 M) (Z1 1 54 M<|Rc M) (Z1 2 55 M<|Rm M)<|aD (Z1 3 56 M<|YM (aG c1) M) (Z2 4 57 3 56 M<|YC (aG c1) M) (Z2 3 56 5 58 M<|Pt (aG c1) M) (Z1 6 59 M<|Rm M)<|aD ?_ (Z1 7 60 M<|YM (aG c2) M) ?_ (Z3 8 61 10 63 7 60 M<|YI dM bL (aG c2) M M)<|aD (Z2 11 64 7 60 M<|YF iW (aG c2) M) ?_ (Z2 13 66 7 60 M<|YC (aG c2) M) (Z2 7 60 14 67 M<|Pt (aG c2) M)<|aD (Z1 15 68 M<|Rm M) ?_ (Z1 16 69 M<|YM (aG c3) M) ?_<|aD (Z3 17 70 19 72 16 69 M<|YI dM bL (aG c3) M M) (Z2 20 73 16 69 M<|YF vG (aG c3) M) ?_ (Z1 16 69 M<|YF vG (aG c3) M)<|aD ?_ ?_ (Z2 16 69 25 78 M<|Pt (aG c3) M) (Z1 26 79 M<|Ra M) dz) ?_
            · exact ZI
            · exact Py
            · exact Ze
            · exact agT
            · exact Zr
            · exact ahS
            · exact Zg
            · exact ahU
            clear H;intro a w G nZ H hv;have H:=H.aQ (hv 27 52 M M) M;clear hv;refine aI ⟨M,?_⟩;refine⟨(_,_),by exact H.sub ⟨M,M,M,M,M,M,M,aC⟩,?_⟩;(try dsimp only);refine⟨fun h=>by first|exact absurd h Z|exact⟨c1,c2,c3,mW h⟩,fun h=>?_,nZ⟩
            exact Pk
          skip;refine dI hmx [[],[0],[0,1],[0,1,2],ra 0 4,ra 0 5,ra 0 6,ra 0 7,ra 0 8,ra 0 8,ra 0 8++[9],ra 0 11,ra 0 12,ra 0 13,ra 0 14,ra 0 15,ra 0 16,ra 0 17,ra 0 17,ra 0 17++[18],ra 0 20,ra 0 21,ra 0 22,ra 0 17,ra 0 17++[23],ra 0 25,ra 0 26,ra 0 27] [] V [_,vi l[k].kind,_,_,_,_,_,_,.slice (some ⟨bo,0,none⟩) out.length vc,_,vi ((out.length-1:Nat):Int),_,_,vi pk.2,_,_,_,undef,undef,undef,undef,undef,undef,undef,undef,undef,_,_] H (aD (Z0 M<|Rf iW M) (Z1 0 53 M<|Ro aF 0 M) (Z1 1 54 M<|Rc M) (Z1 2 55 M<|Rm M)<|aD (Z1 3 56 M<|YM (aG c1) M) (Z2 4 57 3 56 M<|YC (aG c1) M) (Z2 3 56 5 58 M<|Pt (aG c1) M) (Z1 6 59 M<|Rm M)<|aD ?_ (Z1 7 60 M<|YM (aG c2) M) ?_ (Z3 8 61 10 63 7 60 M<|YI dM bL (aG c2) M M)<|aD (Z2 11 64 7 60 M<|YF iW (aG c2) M) ?_ (Z2 13 66 7 60 M<|YC (aG c2) M) (Z2 7 60 14 67 M<|Pt (aG c2) M)<|aD (Z1 15 68 M<|Rm M) (aL 16 (aO c3) M M) (aL 16 (aO c3) M M) (aL 16 (aO c3) M M)<|aD (aL 16 (aO c3) M M) (aL 16 (aO c3) M M) (aL 16 (aO c3) M M) (aL 16 (aO c3) M M)<|aD (aL 16 (aO c3) M M) (aL 16 (aO c3) M M) (Z2 16 69 25 78 M<|Pf (aO c3) M) (Z1 26 79 M<|Ra M) dz) ?_
          · exact ZI
          · exact Py
          · exact Ze
          clear H;intro a w G nZ H hv;have H:=H.aQ (hv 27 52 M M) M;clear hv;refine aI ⟨M,?_⟩;refine⟨(_,_),by exact H.sub ⟨M,M,M,M,M,M,M,aC⟩,?_⟩;(try dsimp only);refine⟨fun h=>by first|exact absurd h Z|exact⟨c1,c2,c3,mW h⟩,fun h=>?_,nZ⟩
          exact Pk
        skip;refine dI hmx [[],[0],[0,1],[0,1,2],ra 0 4,ra 0 5,ra 0 6,ra 0 7,ra 0 8,ra 0 8,ra 0 8++[9],ra 0 11,ra 0 12,ra 0 13,ra 0 14,ra 0 15,ra 0 16,ra 0 17,ra 0 17,ra 0 17++[18],ra 0 20,ra 0 21,ra 0 22,ra 0 17,ra 0 17++[23],ra 0 25,ra 0 26,ra 0 27] [] V [_,vi l[k].kind,_,_,_,_,_,_,undef,undef,undef,undef,undef,undef,undef,_,_,undef,undef,undef,undef,undef,undef,undef,undef,undef,_,_] H (aD (Z0 M<|Rf iW M) (Z1 0 53 M<|Ro aF 0 M) (Z1 1 54 M<|Rc M) (Z1 2 55 M<|Rm M)<|aD (Z1 3 56 M<|YM (aG c1) M) (Z2 4 57 3 56 M<|YC (aG c1) M) (Z2 3 56 5 58 M<|Pt (aG c1) M) (Z1 6 59 M<|Rm M)<|aD (aL 7 (aO c2) M M) (aL 7 (aO c2) M M) (aL 7 (aO c2) M M) (aL 7 (aO c2) M M)<|aD (aL 7 (aO c2) M M) (aL 7 (aO c2) M M) (aL 7 (aO c2) M M) (Z2 7 60 14 67 M<|Pf (aO c2) M)<|aD (Z1 15 68 M<|Rm M) (aL 16 M M M) (aL 16 M M M) (aL 16 M M M)<|aD (aL 16 M M M) (aL 16 M M M) (aL 16 M M M) (aL 16 M M M)<|aD (aL 16 M M M) (aL 16 M M M) (Z2 16 69 25 78 M<|Pf M M) (Z1 26 79 M<|Ra M) dz) ?_
        clear H;intro a w G nZ H hv;have H:=H.aQ (hv 27 52 M M) M;clear hv;refine aI ⟨M,?_⟩;refine⟨(_,_),by exact H.sub ⟨M,M,M,M,M,M,M,aC⟩,?_⟩;(try dsimp only);refine⟨fun h=>by first|exact absurd h Z|exact⟨c1,c2,c3,mW h⟩,fun h=>?_,nZ⟩
        exact Pk
      skip;refine dI hmx [[],[0],[0,1],[0,1,2],ra 0 4,ra 0 5,ra 0 6,ra 0 7,ra 0 8,ra 0 8,ra 0 8++[9],ra 0 11,ra 0 12,ra 0 13,ra 0 14,ra 0 15,ra 0 16,ra 0 17,ra 0 17,ra 0 17++[18],ra 0 20,ra 0 21,ra 0 22,ra 0 17,ra 0 17++[23],ra 0 25,ra 0 26,ra 0 27] [] V [_,vi l[k].kind,_,_,undef,undef,_,_,undef,undef,undef,undef,undef,undef,undef,_,_,undef,undef,undef,undef,undef,undef,undef,undef,undef,_,_] H (aD (Z0 M<|Rf iW M) (Z1 0 53 M<|Ro aF 0 M) (Z1 1 54 M<|Rc M) (Z1 2 55 M<|Rm M)<|aD (aL 3 (aO c1) M M) (aL 3 (aO c1) M M) (Z2 3 56 5 58 M<|Pf (aO c1) M) (Z1 6 59 M<|Rm M)<|aD (aL 7 M M M) (aL 7 M M M) (aL 7 M M M) (aL 7 M M M)<|aD (aL 7 M M M) (aL 7 M M M) (aL 7 M M M) (Z2 7 60 14 67 M<|Pf M M)<|aD (Z1 15 68 M<|Rm M) (aL 16 M M M) (aL 16 M M M) (aL 16 M M M)<|aD (aL 16 M M M) (aL 16 M M M) (aL 16 M M M) (aL 16 M M M)<|aD (aL 16 M M M) (aL 16 M M M) (Z2 16 69 25 78 M<|Pf M M) (Z1 26 79 M<|Ra M) dz) ?_
      clear H;intro a w G nZ H hv;have H:=H.aQ (hv 27 52 M M) M;clear hv;refine aI ⟨M,?_⟩;refine⟨(_,_),by exact H.sub ⟨M,M,M,M,M,M,M,aC⟩,?_⟩;(try dsimp only);refine⟨fun h=>by first|exact absurd h Z|exact⟨c1,c2,c3,mW h⟩,fun h=>?_,nZ⟩
      exact Pk
    clear H;rintro⟨jb,g9⟩ a w hI H;dsimp only at hI H;obtain⟨hjy,hjn,Eh⟩:=hI;have aBW:=Ka.mono Eh;have Rt:=FT.mono Eh;have ams:∀b o,G b=some o->g9 b=some o:=fun b o h=>Eh b o<|amr b o h;dsimp only[lca,bq]at H;refine jU H M ?_ ?_
    · intro kE
      try have p52:=dT kE
      obtain⟨c1,c2,c3,c4⟩:=hjy (by assumption);obtain⟨oo,z,x0,zf,zr,Bz,rfl,rfl,rfl,hxs,hxl,hc0,hhz,hfz,hrz,hxj⟩:=Ao c2
      have hzt:z.text.size<=kN out:=by
        rw[Bz,Gy];simp only[kN];omega
      obtain⟨cur,-,rfl,hcur,hset⟩:=hrw.set1;refine dI hmx [[],[],[1],[0,1,2],ra 0 4,ra 0 5,[],[6],ra 0 8,ra 0 9,ra 0 10,ra 0 11] [9,10,11] V [_,_,vi ((out.length-1:Nat):Int),_,_,.string z.text,_,.string l[k].text,.string<|z.text++l[k].text] H (aD (Z0 M<|Rm M) (Z0 M<|Rm M) ?_ (Z2 0 80 2 82 M<|Ri dM bL M M)<|aD (Z1 3 83 M<|Rf pE M) ?_ (Z0 M<|Rf pE M) (Z1 6 86 M<|Ro gN 0 M)<|aD ?_ (bX M) (bX M) (bX M) dz) ?_
      · refine iE 1 81 M M fun _ a w G1 hG HT H fin=>?_;refine kH H<|Rs M ?_;exact T9
      · refine iE 4 84 M M fun _ a w G1 hG HT H fin=>?_;refine vo gN H wn M (hrw.at H.hp (fun x hx=>gH _ hx) (by rw[fB];exact hxj 3 _ M)) M ?_;exact jD
      · refine fu 5 85 7 87 M M fun _ a w G1 hG HT H fin=>?_;refine aqm H wn M M O M ?_;exact jD
      clear H;intro a w G pI H hv;have H:=H.aQ (hv 0 80 M M) M;have H:=H.aQ (hv 2 82 M M) M;have H:=H.aQ (hv 8 88 M M) M;clear hv;refine kH H<|Ri dM bL M M<|Rf pE M ?_;clear H;intro a H;refine EG gN 1 (c:=cur) (vs:=[.string<|z.text++l[k].text]) (cur.set ((out.length-1)*11+3) (.string<|z.text++l[k].text)) H wn M M M M M M (by simp;omega) (by rw[fB];rfl) ?_;clear H;intro w H;dsimp only[List.set]at H;have aDw:=hset ((out.length-1)*11+3) (.string<|z.text++l[k].text)
      have QZ:sF l (k+1)=oo++[lu z y]:=by rw[hos,Bz];exact Hg hnd ⟨by rw[hyk];exact c1,c3,by rw[hyh];exact c4⟩
      refine aI ⟨M,?_⟩;refine K1 _ _ ?_;clear K1;refine kP H<|SC<|Rd M<|Rm M ?_;clear H;intro a H;refine aI ?_;refine dO ((k+1,_,xs.set ((out.length-1)*11+3) (.string<|z.text++l[k].text),_,_)) (by exact(H.dR (Pl:=[_]) (dH:=[]) [] Z M).sub ⟨M,M,M,M,aC⟩) ?_
      (try dsimp only);exact⟨O,by rw[QZ,show(oo++[lu z y]).length=out.length by rw[Bz];simp];exact aDw,by rw[QZ,hxs,Bz];exact joined (hc0.mono fun b o h=>pI b o<|Eh b o h) hxl (hhz.mono fun b o h=>pI b o<|Eh b o h) (hfz.mono fun b o h=>pI b o<|Eh b o h) (hrz.mono fun b o h=>pI b o<|Eh b o h) (by rw[RA]),fun b o h=>pI b o<|ams b o h⟩
    intro kE
    try have p52:=dF kE
    have hnx:=hjn (by assumption);refine kP H<|SC<|Rm M ?_;clear H;intro a H;refine aY bL (cs:=[_,_,_,_,_,_,_,_,_,_,_]) H wn M M (H.hp.dB 0 M M) M ?_;clear H;intro a H;refine iT dM bL [_,_,_,_,_,_,_,_,_,_,_] [_,_,_,_,_,_,_,_,_,_,_] H wn M M M M M (by intro i q h;match i,h with|0,h=>exact h|n+1,h=>simp at h) M M ?_;clear H;intro Tn a w Vh H;refine lW (Li:=[_,_]) (Lo:=Lo) (news:=xL) dM bL M M H wn M M hrw (by rw[vM];rfl) (by rw[vM];exact H.hp.dB 0 M M) FT.one O O M ?_;clear H;intro v31 EY a w NC H;refine kH H<|bZ K1 M<|SC<|Rd M<|Rm M ?_;clear H K1;intro a H;refine aI ?_;refine dO ((k+1,v31,xs++xL,EY,_)) (by exact(H.dR (Pl:=[_,_]) (dH:=[]) [] Z M).sub ⟨M,M,M,M,aC⟩) ?_
    (try dsimp only);exact⟨O,by rw[hnx,gT];exact NC,by rw[hnx,iy];exact(aBW.snoc Rt (by rw[vM];rfl)),ams⟩
  intro h10 a H
  try have lC:=dF h10
  refine dS ?_;refine K3 _ _ ?_;clear K3;refine bU<|fun _ K1=>?_
  obtain rfl:k=l.length:=by omega
  obtain⟨G',hm,hrep,H⟩:=H.qy (Li:=[]) hrw (rows:=out.map ah.dat) (by simp) gK;exact kP H (SC<|Rm M<|bZ K1 M<|LR results99 M fun H=>H.rt (by rw[fq,<-hout];exact hrep))
theorem ape:∀n:Nat,n<=1073741825->Jk n
 |0,_=>fun _ _ _ _ _ _ _ h=>absurd h O
 |n+1,hn=>aFz (ape n O) O
theorem adg(G:GH)(w0:World)(hG:Hold G w0)(l:List ah)(v:aj)(hv:av G (.sl 11<|l.map ah.dat) v)(hne:kM l)(hz:aR l<=1073741824) :
  Calls prog 99 #[v] w0 (bD w0 G fun u G'=>av G' (.sl 11 ((fq l).map ah.dat)) u):=ape 1073741825 O G w0 hG l v hv hne O
theorem awZ:aW 104:=aX func104 M
theorem awX:aW 101:=aX func101 M
theorem axa:aW 105:=aX func105 M
theorem awW:aW 100:=aX func100 M
theorem awY:aW 103:=aX func103 M
theorem aIH{G:GH}{b3:Nat}{us:List Int}{uv:aj}(hb:aJ G b3 0=some uv)(hu:av G (.sl 1<|us.map fun k=>[li k]) uv)(hl:us.length<=4294967296)(x:dJ):wB (.func (.func 103) #[] #[aK b3 0]) G x.dat (!yX us x.id):=by
 intro G1 w0 cs hm hG hr;obtain rfl:=adJ hr;replace hb:=aH hm hb;replace hu:=hu.mono hm;obtain⟨uA,uc,rfl,-,-,-⟩:=hu.slice;refine kJ (caps:=[aK b3 0]) awY<|eN [(0,_),(1,_)] func103 M ntmps103 M M hG fun a H=>dw<|fun _ K1=>eD (cs:=[_,_,_]) H wn M M M fun b2 a w hb2 H=>kH H<|ak K1 M<|SR fun _ K2=>Rg Lg M hb<|aV aaN aF 0 M M fun a H=>s_call awZ H wn M (auR _ _ H.ro us x.id _ hu hl) M ?_;rintro v10 sN a w ⟨rfl,rfl⟩ uw H;refine kH H<|Rm M ?_;intro a H;(iterate 2 refine iH H wn M M M ?_;intro a H);exact kH H<|Ra M<|ak K2 M<|SR fun _ K1=>Rm M<|Rn M<|ak K1 M<|LR results103 M fun H=>H.rt M
def vO(d:jq):jq:=⟨fq d.flow,d.fin,d.revs,d.qb⟩
def nD(d:jq):jq:=⟨fq d.flow,d.fin,d.revs.filter fun r=>yX (BO (tY (vO d))) r.id,d.qb⟩
theorem aGu(G:GH)(l:List dJ):bR G 3 (l.map dJ.dat) (pY l):=by
 have h:∀(B A:List dJ),bR G 3 (A.map dJ.dat) (pY A)->bR G 3 ((A++B).map dJ.dat) (pY<|A++B):=by
  intro B
  induction B with
  |nil=>intro A h;rw[iR];exact h
  |cons x B ih=>
   intro A h;have h2:=h.snoc (adK G x) M;have h3:=ih (A++[x]) (by rw[adG,iy];exact h2)
   simpa using h3
 exact h l [] bR.nil
set_option maxHeartbeats 2000000 in
set_option maxRecDepth 8000 in
theorem ajB (G:GH) (w0:World) (hG:Hold G w0) (D:jh) (d:jq) (hR:lH G D d) (hz:sM d) (hne:kM d.flow) (hz2:aR (fq d.flow)<=1073741824) (hw:∀ k∈tY (vO d),-9223372036854775808<=k∧k < 9223372036854775808) (hl:(tY (vO d)).length<=4294967296) :
  Calls prog 38 #[D.val] w0 (bD w0 G fun u G'=>∃ D':jh,u=D'.val∧lH G' D' (nD d)):=by
 obtain ⟨df,dp,dd,dy,dr,d1,d2,d3,d4,ins,mv⟩:=D;obtain ⟨zf,zh,zr,zt,zs,Ls⟩:=hz;refine eN [(0,_)] func38 M ntmps38 M M hG ?_;intro a H;refine dw (fun _ K1=>?_);refine eD (cs:=[_,_,_,_,_,_,_,_,_,_,_]) H wn M M M ?_;clear H;intro b1 a w hb1 H;refine dK jc H wn M ?_;clear H;intro b2 a w hb2 H;refine K1 _ _ ?_;clear K1;refine kP H (SR fun _ K1=>aV wH eG 1 M M ?_);clear H;intro a H;refine s_call JK H wn M (adg _ _ H.ro d.flow _ hR.fl hne zf) M ?_;clear H;rintro v6 G6 a w hv6 Kl H;obtain ⟨fA,fn,fc,rfl⟩:=hv6.form;have CO:lH G6 ⟨(fA,fn,fc),dp,dd,dy,dr,d1,d2,d3,d4,ins,mv⟩ (vO d):=⟨hv6,hR.hd.mono Kl,hR.ins,hR.mv,hR.rv.mono Kl,hR.st.mono Kl⟩;refine kH H (Rf wH M ?_);clear H;intro a H;refine bH eG 1 (vs:=[_]) H wn M ?_;clear H;intro w H;refine K1 _ _ ?_;clear K1;refine dw (fun _ K1=>?_);refine aY jc (cs:=(⟨(fA,fn,fc),dp,dd,dy,dr,d1,d2,d3,d4,ins,mv⟩:jh).cells) H wn M M (H.hp.dB 1 M M) M ?_;clear H;intro a H;refine s_call awW H wn M (awN _ _ H.ro _ _ CO (by show aR (fq d.flow)<=_;omega) hw hl) rfl ?_;clear H;rintro v9 G9 a w VN ze H;obtain ⟨uA,un,uc,rfl⟩:=VN.form;refine dK Lg H wn M ?_;clear H;intro b3 a w hb3 H;refine bH Lg 0 (vs:=[_]) H wn M ?_;clear H;intro w H;refine K1 _ _ ?_;clear K1;refine bU (fun _ K1=>?_);obtain ⟨Gb,hmb,uq,H⟩:=H.eX;have hq3:aJ Gb b3 0=some (.slice uA un uc):=lQ uq 0 [.slice uA un uc] M 0 _ M;replace VN:=VN.mono hmb;replace CO:=(CO.mono ze).mono hmb;refine kP H (SC (aV MW Dz 1 M M ?_));clear H;intro a H;refine gM ajI (Li:=[_,_]) (L:=[]) H wn M (aja _ _ (yj H.ro) _ _ _ _ CO.rv (by simpa [vO] using zr)) M ?_;clear H;rintro v12 EX L12 a w ⟨aKW,NA,aBQ⟩ CV H;obtain rfl:=aGv aBQ;rw [bM] at NA;obtain ⟨rA,rc,rfl,-,-⟩:=NA.shape;refine wU H wn M M ?_;clear H;intro a H;refine gM awX (Li:=[_,_]) (L:=L12) H wn M (awI d.revs (fun r=>!yX (BO (tY (vO d))) r.id) (Hp.owns (Li:=[_,_]) H.hp) NA (fun x _=>aIH (aH CV hq3) (VN.mono CV) (by rw [BO,List.length_mergeSort];exact hl) x)) M ?_;clear H;rintro v14 DR L14 a w Ip Bv H
 simp only [Bool.not_not] at Ip
 obtain ⟨Gr,hmr,anf,H⟩:=St.qy (Li:=[_,_]) H Ip (rows:=(nD d).revs.map dJ.dat) (by simp [nD]) (aGu _ _);obtain ⟨rB,rn,rd,rfl⟩:=anf.form;replace CO:=((CO.mono CV).mono Bv).mono hmr;have hR2:lH Gr ⟨(fA,fn,fc),dp,dd,dy,(rB,rn,rd),d1,d2,d3,d4,ins,mv⟩ (nD d):=⟨CO.fl,CO.hd,CO.ins,CO.mv,anf,CO.st⟩;refine kH H (Rf MW M ?_);clear H;intro a H;refine bH Dz 1 (vs:=[_]) H wn M ?_;clear H;intro w H;refine aI ?_;refine K1 _ _ ?_;clear K1;refine dw (fun _ K1=>?_);refine aY jc (cs:=(⟨(fA,fn,fc),dp,dd,dy,(rB,rn,rd),d1,d2,d3,d4,ins,mv⟩:jh).cells) H wn M M (H.hp.dB 1 M M) M ?_;clear H;intro a H;refine gM axa (Li:=[_,_]) (L:=[]) H wn M (awL _ _ (yj H.ro) _ _ hR2 ⟨by show aR (fq d.flow)<=_;omega,zh,Nat.le_trans (List.length_filter_le _ _) zr,fun x hx=>zt x (List.mem_filter.1 hx).1,zs,Ls⟩) M ?_;clear H;rintro v17 DT L17 a w ⟨D',rfl,xf,Lf,xr,Lr,rfl,ND,abA,NG,abC,aCr,aCw,aCQ,hst'⟩ xX H;obtain ⟨Gs,hms,aDn,H⟩:=St.qy (Li:=[_,_]++Lf) (by rw [iG];exact H) NG (rows:=(nD d).revs.map dJ.dat) (by simp) abC;obtain ⟨Gt,hmt,aCk,H⟩:=St.qy (Li:=[_,_]) H ND (rows:=(nD d).flow.map ah.dat) (by simp) (abA.mono hms);refine bH jc 0 (vs:=[_,_,_,_,_,_,_,_,_,_,_]) H wn M ?_;clear H;intro w H;refine K1 _ _ ?_;clear K1;refine eH ?_;refine (leave1 H results38 (.cons (vk jc (cs:=[_,_,_,_,_,_,_,_,_,_,_]) H M M (H.hp.dB 0 M M)) .nil) ?_).1;exact H.rt ⟨D',M,aCk,(aCr.mono hms).mono hmt,aCw,aCQ,aDn.mono hmt,(hst'.mono hms).mono hmt⟩
theorem UU{l:List Int}(h:∀x∈l,x=0):fD l=0:=by
 induction l with
 |nil=>rfl
 |cons x l ih=>rw[h x fJ];simp only[fD,ne_eq,not_true_eq_false,if_false];exact ih fun y hy=>h y<|gH _ hy
theorem Yy{E:Nat->Int}{n:Nat}(h:∀i,i<n->E i=0):kW E n=0:=UU fun x hx=>by
 obtain⟨i,hi,rfl⟩:=List.mem_map.1 hx;exact h i<|qo.1 hi
def Jg(mP:List Int)(h:fI):Prop:=∀q∈refs h,q≠0->q∈mP
theorem Vm{C C':bG}{e:Int}{h:fI}(h1:C'.st=C.st)(h2:C'.oq=C.oq)(h0:0∉C.mP)(hin:Jg C'.mP h)(hE:iX C e h=0):iX C' e h=0:=by
 have z:=mo hE;have z1:=z (sU e h.props) (by simp);have z2:=z (zu C h.props) (by simp);have z3:=z (ou C h.marks) (by simp);have z4:=z (kW (xM C h.marks.dQ) h.marks.dQ.length) (by simp);have z5:=z (dX (decide (64<(h.marks.layers.length:Int))) 9) (by simp);have z6:=z (kW (Db C e h.marks.layers) h.marks.layers.length) (by simp);have hr:∀q∈refs h,q=0∨q∈C.mP:=abI hE;refine UU fun x hx=>?_
 simp only[iL,List.not_mem_nil,or_false]at hx
 rcases hx with rfl|rfl|rfl|rfl|rfl|rfl
 ·exact z1
 ·rw[zu,h1,h2];exact z2
 ·unfold ou at z3|-
  have hi:¬(h.marks.ins≠0∧h.marks.ins∉C'.mP):=fun hn=>hn.2 (hin _ (by simp[refs]) hn.1)
  by_cases hq:h.marks.ins≠0∧h.marks.ins∉C.mP
  ·rw[ay hq]at z3;cases z3
  rw[au hq]at z3;rw[au hi];exact z3
 ·refine Yy fun k hk=>?_;have h5:=Hl z4 k hk
  unfold xM at h5|-
  rw[gF hk]at h5|-;dsimp only[Bg]at h5|-
  have hm:h.marks.dQ[k].rev∈refs h:=by simp only[refs,iL,iF,List.mem_map];exact .inr (.inl ⟨_,ig hk,M⟩)
  by_cases hq:h.marks.dQ[k].rev∉C.mP
  ·rw[ay hq]at h5;cases h5
  rw[au hq]at h5;rw[au<|fun hn=>hn<|hin _ hm fun e=>h0<|e ▸ nL.1 hq];exact h5
 ·exact z5
 refine Yy fun k hk=>?_;have h5:=Hl z6 k hk
 unfold Db at h5|-
 rw[gF hk]at h5|-;dsimp only[KH]at h5|-
 have hm:h.marks.layers[k].rev∈refs h:=by simp only[refs,iL,iF,List.mem_map];exact .inr (.inr ⟨_,ig hk,M⟩)
 by_cases hq:h.marks.layers[k].rev∉C.mP
 ·rw[ay hq]at h5;cases h5
 rw[au hq]at h5;rw[au (fun hn=>hn<|hin _ hm fun e=>h0<|e ▸ nL.1 hq),h1,h2];exact h5
mutual
theorem aGS{C C':bG}(h1:C'.st=C.st)(h2:C'.oq=C.oq)(h0:0∉C.mP)(body note:Bool)(t:Int):∀x:ah,(∀h∈J4 x,Jg C'.mP h)->jQ C body note t x->jQ C' body note t x
 |.mk k c i tx h f r,hh,hx=>by
  have hf:=WS h1 h2 h0 false true t f;have hr:=aqk h1 h2 h0 note (t+1) r;rw[J4]at hh;rw[jQ]at hx|-;refine⟨hx.1,hx.2.1,Vm h1 h2 h0 (hh h fJ) hx.2.2.1,fun e=>?_,fun e=>⟨(hx.2.2.2.2 e).1,?_⟩⟩
  ·subst e;exact hf (fun y hy=>hh y (gH _ (by simpa using hy))) (hx.2.2.2.1 M)
  subst e;exact hr (fun y hy=>hh y (gH _ (by simpa using hy))) (hx.2.2.2.2 M).2
theorem aGT{C C':bG}(h1:C'.st=C.st)(h2:C'.oq=C.oq)(h0:0∉C.mP)(note:Bool)(t:Int):∀x:aN,(∀h∈J7 x,Jg C'.mP h)->pQ C note t x->pQ C' note t x
 |.mk h cs,hh,hx=>by
  have hc:=aqj h1 h2 h0 note t cs;rw[J7]at hh;rw[pQ]at hx|-;refine⟨UU fun y hy=>?_,hc (fun y hy=>hh y (gH _ hy)) hx.2⟩;have z:=mo hx.1
  simp only[iL,List.not_mem_nil,or_false]at hy
  rcases hy with rfl|rfl|rfl
  ·exact Vm h1 h2 h0 (hh h fJ) (z _ fJ)
  ·exact z _ (by simp)
  exact z _ (by simp)
theorem aGR{C C':bG}(h1:C'.st=C.st)(h2:C'.oq=C.oq)(h0:0∉C.mP)(note:Bool)(t:Int):∀x:aP,(∀h∈JZ x,Jg C'.mP h)->pO C note t x->pO C' note t x
 |.mk i h f,hh,hx=>by
  have hf:=WS h1 h2 h0 false note t f;rw[JZ]at hh;rw[pO]at hx|-;exact⟨Vm h1 h2 h0 (hh h fJ) hx.1,hf (fun y hy=>hh y (gH _ hy)) hx.2⟩
theorem WS{C C':bG}(h1:C'.st=C.st)(h2:C'.oq=C.oq)(h0:0∉C.mP)(body note:Bool)(t:Int):∀l:List ah,(∀h∈pJ l,Jg C'.mP h)->fF C body note t l->fF C' body note t l
 |[],_,_=>by rw[fF];trivial
 |x::l,hh,h=>by
  rw[pJ]at hh;rw[fF]at h|-;exact⟨aGS h1 h2 h0 body note t x (fun y hy=>hh y (List.mem_append_left _ hy)) h.1,WS h1 h2 h0 body note t l (fun y hy=>hh y (List.mem_append_right _ hy)) h.2⟩
theorem aqk{C C':bG}(h1:C'.st=C.st)(h2:C'.oq=C.oq)(h0:0∉C.mP)(note:Bool)(t:Int):∀l:List aN,(∀h∈Br l,Jg C'.mP h)->mM C note t l->mM C' note t l
 |[],_,_=>by rw[mM];trivial
 |x::l,hh,h=>by
  rw[Br]at hh;rw[mM]at h|-;exact⟨aGT h1 h2 h0 note t x (fun y hy=>hh y (List.mem_append_left _ hy)) h.1,aqk h1 h2 h0 note t l (fun y hy=>hh y (List.mem_append_right _ hy)) h.2⟩
theorem aqj{C C':bG}(h1:C'.st=C.st)(h2:C'.oq=C.oq)(h0:0∉C.mP)(note:Bool)(t:Int):∀l:List aP,(∀h∈CJ l,Jg C'.mP h)->nE C note t l->nE C' note t l
 |[],_,_=>by rw[nE];trivial
 |x::l,hh,h=>by
  rw[CJ]at hh;rw[nE]at h|-;exact⟨aGR h1 h2 h0 note t x (fun y hy=>hh y (List.mem_append_left _ hy)) h.1,aqj h1 h2 h0 note t l (fun y hy=>hh y (List.mem_append_right _ hy)) h.2⟩
end
def O6(l:List dJ):Prop:=l.length<=256∧(∀x∈l,yK x.author=true∧(0<=x.time∧x.time<=1099511627776)∧1<=x.id∧x.id<=1073741824)∧l.Pairwise fun x y=>x.id<y.id
theorem aGQ{l:List dJ}(h:Fj l=0):O6 l:=by
 have h1:=mo h _<|fJ;have h2:=mo h _<|gH _ fJ
 have hl:l.length<=256:=by
  rw[BX Z,Ci]at h1;omega
 have hi:∀i(hi:i<l.length),WK l i l[i]=0:=fun i hi=>by
  have h3:=Hl h2 i O
  unfold Ey at h3
  rwa[gF hi]at h3
 refine⟨hl,fun x hx=>?_,?_⟩
 ·obtain⟨i,hi',rfl⟩:=List.getElem_of_mem hx;have z:=mo<|hi i hi';have z1:=VW<|z _ fJ;rw[gF hi']at z1;have z2:=z (dX (!yK l[i].author) 39) (by simp);have z3:=z (dX (!decide (0<=l[i].time∧l[i].time<=1099511627776)) 40) (by simp);rw[BX Z]at z2 z3;exact⟨by simpa using z2,by simpa using z3,z1.1,z1.2.1⟩
 have step:∀i(hi':i+1<l.length),l[i].id<l[i+1].id:=fun i hi'=>by
  have z1:=(VW<|mo (hi (i+1) hi') _ fJ).2.2 O;rw[Nat.add_sub_cancel,gF hi',gF (show i<l.length by omega)]at z1;exact z1
 rw[List.pairwise_iff_getElem];intro i j hi' hj hij
 induction j with
 |zero=>omega
 |succ j ih=>
  by_cases e:i=j
  ·subst e;exact step i hj
  exact Int.lt_trans (ih O O)<|step j hj
theorem aDZ{id:Nat->Int}{i:Nat}(h1:1<=id i∧id i<=1073741824)(h2:0<i->id (i-1)<id i):yh id i=0:=by
 unfold yh
 rw[au (fun hn=>hn h1),au (fun hn=>by have:=h2 hn.1;omega),au (fun hn=>by have:=h2 hn.1;omega)]
theorem aAL{l:List dJ}(h:O6 l):Fj l=0:=by
 obtain⟨hl,hx,hp⟩:=h;refine aaR.2 ⟨(BX Z).2 (mE O),Yy fun i hi=>?_⟩
 have hi':i<l.length:=by omega
 unfold Ey
 rw[gF hi'];have h1:=hx _<|ig hi';refine UU fun y hy=>?_
 simp only[iL,List.not_mem_nil,or_false]at hy
 rcases hy with rfl|rfl|rfl
 ·have e:∀k(hk:k<l.length),(l[k]?.map dJ.id).getD 0=l[k].id:=fun k hk=>by rw[gF hk];rfl
  exact aDZ (by rw[e i hi'];exact h1.2.2) (fun h0=>by
   rw[e i hi',e (i-1) O]
   exact List.pairwise_iff_getElem.1 hp (i-1) i O hi' O)
 ·rw[BX Z,h1.1];rfl
 rw[BX Z,kZ h1.2.1];rfl
theorem O6.sub{l m:List dJ}(h:O6 l)(hs:m.Sublist l):O6 m:=⟨Nat.le_trans hs.length_le h.1,fun x hx=>h.2.1 x (hs.subset hx),h.2.2.sublist hs⟩
def uF(A:List eU):Int:=(A.map fun f=>kL f.items).sum
theorem aek(a b:List eU):uF (a++b)=uF a+uF b:=by simp[uF]
theorem Xk(x:eU)(b:List eU):uF (x::b)=kL x.items+uF b:=by simp[uF]
theorem aIt(A:List eU):sJ A=uF A:=by
 have key:∀(A:List eU)(n:Int),A.foldl (fun n f=>n+kL f.items) n=n+uF A:=by
  intro A
  induction A with
  |nil=>intro n;simp[uF]
  |cons x A ih=>intro n;rw[List.foldl_cons,ih,Xk];omega
 rw[sJ,key];omega
theorem acQ{C:bG}{body note:Bool}{t:Int}{l:List ah}(h:fF C body note t l):kL l=bC l:=by
 unfold kL
 rw[ay]
 unfold yN
 rw[lM];intro x hx;have h1:=(FD ((tJ x).1<|nG.1 h x hx).1).1;refine kZ ?_
 unfold tX I4;rw[ay h1];split <;>rfl
theorem arG(k c i:Int)(tx:ByteArray)(h:fI)(f:List ah)(r:List aN):uI (.mk k c i tx h f r)=bO (.mk k c i tx h f r)+(if k=6 then gY f else if k=7 then qd r else 0):=by rw[uI];rfl
mutual
theorem aIv(C:bG)(body note:Bool)(t:Int)(n2:Bool)(t2:Int):∀x:ah,jQ C body note t x->(bO x:Nat)+uF (qh n2 t2 x)=(uI x:Nat)
 |.mk k c i tx h f r,hx=>by
  have hf:=Xp C false true t true t2 f;have hr:=arJ C note (t+1) n2 t2 r;rw[jQ]at hx;rw[arG,qh]
  by_cases h6:k=6
  ·subst h6;have ho:=hx.2.2.2.1 M;have:=hf ho;rw[ay M,ay M,Xk];dsimp only;rw[acQ ho];push_cast;omega
  by_cases h7:k=7
  ·subst h7;have:=hr (hx.2.2.2.2 M).2;rw[au h6,au h6,ay M,ay M];push_cast;omega
  rw[au h6,au h6,au h7,au h7];simp[uF]
theorem aIw(C:bG)(note:Bool)(t:Int)(n2:Bool)(t2:Int):∀x:aN,pQ C note t x->uF (qW n2 t2 x)=(uR x:Nat)
 |.mk h cs,hx=>by
  have hc:=arI C note t n2 t2 cs;rw[pQ]at hx;rw[uR,qW];exact hc hx.2
theorem aIu(C:bG)(note:Bool)(t:Int)(n2:Bool)(t2:Int):∀x:aP,pO C note t x->uF (qg n2 t2 x)=(uC x:Nat)
 |.mk i h f,hx=>by
  have hf:=Xp C false note t n2 (t2+1) f;rw[pO]at hx;have:=hf hx.2;rw[uC,qg,Xk];dsimp only;rw[acQ hx.2];omega
theorem Xp(C:bG)(body note:Bool)(t:Int)(n2:Bool)(t2:Int):∀l:List ah,fF C body note t l->(bC l:Nat)+uF (iD n2 t2 l)=(gY l:Nat)
 |[],_=>by simp[bC,iD,uF,gY]
 |x::l,h=>by
  rw[fF]at h;have h1:=aIv C body note t n2 t2 x h.1;have h2:=Xp C body note t n2 t2 l h.2;rw[bC,iD,gY,aek];push_cast;omega
theorem arJ(C:bG)(note:Bool)(t:Int)(n2:Bool)(t2:Int):∀l:List aN,mM C note t l->uF (kR n2 t2 l)=(qd l:Nat)
 |[],_=>by simp[kR,uF,qd]
 |x::l,h=>by
  rw[mM]at h;have h1:=aIw C note t n2 t2 x h.1;have h2:=arJ C note t n2 t2 l h.2;rw[kR,qd,aek];push_cast;omega
theorem arI(C:bG)(note:Bool)(t:Int)(n2:Bool)(t2:Int):∀l:List aP,nE C note t l->uF (kX n2 t2 l)=(qE l:Nat)
 |[],_=>by simp[kX,uF,qE]
 |x::l,h=>by
  rw[nE]at h;have h1:=aIu C note t n2 t2 x h.1;have h2:=arI C note t n2 t2 l h.2;rw[kX,qE,aek];push_cast;omega
end
theorem aeo{C:bG}{body note:Bool}{t:Int}{l:List ah}(h:fF C body note t l):sJ (gJ l)=(gY l:Nat):=by
 have:=Xp C body note t false 0 l h;rw[aIt,gJ,Xk];dsimp only;rw[acQ h];exact this
theorem ada{d:jq}(h:jK d=0):jK (vO d)=0∧sJ (gJ<|fq d.flow)=sJ (gJ d.flow):=by
 obtain⟨h1,h2,h3,h4,h5⟩:=(Fp d).1 h;obtain⟨e1,e2⟩:=VQ h3;exact⟨(Fp<|vO d).2 ⟨h1,h2,Aw h3,by show kT [] [] (gQ<|fq d.flow);rw[e1];exact h4,by show gY (fq d.flow)<=_;rw[e2];exact h5⟩,by rw[aeo (Aw h3),aeo h3,e2]⟩
theorem aH2(l:List Int):(BO l).Pairwise (·<=·):=by
 have h:=List.pairwise_mergeSort (le:=leI) (fun a b c h1 h2=>by simp only[leI,qm]at *;omega) (fun a b=>by simp only[leI,Bool.or_eq_true,qm];omega) l
 exact h.imp fun h=>by simpa[leI]using h
theorem aEk(d:jq):(fun r:dJ=>yX (BO<|tY<|vO d) r.id)=fun r=>decide (r.id∈tY (vO d)):=by
 funext r
 rw[aBz<|aH2 _];exact decide_eq_decide.2 (by rw[BO,List.mem_mergeSort])
theorem aoJ {d:jq} (h:jK d=0):jK (nD d)=0:=by
 obtain ⟨h1,h2,h3,h4,h5⟩:=(Fp _).1 (ada h).1;have hg:=aGQ h1.2
 have h0:(0:Int)∉(vO d).mX.mP:=by
  intro hm;obtain ⟨x,hx,e⟩:=List.mem_map.1 (show (0:Int)∈d.revs.map dJ.id from hm);have:=(hg.2.1 x hx).2.2.1
  omega
 have hin:∀ q∈Od (vO d),q≠0->q∈(nD d).mX.mP:=by
  intro q hq hn
  have hu:q∈tY (vO d):=by
   unfold tY
   rw [List.mem_filter,qm,Yp];exact ⟨.inr hq,hn⟩
  have hr:=(adv (ada h).1 q hq).resolve_left hn;obtain ⟨x,hx,rfl⟩:=List.mem_map.1 hr
  show x.id∈(nD d).revs.map dJ.id
  refine List.mem_map.2 ⟨x,?_,M⟩
  show x∈d.revs.filter _
  rw [aEk,List.mem_filter];exact ⟨hx,kZ hu⟩
 refine (Fp (nD d)).2 ⟨⟨h1.1,aAL (hg.sub List.filter_sublist)⟩,⟨Vm (C:=(vO d).mX) (C':=(nD d).mX) M M h0 (fun q hq hn=>hin q (by unfold Od;exact List.mem_append_right _ hq) hn) h2.1,h2.2⟩,WS (C:=(vO d).mX) (C':=(nD d).mX) M M h0 true false 0 _ (fun x hx q hq hn=>hin q (by unfold Od;exact List.mem_append_left _ (List.mem_flatMap.2 ⟨x,hx,hq⟩)) hn) h3,h4,h5⟩
theorem RO:∀a b:List ah,rY (a++b)=rY a+rY b
 |[],b=>by rw[fQ,rY,fB]
 |x::a,b=>by rw[jl,rY,rY,RO a b,Nat.add_assoc]
theorem NT{x:ah}(h:iP x=0)(hk:x.kind=1):n1 x=dU x.text:=by
 have hv:=(xQ h hk).2.2.1
 unfold n1 tX bO
 rw[ay hk,ay hk,I4,ay hv,ay M]
theorem Mc{g:Int}{t:Nat}{x:ah}(h:x.kind=1):sP g t x=[]:=by rw[He,bQ,bQ,bQ];rfl
theorem aE2{z y:ah}(hz:iP z=0)(hy:iP y=0)(hj:vN z y):n1 (lu z y)=n1 z+n1 y:=by
 rw[NT hz hj.2.1,NT hy hj.1,NT (alz hz hy hj.2.1 hj.1) hj.2.1];exact P6 (xQ hz hj.2.1).2.2.1 (xQ hy hj.1).2.2.1
theorem Yz{C:bG}{body note:Bool}{tt:Int}{A:List ah}(h:fF C body note tt A)(g:Int)(t:Nat):cB g t (A.foldl addN [])=cB g t A:=by
 have h1:=fold_add (γ:=(Nat->List cZ)×Nat) (F:=fun l=>(fun t=>cB g t l,rY l)) (op:=fun a b=>(fun t=>a.1 t++b.1 (t+a.2),a.2+b.2)) (Q:=jQ C body note tt)
  (fun a b=>Prod.ext (funext fun t=>AY g t a b)<|RO a b) N7 RQ
  (fun o z y hz hy hj=>by
   rw[tJ]at hz hy;have e:=aE2 hz.1 hy.1 hj;refine Prod.ext (funext fun t=>?_) ?_
   ·dsimp only;rw[AY,AY,cB,cB,cB,cB,cB,Mc (show(lu z y).kind=1 from hj.2.1),Mc hj.2.1,Mc hj.1]
    simp[cB]
   dsimp only
   simp only[RO,rY,e];omega) A [] (nG.1 h) (fun _ h=>(by cases h))
 exact congrFun (cO Prod.fst h1) t
mutual
theorem atH(C:bG)(body note:Bool)(tt:Int)(g:Int)(t:Nat):∀x:ah,jQ C body note tt x->sP g t (nI x)=sP g t x
 |.mk k c i tx h f r,hx=>by
  have hf:=Tg C false true tt i 0 f;have hr:=afg C note (tt+1) r;have ho:=BI C false true tt f;rw[jQ]at hx;rw[nI,sP,sP]
  congr 1
  congr 1
  ·split
   ·rename_i h6;rw[Yz (ho (hx.2.2.2.1 h6)),hf (hx.2.2.2.1 h6)]
   rfl
  split
  ·rename_i h7;rw[hr (hx.2.2.2.2 h7).2]
  rfl
theorem atI(C:bG)(note:Bool)(tt:Int):∀x:aN,pQ C note tt x->wD (nR x)=wD x
 |.mk h cs,hx=>by
  have hc:=aff C note tt cs;rw[pQ]at hx;rw[nR,wD,wD,hc hx.2]
theorem atG(C:bG)(note:Bool)(tt:Int):∀x:aP,pO C note tt x->wC (nC x)=wC x
 |.mk i h f,hx=>by
  have hf:=Tg C false note tt i 0 f;have ho:=BI C false note tt f;rw[pO]at hx;rw[nC,wC,wC,Yz (ho hx.2),hf hx.2]
theorem Tg(C:bG)(body note:Bool)(tt:Int)(g:Int)(t:Nat):∀l:List ah,fF C body note tt l->cB g t (nS l)=cB g t l
 |[],_=>by rw[nS]
 |x::l,h=>by
  rw[fF]at h;rw[nS,cB,cB,atH C body note tt g t x h.1,Tg C body note tt g (t+n1 (nI x)) l h.2]
  have:n1 (nI x)=n1 x:=by rw[IC];rfl
  rw[this]
theorem afg(C:bG)(note:Bool)(tt:Int):∀l:List aN,mM C note tt l->jT (sj l)=jT l
 |[],_=>by rw[sj]
 |x::l,h=>by rw[mM]at h;rw[sj,jT,jT,atI C note tt x h.1,afg C note tt l h.2]
theorem aff(C:bG)(note:Bool)(tt:Int):∀l:List aP,nE C note tt l->kU (rZ l)=kU l
 |[],_=>by rw[rZ]
 |x::l,h=>by rw[nE]at h;rw[rZ,kU,kU,atG C note tt x h.1,aff C note tt l h.2]
end
theorem afh{C:bG}{body note:Bool}{tt:Int}{l:List ah}(h:fF C body note tt l)(g:Int)(t:Nat):cB g t (fq l)=cB g t l:=by
 rw[BH,Yz (BI C body note tt l h),Tg C body note tt g t l h]
def BU(d:jq)(m:List ah):jq:=⟨m,d.fin,d.revs,d.qb⟩
theorem aiz {p:Prop} (h:p:=by
 by_cases hi:i=id∧false=false
 ·rw[ay hi]at e;cases e
 rw[au hi]at e;intro F hF
 rcases iL.1 hF with rfl|hF
 ·exact fun e=>hi ⟨e,M⟩
 exact hf e F hF):p:=h
mutual
theorem aFq(id:Int)(new:List ah)(note:Bool)(t:Int):∀x:ah,(pX id new false x).2=false->∀F∈qh note t x,F.id≠id
 |.mk k c i tx h f r,e=>by
  have hf:=Ws id new true t f;have hr:=aoZ id new note t r;rw[pX]at e;rw[qh]
  by_cases h6:k=6
  ·rw[ay h6]at e|-
   exact aiz
  rw[au h6]at e|-
  by_cases h7:k=7
  ·rw[ay h7]at e|-;exact hr e
  rw[au h7]at e|-;exact fun F hF=>(by cases hF)
theorem aFr(id:Int)(new:List ah)(note:Bool)(t:Int):∀x:aN,(tL id new false x).2=false->∀F∈qW note t x,F.id≠id
 |.mk h cs,e=>by rw[tL]at e;rw[qW];exact aoY id new note t cs e
theorem aFp(id:Int)(new:List ah)(note:Bool)(t:Int):∀x:aP,(qN id new false x).2=false->∀F∈qg note t x,F.id≠id
 |.mk i h f,e=>by
  have hf:=Ws id new note (t+1) f;rw[qN]at e;rw[qg]
  exact aiz
theorem Ws(id:Int)(new:List ah)(note:Bool)(t:Int):∀l:List ah,(jk id new false l).2=false->∀F∈iD note t l,F.id≠id
 |[],_,F,hF=>by rw[iD]at hF;cases hF
 |x::l,e,F,hF=>by
  rw[jk]at e;rw[iD]at hF
  cases hx:(pX id new false x).2 with
  |true=>rw[hx,IJ]at e;cases e
  |false=>
   rw[hx]at e
   rcases iF.1 hF with hF|hF
   ·exact aFq id new note t x hx F hF
   exact Ws id new note t l e F hF
theorem aoZ(id:Int)(new:List ah)(note:Bool)(t:Int):∀l:List aN,(mD id new false l).2=false->∀F∈kR note t l,F.id≠id
 |[],_,F,hF=>by rw[kR]at hF;cases hF
 |x::l,e,F,hF=>by
  rw[mD]at e;rw[kR]at hF
  cases hx:(tL id new false x).2 with
  |true=>rw[hx,Oh]at e;cases e
  |false=>
   rw[hx]at e
   rcases iF.1 hF with hF|hF
   ·exact aFr id new note t x hx F hF
   exact aoZ id new note t l e F hF
theorem aoY(id:Int)(new:List ah)(note:Bool)(t:Int):∀l:List aP,(mO id new false l).2=false->∀F∈kX note t l,F.id≠id
 |[],_,F,hF=>by rw[kX]at hF;cases hF
 |x::l,e,F,hF=>by
  rw[mO]at e;rw[kX]at hF
  cases hx:(qN id new false x).2 with
  |true=>rw[hx,Og]at e;cases e
  |false=>
   rw[hx]at e
   rcases iF.1 hF with hF|hF
   ·exact aFp id new note t x hx F hF
   exact aoY id new note t l e F hF
end
def vX(id:Int)(new l:List ah):List ah:=if id=0 then new else(jk id new false l).1
theorem adV{l:List ah}(h:zH l){g:eU}(hg:g∈gJ l)(new:List ah):∃c,hid 0 c=g.id∧l=lF c g.items∧vX g.id new l=lF c new:=by
 have hfo:iZ l g.id=some g.items:=by unfold iZ;rw[Qp h.ids hg];rfl
 have key:∃c f0,hid 0 c=g.id∧l=lF c f0∧vX g.id new l=lF c new:=by
  by_cases h0:g.id=0
  ·exact⟨[],l,h0.symm,M,ay h0⟩
  rw[vX,au h0]
  have hr:(jk g.id new false l).2=true:=by
   cases e:(jk g.id new false l).2 with
   |true=>rfl
   |false=>
    rcases iL.1 hg with rfl|hg
    ·exact absurd M h0
    exact absurd M<|Ws g.id new false 0 l e g hg
  obtain⟨fr,c,f0,h1,h2,h3⟩:=Xy g.id new l hr;exact⟨fr::c,f0,h1,h2,h3⟩
 obtain⟨c,f0,h1,h2,h3⟩:=key;have h4:=aF2<|h2 ▸ h;rw[<-h2,h1,hfo]at h4;exact⟨c,h1,by rw[h2,Option.some.inj h4],h3⟩
theorem atM{l:List ah}(h:zH l):(cB 0 0 l).Nodup:=by
 have h1:=(Tm 0 0 l h.ok).nodup h.vnd
 unfold List.Nodup at h1
 rw[List.pairwise_map]at h1;exact h1.imp fun hne e=>hne (by rw[e])
theorem aAu{x:ah}(h:iP x=0)(hk:x.kind=8):1<=x.code∧x.code<=4:=by
 unfold iP at h
 split at h
 ·cases h
 rename_i h1
 simp only[codeOk,hk,Bool.or_eq_true,not_or,Bool.not_eq_true',Bool.not_eq_false]at h1
 simpa using h1.2
theorem aly{x:ah}{tx:ByteArray}(hx:iP x=0)(hk:x.kind=1)(hv:iI tx=true)(he:rz tx=false):iP (.mk x.kind x.code x.id tx x.head x.flow x.rows)=0:=by
 obtain⟨a1,a2,a3,a4,a5,a6⟩:=xQ hx hk
 unfold iP codeOk um vw vC sV tH
 simp only[ah.kind,ah.code,ah.id,ah.text,ah.flow,ah.rows]at *
 simp[hk,a1,a2,a5,a6,hv,he,vw,sV,tH,vC,ah.kind,ah.code]
theorem aji{s:ByteArray}(h:0<dU s):rz s=false:=by
 have:=Fu s;rw[Uu,Ci];omega
theorem aph{C:bG}{body note:Bool}{t:Int}{x:ah}{u:Nat}(h:jQ C body note t x)(hk:x.kind=1)(h0:0<u)(h1:u<dU x.text):jQ C body note t (qp x u)∧jQ C body note t (ru x u):=by
 rw[tJ]at h;obtain⟨q1,q2,q3,q4⟩:=Sg (xQ h.1 hk).2.2.1<|Nat.le_of_lt h1;exact⟨(tJ _).2 ⟨aly h.1 hk q1 (aji O),h.2⟩,(tJ _).2 ⟨aly h.1 hk q2 (aji O),h.2⟩⟩
theorem aag{C:bG}{body note:Bool}{tt:Int}{l a b:List ah}{t:Nat}(h:oG l t a b)(hl:fF C body note tt l):fF C body note tt a∧fF C body note tt b:=by
 rw[nG]at hl
 cases h with
 |between p q h ht=>subst h;exact⟨nG.2 fun x hx=>hl x (List.mem_append_left _ hx),nG.2 fun x hx=>hl x<|List.mem_append_right _ hx⟩
 |inside p x q u h hk h0 h1 ht=>
  subst h;obtain⟨g1,g2⟩:=aph (hl x (by simp)) hk h0 h1
  exact⟨nG.2 fun y hy=>(iF.1 hy).elim (fun h=>hl y<|List.mem_append_left _ h) (fun h=>by rw[oH.1 h];exact g1),
   nG.2 fun y hy=>(iL.1 hy).elim (fun h=>by rw[h];exact g2)<|fun h=>hl y (by simp[h])⟩
theorem ajo{l a b:List ah}{t:Nat}(h:oG l t a b)(hl:kM l):kM a∧kM b:=by
 cases h with
 |between p q h ht=>subst h;exact⟨KQ fun x hx=>Eu hl x (List.mem_append_left _ hx),KQ fun x hx=>Eu hl x<|List.mem_append_right _ hx⟩
 |inside p x q u h hk h0 h1 ht=>
  subst h;have hx:=Eu hl x (by simp);rw[Wo]at hx
  exact⟨KQ fun y hy=>(iF.1 hy).elim (fun h=>Eu hl y<|List.mem_append_left _ h) (fun h=>by rw[oH.1 h,Wo];exact hx),
   KQ fun y hy=>(iL.1 hy).elim (fun h=>by rw[h,Wo];exact hx)<|fun h=>Eu hl y (by simp[h])⟩
theorem aIm(s:ByteArray)(u:Nat):(oP s u).size<=s.size∧(qQ s u).size<=s.size:=by
 unfold oP qQ
 rw[ByteArray.size_extract,ByteArray.size_extract];omega
theorem Un{l a b:List ah}{t:Nat}(h:oG l t a b):aR a<=aR l∧aR b<=aR l:=by
 cases h with
 |between p q h ht=>subst h;rw[xq];omega
 |inside p x q u h hk h0 h1 ht=>
  subst h;have hs:=aIm x.text u;have e0:=lY x;have e1:bY (qp x u).dat=(oP x.text u).size+oF x.head+aR x.flow+gB x.rows+6:=lY<|qp x u;have e2:bY (ru x u).dat=(qQ x.text u).size+oF x.head+aR x.flow+gB x.rows+6:=lY<|ru x u;have z0:aR ([]:List ah)=0:=rfl;rw[xq,xq,OO,OO,OO,z0]
  omega
theorem P8{C:bG}{body note:Bool}{tt:Int}{p q:List ah}{x:ah}(hl:fF C body note tt (p++x::q))(hk:x.kind=1):iI x.text=true:=(xQ ((tJ x).1<|nG.1 hl x (by simp)).1 hk).2.2.1
theorem awC{l a b:List ah}{t:Nat}(h:oG l t a b):gQ a++gQ b=gQ l:=by
 cases h with
 |between p q h ht=>subst h;exact(C9 _ _).symm
 |inside p x q u h hk h0 h1 ht=>
  subst h;rw[C9,C9,gQ,gQ,gQ,gQ,NJ hk,NJ (show(qp x u).kind=1 from hk),NJ (show(ru x u).kind=1 from hk)]
  simp
theorem awD{C:bG}{body note:Bool}{tt:Int}{l a b:List ah}{t:Nat}(h:oG l t a b)(hl:fF C body note tt l):gY a+gY b=gY l:=by
 cases h with
 |between p q h ht=>subst h;exact(DJ _ _).symm
 |inside p x q u h hk h0 h1 ht=>
  subst h;obtain⟨q1,q2,q3,q4⟩:=Sg (P8 hl hk)<|Nat.le_of_lt h1;have e1:uI (qp x u)=u:=(OE (show(qp x u).kind=1 from hk)).trans q3;have e2:uI (ru x u)=dU (qQ x.text u):=OE (show(ru x u).kind=1 from hk);rw[DJ,DJ,gY,gY,gY,gY,OE hk,e1,e2]
  omega
theorem ajp{C:bG}{body note:Bool}{tt:Int}{l a b:List ah}{t:Nat}(h:oG l t a b)(hl:fF C body note tt l):bC a=t∧t+bC b=bC l:=by
 cases h with
 |between p q h ht=>subst h;rw[wW];omega
 |inside p x q u h hk h0 h1 ht=>
  subst h;obtain⟨q1,q2,q3,q4⟩:=Sg (P8 hl hk)<|Nat.le_of_lt h1
  have e0:bO x=dU x.text:=by unfold bO;rw[ay hk]
  have e1:bO (qp x u)=u:=by unfold bO;rw[ay (show(qp x u).kind=1 from hk)];exact q3
  have e2:bO (ru x u)=dU (qQ x.text u):=by unfold bO;rw[ay (show(ru x u).kind=1 from hk)];rfl
  rw[wW,wW,bC,bC,bC,bC,e0,e1,e2]
  omega
theorem Wh{C:bG}{body note:Bool}{tt:Int}{l:List ah}(hl:fF C body note tt l):rY l=bC l:=by
 induction l with
 |nil=>rfl
 |cons x l ih=>
  rw[fF]at hl;have hx:=(tJ x).1 hl.1
  have e:n1 x=bO x:=by
   by_cases hk:x.kind=1
   ·rw[NT hx.1 hk];unfold bO;rw[ay hk]
   unfold n1 tX bO;rw[au hk,au hk,ay M]
  rw[rY,bC,e,ih hl.2]
theorem awy{C:bG}{body note:Bool}{tt:Int}{l a b:List ah}{t:Nat}(h:oG l t a b)(hl:fF C body note tt l)(g:Int)(s:Nat):cB g s a++cB g (s+t) b=cB g s l:=by
 cases h with
 |between p q h ht=>
  subst h;rw[AY,Wh (nG.2 fun x hx=>nG.1 hl x<|List.mem_append_left _ hx),ht]
 |inside p x q u h hk h0 h1 ht=>
  subst h;obtain⟨q1,q2,q3,q4⟩:=Sg (P8 hl hk)<|Nat.le_of_lt h1;have hx:=(tJ x).1 (nG.1 hl x (by simp));have e0:=NT hx.1 hk;have hc:=aph (nG.1 hl x (by simp)) hk h0 h1;have e2:n1 (ru x u)=dU (qQ x.text u):=NT ((tJ _).1 hc.2).1 (show(ru x u).kind=1 from hk);have hp:rY p=bC p:=Wh<|nG.2 fun y hy=>nG.1 hl y<|List.mem_append_left _ hy;rw[AY,AY,cB,cB,cB,cB,Mc hk,Mc (show(qp x u).kind=1 from hk),Mc (show(ru x u).kind=1 from hk),e0,e2,hp,ht]
  simp only[fQ,iR]
  congr 2
  omega
abbrev EU:=Int×List ah
mutual
/-- The flows within, with their ids. -/
def Bp:ah->List EU
 |.mk k _ i _ _ f r=>if k=6 then(i,f)::kC f else if k=7 then Bq r else[]
def kC:List ah->List EU
 |[]=>[]
 |x::l=>Bp x++kC l
def JV:aN->List EU
 |.mk _ cs=>Eb cs
def Bq:List aN->List EU
 |[]=>[]
 |x::l=>JV x++Bq l
def JU:aP->List EU
 |.mk i _ f=>(i,f)::kC f
def Eb:List aP->List EU
 |[]=>[]
 |x::l=>JU x++Eb l
end
def Ea(f:eU):EU:=(f.id,f.items)
mutual
theorem aAI(note:Bool)(t:Int):∀x:ah,(qh note t x).map Ea=Bp x
 |.mk k c i tx h f r=>by
  have hf:=U5 true t f;have hr:=alM note t r;rw[qh,Bp]
  split
  ·rw[dV,hf];rfl
  split
  ·exact hr
  rfl
theorem U5(note:Bool)(t:Int):∀l:List ah,(iD note t l).map Ea=kC l
 |[]=>by rw[iD,kC];rfl
 |x::l=>by rw[iD,kC,iy,aAI note t x,U5 note t l]
theorem aAJ(note:Bool)(t:Int):∀x:aN,(qW note t x).map Ea=JV x
 |.mk h cs=>by rw[qW,JV];exact alL note t cs
theorem alM(note:Bool)(t:Int):∀l:List aN,(kR note t l).map Ea=Bq l
 |[]=>by rw[kR,Bq];rfl
 |x::l=>by rw[kR,Bq,iy,aAJ note t x,alM note t l]
theorem aAH(note:Bool)(t:Int):∀x:aP,(qg note t x).map Ea=JU x
 |.mk i h f=>by rw[qg,JU,dV,U5 note (t+1) f];rfl
theorem alL(note:Bool)(t:Int):∀l:List aP,(kX note t l).map Ea=Eb l
 |[]=>by rw[kX,Eb];rfl
 |x::l=>by rw[kX,Eb,iy,aAH note t x,alL note t l]
end
theorem alK(l:List ah):(gJ l).map Ea=(0,l)::kC l:=by
 rw[gJ,dV,U5];rfl
theorem U3:∀a b:List ah,kC (a++b)=kC a++kC b
 |[],b=>by simp[kC]
 |x::a,b=>by simp[kC,U3 a b]
theorem alA(x:ah):Bp x=if x.kind=6 then(x.id,x.flow)::kC x.flow else if x.kind=7 then Bq x.rows else[]:=by cases x;rw[Bp];rfl
theorem U0{x:ah}(h:x.kind=1):Bp x=[]:=by rw[alA,bQ,bQ]
theorem aAw(out:List ah)(y:ah):kC (addN out y)=kC out++Bp y:=by
 have one:kC [y]=Bp y:=by rw[kC,kC,iR]
 by_cases hd:uh y
 ·rw[Hf hd]
  rcases hd with⟨h7,hr⟩|⟨h1,-⟩
  ·rw[alA,bQ,ay h7,List.eq_nil_of_length_eq_zero hr,Bq,iR]
  rw[U0 h1,iR]
 by_cases hj:∃o z,out=o++[z]∧vN z y
 ·obtain⟨o,z,rfl,hz⟩:=hj;rw[Hg hd hz,U3,U3,kC,kC,kC,kC,U0 (show(lu z y).kind=1 from hz.2.1),U0 hz.2.1,U0 hz.1]
  simp
 rw[EZ hd fun o z e h=>hj ⟨o,z,e,h⟩,U3,one]
theorem U4:∀(A out:List ah),kC (A.foldl addN out)=kC out++kC A
 |[],out=>by rw[List.foldl_nil,kC,iR]
 |y::A,out=>by rw[List.foldl_cons,U4 A,aAw,kC,iG]
abbrev F7(p:EU):EU:=(p.1,fq p.2)
mutual
theorem aAr:∀x:ah,Bp (nI x)=(Bp x).map F7
 |.mk k c i tx h f r=>by
  have hf:=UZ f;have hr:=als r;rw[nI,Bp,Bp]
  split
  ·rw[dV,U4,kC,fQ,hf,<-BH]
  split
  ·exact hr
  rfl
theorem UZ:∀l:List ah,kC (nS l)=(kC l).map F7
 |[]=>by rw[nS,kC];rfl
 |x::l=>by rw[nS,kC,kC,iy,aAr x,UZ l]
theorem aAs:∀x:aN,JV (nR x)=(JV x).map F7
 |.mk h cs=>by rw[nR,JV,JV];exact alr cs
theorem als:∀l:List aN,Bq (sj l)=(Bq l).map F7
 |[]=>by rw[sj,Bq];rfl
 |x::l=>by rw[sj,Bq,Bq,iy,aAs x,als l]
theorem aAq:∀x:aP,JU (nC x)=(JU x).map F7
 |.mk i h f=>by
  have hf:=UZ f;rw[nC,JU,JU,dV,U4,kC,fQ,hf,<-BH]
theorem alr:∀l:List aP,Eb (rZ l)=(Eb l).map F7
 |[]=>by rw[rZ,Eb];rfl
 |x::l=>by rw[rZ,Eb,Eb,iy,aAq x,alr l]
end
theorem aAx(l:List ah):kC (fq l)=(kC l).map F7:=by rw[BH,U4,kC,fQ,UZ]
theorem aFs:(List.range 256).all (fun n=>!(Iw (n:Int)||F8 (n:Int))||decide ((jo (n:Int)).2.2=1))=true:=by kernel_rfl
theorem aFt(b:UInt8)(h:(Iw (b.toNat:Int)||F8 (b.toNat:Int))=true):(jo (b.toNat:Int)).2.2=1:=by
 have h1:=lM.1 aFs b.toNat<|qo.2 b.toNat_lt;rw[h]at h1
 simpa using h1
theorem apc{s:ByteArray}(h:∀k,k<s.size->(iO s k).2=(1,true)):∀n i,s.size-i<=n->gq s i=-1
 |0,i,hi=>by rw[gq,dif_neg O]
 |n+1,i,hi=>by
  by_cases hl:i<s.size
  ·have hd:=h i hl;rw[gq,dif_pos hl,dif_pos (by rw[hd]),hd];exact apc h n _ (by show _-(i+1)<=_;omega)
  rw[gq,dif_neg hl]
theorem adf{s:ByteArray}(h:pq s=true):iI s=true∧1<=s.size∧s.size<=40:=by
 simp only[pq,kV,qm,lM,qo]at h
 refine⟨?_,h.1⟩;rw[yC,apc (fun k hk=>?_) s.size 0 O]
 ·decide
 have h1:=h.2 k hk
 have hb:eO s k=((s[k].toNat:Nat):Int):=by unfold eO;first|rw[dif_pos hk]|rw[getElem?_pos s k hk] ;rfl
 have h2:(Iw (s[k].toNat:Int)||F8 (s[k].toNat:Int))=true:=by
  rw[NW,hb]at h1
  cases e1:Iw (s[k].toNat:Int)
  ·rw[e1,Bool.false_or,kV]at h1;rw[h1.2];rfl
  rfl
 have h3:=aFt _ h2;rw[iO,hb];rw[bQ,ay h3]
theorem aFu:iI ⟨#[]⟩=true:=by rw[yC,gq,dif_neg Z];decide
structure wu(X:ah):Prop where
 ex:∃code id tx,X=jN code id tx∧1<=id∧id<=1073741824∧tx.size<=40∧(code=1∧pq tx=true∨code=2∧tx=⟨#[]⟩)
theorem aB6(C:bG):iX C 8 Ef=0:=by
 have h:zu C []=0:=by rfl
 rfl
theorem wu.jQ {X:ah} (h:wu X) (C:bG) (body note:Bool) (t:Int):jQ C body note t X:=by
 obtain ⟨code,id,tx,rfl,h1,h2,h3,h4⟩:=h.ex;refine (tJ _).2 ⟨?_,⟨fun h=>absurd (show (8:Int)=3 from h) Z,fun h=>absurd (show (8:Int)=6 from h) Z,fun h=>absurd (show (8:Int)=7 from h) Z,fun _=>⟨h1,h2⟩⟩,aB6 C,fun h=>absurd (show (8:Int)=6 from h) Z,fun h=>absurd (show (8:Int)=7 from h) Z⟩
 rcases h4 with ⟨rfl,h4⟩|⟨rfl,rfl⟩
 ·have hv:=adf h4
  show iP (.mk 8 1 id tx Ef [] [])=0
  simp [iP,codeOk,um,sV,tH,vC,vw,ah.kind,ah.code,ah.id,ah.text,ah.flow,ah.rows,hv.1,h4]
 show iP (.mk 8 2 id ⟨#[]⟩ Ef [] [])=0
 have he:rz ⟨#[]⟩=true:=by rw [Uu];rfl
 simp [iP,codeOk,um,sV,tH,vC,vw,ah.kind,ah.code,ah.id,ah.text,ah.flow,ah.rows,aFu,he]
theorem wu.kind{X:ah}(h:wu X):X.kind=8:=by obtain⟨code,id,tx,rfl,-⟩:=h.ex;rfl
theorem wu.nI {X:ah} (h:wu X):nI X=X:=by
 obtain ⟨code,id,tx,rfl,-⟩:=h.ex
 show Go.Proofs.YtdgnnpjijhafaaaGreat.nI (.mk 8 code id tx Ef [] [])=.mk 8 code id tx Ef [] []
 rw [Go.Proofs.YtdgnnpjijhafaaaGreat.nI]
 rfl
theorem wu.sz{X:ah}(h:wu X):bY X.dat<=1000:=by
 obtain⟨code,id,tx,rfl,-,-,h3,-⟩:=h.ex
 show bY (ah.dat (.mk 8 code id tx Ef [] []))<=1000
 simp[ah.dat,bY,oz,Ef,fI.dat,zG.dat,JI,MH,fE]
 try omega
theorem wu.wT {X:ah} (h:wu X):wT X:=by
 obtain ⟨code,id,tx,rfl,-⟩:=h.ex
 show Go.Proofs.YtdgnnpjijhafaaaGreat.wT (.mk 8 code id tx Ef [] [])
 rw [Go.Proofs.YtdgnnpjijhafaaaGreat.wT]
 first|trivial|exact ⟨fun h=>absurd h Z,fun h=>absurd h Z⟩|simp
theorem alv{X:ah}(hX:X.kind=8):∀(A out P:List ah),A.foldl addN (P++X::out)=P++X::A.foldl addN out
 |[],out,P=>rfl
 |y::A,out,P=>by
  have h:addN (P++X::out) y=P++X::addN out y:=by
   by_cases hd:uh y
   ·rw[Hf hd,Hf hd]
   by_cases hj:∃o z,out=o++[z]∧vN z y
   ·obtain⟨o,z,rfl,hz⟩:=hj;rw[Hg hd hz,show P++X::(o++[z])=(P++X::o)++[z] by simp,Hg hd hz]
    simp
   rw[EZ hd fun o z e h=>hj ⟨o,z,e,h⟩,EZ hd ?_]
   ·simp
   intro o z e h
   rcases List.eq_nil_or_concat out with rfl|⟨o',z',rfl⟩
   ·obtain⟨-,e2⟩:=List.append_inj' e M
    simp only[List.cons.injEq,and_true]at e2
    subst e2;have:=h.2.1
    omega
   rw[List.concat_eq_append]at e hj;rw[show P++X::(o'++[z'])=(P++X::o')++[z'] by simp]at e;obtain⟨-,e2⟩:=List.append_inj' e M
   simp only[List.cons.injEq,and_true]at e2
   subst e2;exact hj ⟨o',_,M,h⟩
  rw[List.foldl_cons,List.foldl_cons,h,alv hX A]
theorem Wv{X:ah}(h:wu X)(p q:List ah):fq (p++X::q)=fq p++X::fq q:=by
 have hX:=h.kind;rw[BH,BH,BH,F6,F6,F6,iy,dV,h.nI,List.foldl_append,List.foldl_cons]
 rw[EZ (y:=X) (fun hd=>by rcases hd with⟨h7,-⟩|⟨h1,-⟩<;>omega) (fun o z e hj=>by have:=hj.1;omega)]
 exact alv hX _ [] _
abbrev nA(a:cZ):Int×Int×ByteArray:=(a.code,a.id,a.name)
theorem ank(g:Int):∀(t t':Nat)(l:List ah),(cB g t l).map nA=(cB g t' l).map nA
 |t,t',[]=>by rw[cB,cB]
 |t,t',x::l=>by
  rw[cB,cB,iy,iy,ank g (t+n1 x) (t'+n1 x) l]
  have h:(sP g t x).map nA=(sP g t' x).map nA:=by
   rw[He,He]
   simp only[iy]
   congr 1
   split <;>rfl
  rw[h]
theorem aI2 (c:List iK) (f0:List ah):∃ F∈gJ (lF c f0),F.id=hid 0 c∧F.items=f0:=by
 exact aiy
theorem aFE {l:List ah} {F:eU} (h:F∈gJ l):∃ G∈gJ (fq l),G.id=F.id∧G.items=fq F.items:=by
 have h1:F7 (Ea F)∈(gJ (fq l)).map Ea:=by
  have h2:=List.mem_map_of_mem (f:=F7) (List.mem_map_of_mem (f:=Ea) h);rw [alK,dV] at h2;rw [alK,aAx];exact h2
 obtain ⟨G,hG,e⟩:=List.mem_map.1 h1;exact ⟨G,hG,cO Prod.fst e,cO Prod.snd e⟩
theorem aAn{e:jq}(hc:jK e=0){g:eU}(hg:g∈gJ e.flow):∃C b n tt,fF C b n tt g.items:=by
 obtain⟨c,w1,w2,-⟩:=adV (IG hc) hg [];obtain⟨-,-,c5,-,-⟩:=(Fp e).1 hc;rw[w2]at c5;obtain⟨b,n,tt,k1,-⟩:=adt e.mX c true false 0 _ c5;exact⟨_,b,n,tt,k1⟩
theorem afj{l:List ah}(h:zH l){g:eU}(hg:g∈gJ l){p q:List ah}{x:ah}(hp:g.items=p++x::q)(hk:x.kind=8):⟨x.code,x.id,x.text,g.id,(rY p:Nat)⟩∈cB 0 0 l:=by
 obtain⟨c,w1,w2,-⟩:=adV h hg [];obtain⟨A,B,i4⟩:=ads c 0;rw[w2,i4,w1,hp,AY,cB,He,ay hk,fB]
 simp
abbrev oV(e:jq)(g:eU)(X:ah)(p q:List ah):jq:=BU e (vX g.id (fq (p++([X]++q))) e.flow)
structure XJ(e:jq)(g:eU)(X:ah)(p q:List ah):Prop where
 Ug:jK (oV e g X p q)=0
 z:sM (oV e g X p q)
 un:gY (nD (oV e g X p q)).flow=gY e.flow+1
 sz:aR (nD (oV e g X p q)).flow<=2*aR e.flow+1001
 mem:∃F∈gJ (nD (oV e g X p q)).flow,F.id=g.id∧F.items=fq (fq p)++X::fq (fq q)
 anc:∃xz qk,(cB 0 0 e.flow).map nA=xz++qk∧(cB 0 0 (nD (oV e g X p q)).flow).map nA=xz++(X.code,X.id,X.text)::qk
theorem aeX{e:jq}(hc:jK e=0)(hz:sM e)(hsz:2*aR e.flow+1001<=1073741824)(hun:gY e.flow+1<=16384){g:eU}(hg:g∈gJ e.flow){X:ah}(hX:wu X){t:Nat}{p q:List ah}(hcut:oG g.items t p q):XJ e g X p q:=by
 have hok:=IG hc;obtain⟨c,w1,w2,w3⟩:=adV hok hg<|fq<|p++([X]++q);obtain⟨⟨c1,c2⟩,⟨c3,c4⟩,c5,c6,c7⟩:=(Fp e).1 hc;rw[w2]at c5 c6 c7 hun hsz;obtain⟨b,n,tt,k1,k2⟩:=adt e.mX c true false 0 _ c5;obtain⟨kp,kq⟩:=aag hcut k1
 have k3:fF e.mX b n tt (p++([X]++q)):=nG.2 fun y hy=>by
  simp only[iF,oH]at hy
  rcases hy with h|rfl|h
  ·exact nG.1 kp y h
  ·exact hX.jQ _ _ _ _
  exact nG.1 kq y h
 have k4:=k2 _<|Aw k3;have hk:=hX.kind
 have hIX:qL X=[]:=by rw[aDY,bQ,bQ,bQ];rfl
 have hUX:uI X=1:=by
  obtain⟨code,id,tx,rfl,-⟩:=hX.ex
  show uI (.mk 8 code id tx Ef [] [])=1
  rw[uI];rfl
 have aCu:gQ (fq<|p++([X]++q))=gQ g.items:=by rw[(VQ k3).1,C9,C9,gQ,gQ,hIX,<-awC hcut];simp
 have FX:gY (fq<|p++([X]++q))=gY g.items+1:=by rw[(VQ k3).2,DJ,DJ,gY,gY,hUX,<-awD hcut k1];omega
 have hzz:aR (fq<|p++([X]++q))<=2*aR g.items+1001:=by
  have h1:=Sz<|p++([X]++q);have h2:=Un hcut;have h3:=hX.sz;rw[xq,xq,GN]at h1
  omega
 obtain⟨A,B,i1⟩:=apv c;obtain⟨nu,i2⟩:=apy c;obtain⟨nz,i3⟩:=apx c;obtain⟨xx,qv,i4⟩:=ads c 0
 have aBY:jK (oV e g X p q)=0:=by
  unfold oV
  rw[w3];refine(Fp _).2 ⟨⟨c1,c2⟩,⟨c3,c4⟩,k4,?_,?_⟩
  ·show kT [] [] (gQ<|lF c _)
   rw[i1,aCu,<-i1];exact c6
  show gY (lF c _)<=16384
  rw[i2]at hun|-;omega
 have amo:(oV e g X p q).flow=lF c (fq<|p++([X]++q)):=w3
 have hzd:aR (oV e g X p q).flow<=2*aR e.flow+1001:=by
  rw[amo]
  conv=>rhs;rw[w2]
  rw[i3,i3];omega
 have hnf:(nD<|oV e g X p q).flow=fq (lF c<|fq<|p++([X]++q)):=cO fq amo;refine⟨aBY,⟨?_,hz.hd,hz.rn,hz.rt,hz.sn,hz.st⟩,?_,?_,?_,?_⟩
 ·rw[<-w2]at hsz;omega
 ·rw[hnf,(VQ k4).2]
  conv=>rhs;rw[w2]
  rw[i2,i2,FX];omega
 ·exact Nat.le_trans (Sz _) hzd
 ·obtain⟨F,h1,h2,h3⟩:=aI2 c<|fq<|p++([X]++q);obtain⟨G,g1,g2,g3⟩:=aFE h1;rw[<-hnf]at g1;exact⟨G,g1,by rw[g2,h2,w1],by rw[g3,h3,List.singleton_append,Wv hX,Wv hX]⟩
 rw[hnf,afh k4,i4,afh k3]
 conv=>enter [1,xz,1,qk,1,1,2];rw[w2]
 rw[i4,<-awy hcut k1 (hid 0 c) 0,AY,AY,cB,cB,He _ _ X,ay hk,bQ,bQ];refine⟨xx.map nA++(cB (hid 0 c) 0 p).map nA,(cB (hid 0 c) (0+t) q).map nA++qv.map nA,by simp,?_⟩
 simp only[iy,dV,ug,iG,iR,jl,fQ]
 rw[ank _ _ (0+t) q]
theorem aGy{C:bG}{h:fI}{n:Nat}(e:Gf C h n=0):n≠0:=by
 intro hn;have:=mo e _<|gH _ fJ;rw[hn]at this
 cases this
mutual
theorem aFk(C:bG)(body note:Bool)(t:Int):∀(x:ah)(s s':CS),fM C body note t x s=(0,s')->wT x
 |.mk k c i tx h f r,s,s',e=>by
  have hf:=Wq C false true t f;have hr:=aoX C note (t+1) r;rw[fM]at e;obtain⟨e0,e⟩:=jY e;obtain⟨-,-,Io,QE⟩:=FD e0;(iterate 2 obtain⟨-,e⟩:=jY e);dsimp only[ah.kind,ah.rows,ah.flow]at Io QE;rw[wT]
  by_cases h6:k=6
  ·rw[ay h6]at e;refine⟨hf _ _ e,?_⟩;rw[Io O,zo];trivial
  rw[au h6]at e;rw[QE h6];refine⟨by rw[kM];trivial,?_⟩
  by_cases h7:k=7
  ·rw[ay h7]at e;exact hr _ _ (WO e).2
  rw[Io h7,zo];trivial
theorem aFl(C:bG)(note:Bool)(t:Int):∀(x:aN)(s s':CS),Az C note t x s=(0,s')->Ev x
 |.mk h cs,s,s',e=>by
  have hc:=aoW C note t cs;rw[RZ]at e;obtain⟨e0,e⟩:=jY e;rw[Ev];exact⟨fun e'=>aGy e0 (by rw[show(aN.mk h cs).cells=cs from rfl,e'];rfl),hc _ _ e⟩
theorem aFj(C:bG)(note:Bool)(t:Int):∀(x:aP)(s s':CS),cellC C note t x s=(0,s')->Et x
 |.mk i h f,s,s',e=>by
  have hf:=Wq C false note t f;rw[PU]at e;rw[Et];exact hf _ _ (jY (jY e).2).2
theorem Wq(C:bG)(body note:Bool)(t:Int):∀(l:List ah)(s s':CS),jH C body note t l s=(0,s')->kM l
 |[],s,s',e=>by rw[kM];trivial
 |x::r,s,s',e=>by
  rw[jH]at e;obtain⟨e1,e⟩:=jY e;rw[kM];exact⟨aFk C body note t x s _ (Prod.ext e1 M),Wq C body note t r _ _ e⟩
theorem aoX(C:bG)(note:Bool)(t:Int):∀(l:List aN)(s s':CS),jm C note t l s=(0,s')->zo l
 |[],s,s',e=>by rw[zo];trivial
 |x::r,s,s',e=>by
  rw[jm]at e;obtain⟨e1,e⟩:=jY e;rw[zo];exact⟨aFl C note t x s _ (Prod.ext e1 M),aoX C note t r _ _ e⟩
theorem aoW(C:bG)(note:Bool)(t:Int):∀(l:List aP)(s s':CS),qH C note t l s=(0,s')->Df l
 |[],s,s',e=>by rw[Df];trivial
 |x::r,s,s',e=>by
  rw[qH]at e;obtain⟨e1,e⟩:=jY e;rw[Df];exact⟨aFj C note t x s _ (Prod.ext e1 M),aoW C note t r _ _ e⟩
end
theorem eT.ne{l:List ah}(h:eT l):kM l:=by
 obtain⟨C,body,note,t,s,s',e⟩:=h;exact Wq C body note t l s s' e
theorem aFc{m l:List ah}(hs:∀x∈m,x∈l)(h:kM l):kM m:=KQ fun x hx=>Eu h x<|hs x hx
theorem eT.zm {l:List ah} (h:eT l):zm l=0:=by unfold Go.Proofs.YtdgnnpjijhafaaaGreat.zm;rw [ay h.div]
theorem aHL(G:GH)(w0:World)(hG:Hold G w0)(p m q:List ah)(v:aj)(hv:av G (.sl 11 ((p++(m++q)).map ah.dat)) v)(hok:eT (p++(m++q)))(hz:aR (p++(m++q))<=1073741824) :
  Calls prog 74 #[v,vi (bC p),vi<|bC<|p++m] w0 (bD w0 G fun u G'=>∃x,u=.tuple #[x,vi 0]∧av G' (.sl 11 ((fq m).map ah.dat)) x):=by
 obtain⟨l,hl⟩:∃l,l=p++(m++q):=⟨_,M⟩
 have hl2:l=(p++m)++q:=by rw[hl,iG]
 rw[<-hl]at hv hok hz;have hq:∀y∈q,1<=bO y:=fun y hy=>Xr hok (by rw[hl2];exact List.mem_append_right _ hy);have hm:∀y∈m,1<=bO y:=fun y hy=>Xr hok (by rw[hl2];exact List.mem_append_left _<|List.mem_append_right _ hy)
 have e1:wR (bC (p++m):Nat) l=p++m:=by rw[hl2];exact left_at hq
 have e2:Dl (bC p:Nat) (p++m)=m:=aGw hm
 have h1:Ja (bC (p++m):Nat) l:=by rw[hl2];exact ajm _ _
 have h2:Ja (bC p:Nat) (p++m):=ajm _ _
 have hr:Dm l (bC p:Nat) (bC (p++m):Nat)=0:=by
  have h3:bC l=bC p+bC m+bC q:=by rw[hl2,wW,wW]
  have h4:kL l=bC l:=hok.len;rw[Dm,ay hok.zm,au];rw[h4,wW]
  omega
 have hne:kM m:=aFc (fun x hx=>by rw[hl2];exact List.mem_append_left _<|List.mem_append_right _ hx) hok.ne;have z1:=Lm<|aoj (bC (p++m):Nat) l;have z2:=Lm<|apM (bC p:Nat)<|p++m;rw[e1]at z1;rw[e2]at z2;refine eN [(0,_),(1,_),(2,_)] func74 M ntmps74 M M hG<|SR fun _ K1=>Ra M<|ak K1 M<|SQ fun _ K2=>SR fun _ K3=>Rm M<|Rm M<|Rm M fun a H=>s_call aam H wn M (Z4 _ _ H.ro l _ _ v hv O) M ?_;rintro v16 xu a w rfl xW H;rw[hr]at H;refine kH H (ak K3 M<|SR fun _ K1=>Rm M<|Rc M<|Kz K1<|Cd M ?_ ?_)<;>clear H K3 K1
 ·intro h18 a H;exact absurd h18 Z
 refine fun h18=>Kc K2<|SR fun _ K1=>Rm M<|Rm M fun a H=>s_call MK H wn M (Ur _ _ H.ro l _ v (hv.mono xW) hz h1) M ?_;rintro v23 Je a w ⟨x,y,rfl,hx,hy⟩ rV H;rw[e1]at hx;refine kH H<|Rm M ?_;intro a H;(iterate 2 refine iH H wn M M M ?_;intro a H);refine kH H<|Ra M<|ak K1 M<|SR fun _ K2=>Rm M<|Rm M fun a H=>s_call MK H wn M (Ur _ _ H.ro (p++m) _ x hx O h2) M ?_;rintro v29 Jf a w ⟨x2,y2,rfl,hx2,hy2⟩ Nn H;rw[e2]at hy2;refine kH H<|Rm M ?_;intro a H;(iterate 2 refine iH H wn M M M ?_;intro a H);refine kH H<|Ra M<|ak K2 M<|SR fun _ K1=>Rm M fun a H=>s_call JK H wn M (adg _ _ H.ro m y2 hy2 hne O) M ?_;rintro v33 LP a w Rb Ki H;obtain⟨XH,n33,ZU,rfl⟩:=Rb.form;refine kH H<|Ra M<|ak K1 M fun a H=>eH ((gV H results74 (.cons (cK H M) (.cons (cK H M) .nil)) ?_).1);exact H.rt ⟨_,M,Rb⟩
def jO(l:List ah):List UInt8:=l.flatMap fun x=>if x.kind=1 then x.text.data.toList else[]
theorem xJ(a b:List ah):jO (a++b)=jO a++jO b:=by simp[jO]
theorem yL(x:ah):jO [x]=if x.kind=1 then x.text.data.toList else[]:=by simp[jO]
theorem auP(out:List ah)(y:ah):jO (addN out y)=jO out++jO [y]:=by
 by_cases h:uh y
 ·rw[Hf h,yL]
  rcases h with⟨h1,-⟩|⟨h1,h2⟩
  ·rw[bQ,iR]
  rw[ay h1,ByteArray.size_eq_zero_iff.1 h2];exact(iR _).symm
 by_cases hj:∃o z,out=o++[z]∧vN z y
 ·obtain⟨o,z,rfl,hj⟩:=hj;rw[Hg h hj,xJ,xJ,yL,yL,yL,ay hj.1,ay (show(lu z y).kind=1 from hj.2.1),ay hj.2.1]
  have:(lu z y).text.data.toList=z.text.data.toList++y.text.data.toList:=by
   show(z.text++y.text).data.toList=_
   simp
  rw[this,iG]
 rw[EZ h fun o z e hz=>hj ⟨o,z,e,hz⟩,xJ]
theorem aiD{l:List ah}:∀{k:Nat},k<=l.length->jO (sF l k)=jO (l.take k)
 |0,_=>by simp[sF]
 |k+1,h=>by
  rw[Ww O,auP,aiD (k:=k) O,ji O,xJ,yL,yL,IC]
  rfl
theorem PK(l:List ah):jO (fq l)=jO l:=by unfold fq;rw[aiD (eP _),oI]
theorem atw{out:List ah}{y:ah}(h:∀x∈out,x.kind=1->x.text.size≠0):∀x∈addN out y,x.kind=1->x.text.size≠0:=by
 by_cases hd:uh y
 ·rw[Hf hd];exact h
 have hy:y.kind=1->y.text.size≠0:=fun h1 h2=>hd (.inr ⟨h1,h2⟩)
 rcases Yq out y with e|e|⟨o,z,rfl,hz,hy1,e⟩<;>rw[e]
 ·exact h
 ·intro x hx
  rcases iF.1 hx with hx|hx
  ·exact h x hx
  rw[oH.1 hx];exact hy
 intro x hx
 rcases iF.1 hx with hx|hx
 ·exact h x<|List.mem_append_left _ hx
 rw[oH.1 hx];intro _;have h1:=hy hy1;have h2:(lu z y).text.size=z.text.size+y.text.size:=ByteArray.size_append
 omega
theorem apn(l:List ah):∀(k:Nat),k<=l.length->∀x∈sF l k,x.kind=1->x.text.size≠0
 |0,_=>fun x hx=>by simp[sF]at hx
 |k+1,h=>by rw[Ww O];exact atw<|apn l k O
theorem aFF{l:List ah}:∀x∈fq l,x.kind=1->x.text.size≠0:=apn l l.length<|eP _
theorem aiC:∀l:List ah,(jO l).length<=kN l
 |[]=>eP _
 |x::l=>by
  have:=aiC l;have h3:x.text.data.toList.length=x.text.size:=sQ;rw[show x::l=[x]++l from rfl,xJ,gT,yL,Gy]
  simp only[kN]
  split
  ·omega
  simp only[List.length_nil];omega
def bo:List ah->Nat->Nat
 |[],_=>0
 |x::l,t=>if x.kind=1 then(if t<=dU x.text then gD x.text 0 t else x.text.size+bo l (t-dU x.text))else bo l (t-1)
theorem JD{x:ah}(hk:x.kind=1)(l:List ah)(t:Nat):bo (x::l) t=if t<=dU x.text then gD x.text 0 t else x.text.size+bo l (t-dU x.text):=by rw[bo,ay hk]
theorem aiE{x:ah}(hk:¬x.kind=1)(l:List ah)(t:Nat):bo (x::l) t=bo l (t-1):=by rw[bo,au hk]
theorem PL:∀l:List ah,bo l 0=0
 |[]=>rfl
 |x::l=>by
  rw[bo]
  split
  ·rw[ay<|fP _];rfl
  exact PL l
theorem PI(x:ah)(l:List ah):jO (x::l)=(if x.kind=1 then x.text.data.toList else[])++jO l:=by rw[show x::l=[x]++l from rfl,xJ,yL]
theorem Ld(s:ByteArray):s.data.toList.length=s.size:=sQ
theorem D8:∀(p q:List ah)(t:Nat),bo (p++q) t=if t<=bC p then bo p t else(jO p).length+bo q (t-bC p)
 |[],q,t=>by
  by_cases h:t=0
  ·subst h;rw[fQ,PL,ay (fP _),bo]
  rw[fQ,au (by rw[bC];omega),bC,Nat.sub_zero];simp[jO]
 |x::p,q,t=>by
  rw[jl,bo,bo,bC,PI,gT]
  by_cases hk:x.kind=1
  ·have hu:bO x=dU x.text:=by unfold bO;rw[ay hk]
   rw[ay hk,ay hk,ay hk,hu,Ld]
   by_cases ht:t<=dU x.text
   ·rw[ay ht,ay ht,iw]
   rw[au ht,au ht,D8 p q]
   by_cases h2:t-dU x.text<=bC p
   ·rw[ay h2,iw]
   rw[au h2,bQ,Nat.add_assoc,show t-(dU x.text+bC p)=t-dU x.text-bC p by omega]
  have hu:bO x=1:=by unfold bO;rw[au hk]
  rw[au hk,au hk,au hk,hu,D8 p q,List.length_nil,fB]
  by_cases h0:t=0
  ·subst h0;rw[iw,iw]
  by_cases h2:t-1<=bC p
  ·rw[ay h2,iw]
  rw[au h2,bQ,show t-(1+bC p)=t-1-bC p by omega]
theorem Yt{s:ByteArray}(h:iI s=true):gD s 0 (dU s)=s.size:=by
 have e:dU s=iM s 0:=by unfold dU;rw[ay h]
 rw[e];exact Yu s.size 0 O (yC.1 h)<|fP _
theorem aiF{C:bG}{body note:Bool}{tt:Int}:∀{l:List ah},fF C body note tt l->bo l (bC l)=(jO l).length
 |[],_=>rfl
 |x::l,h=>by
  rw[fF]at h;have ih:=aiF h.2;have hx:=(tJ x).1 h.1;rw[bo,bC,PI,gT]
  by_cases hk:x.kind=1
  ·have hu:bO x=dU x.text:=by unfold bO;rw[ay hk]
   have hv:=(xQ hx.1 hk).2.2.1;rw[ay hk,ay hk,hu,Ld]
   by_cases h0:bC l=0
   ·rw[h0,PL]at ih;rw[iw,h0,oZ,Yt hv,<-ih];rfl
   rw[bQ,Ch,ih]
  have hu:bO x=1:=by unfold bO;rw[au hk]
  rw[au hk,au hk,hu,Ch,ih,List.length_nil,fB]
theorem aIl{s:ByteArray}(hv:iI s=true)(u:Nat):(oP s u).data.toList=s.data.toList.take (gD s 0 u)∧(qQ s u).data.toList=s.data.toList.drop (gD s 0 u):=by
 have ha:=Cb u 0 (yC.1 hv)<|fP _
 unfold oP qQ
 rw[MN,MN];refine⟨by simp,?_⟩;rw[jX (by rw[List.length_drop,Ld];omega)]
theorem ajq{C:bG}{body note:Bool}{tt:Int}{l a b:List ah}{t:Nat}(h:oG l t a b)(hl:fF C body note tt l):jO a=(jO l).take (bo l t)∧jO b=(jO l).drop (bo l t):=by
 have key:jO a++jO b=jO l∧(jO a).length=bo l t:=by
  cases h with
  |between p q h ht=>
   subst h;refine⟨(xJ _ _).symm,?_⟩;rw[D8,iw,ht,aiF<|nG.2 fun x hx=>nG.1 hl x<|List.mem_append_left _ hx]
  |inside p x q u h hk h0 h1 ht=>
   subst h;have hv:=P8 hl hk;obtain⟨e1,e2⟩:=aIl hv u;have ha:=Cb u 0 (yC.1 hv)<|fP _
   constructor
   ·rw[xJ,xJ,yL,PI,PI,ay hk,ay (show(qp x u).kind=1 from hk),ay (show(ru x u).kind=1 from hk),show(qp x u).text=oP x.text u from rfl,show(ru x u).text=qQ x.text u from rfl,e1,e2,iG,<-iG (List.take _ _),List.take_append_drop]
   rw[D8,bQ,bo,ay hk,iw,xJ,yL,ay (show(qp x u).kind=1 from hk),gT,show(qp x u).text=oP x.text u from rfl,e1,List.length_take,Ld,show t-bC p=u by omega]
   omega
 rw[<-key.1,<-key.2];exact⟨(List.take_left' M).symm,(List.drop_left' M).symm⟩
theorem awz{C:bG}{body note:Bool}{tt:Int}{l a b:List ah}{t k:Nat}(h:oG l t a b)(hl:fF C body note tt l)(hk:k<=t):bo a k=bo l k:=by
 cases h with
 |between p q h ht=>subst h;rw[D8,iw]
 |inside p x q u h hx h0 h1 ht=>
  subst h;have hv:=P8 hl hx;obtain⟨q1,q2,q3,q4⟩:=Sg hv<|Nat.le_of_lt h1;rw[D8,D8]
  by_cases h2:k<=bC p
  ·rw[ay h2,ay h2]
  rw[au h2,au h2,JD hx,JD (show(qp x u).kind=1 from hx),show(qp x u).text=oP x.text u from rfl,q3,iw,iw]
  have hc:iM (oP x.text u) 0=u:=by have:=q3;unfold dU at this;rw[ay q1]at this;exact this
  have:=Te (a:=oP x.text u) (b:=qQ x.text u) (k-bC p) 0 (yC.1 q1) (fP _) O;rw[(arx hv u).1]at this;rw[this]
theorem ZP:∀(l:List ah)(t:Nat),bo (l.map nI) t=bo l t
 |[],t=>rfl
 |x::l,t=>by
  rw[dV,bo,bo,ZP l,ZP l]
  have e1:(nI x).kind=x.kind:=by rw[IC];rfl
  have e2:(nI x).text=x.text:=by rw[IC];rfl
  rw[e1,e2]
theorem aiG{C:bG}{body note:Bool}{tt:Int}{l:List ah}(h:fF C body note tt l)(t:Nat):bo (fq l) t=bo l t:=by
 have h1:=fold_add (γ:=(Nat->Nat)×Nat×Nat) (F:=fun l=>(fun t=>bo l t,bC l,(jO l).length)) (op:=fun a b=>(fun t=>if t<=a.2.1 then a.1 t else a.2.2+b.1 (t-a.2.1),a.2.1+b.2.1,a.2.2+b.2.2)) (Q:=jQ C body note tt)
  (fun a b=>by dsimp only;rw[wW,xJ,gT];exact Prod.ext (funext fun t=>D8 a b t) M) N7 RQ
  (fun o z y hz hy hj=>by
   have fz:=((tJ z).1 hz).1;have fy:=((tJ y).1 hy).1;have vz:=(xQ fz hj.2.1).2.2.1;have vy:=(xQ fy hj.1).2.2.1;have kj:(lu z y).kind=1:=hj.2.1;have tj:(lu z y).text=z.text++y.text:=rfl;have cj:=P6 vz vy
   have uz:bO z=dU z.text:=by unfold bO;rw[ay hj.2.1]
   have uy:bO y=dU y.text:=by unfold bO;rw[ay hj.1]
   have uj:bO (lu z y)=dU z.text+dU y.text:=by unfold bO;rw[ay kj,tj,cj]
   have bj:jO [lu z y]=z.text.data.toList++y.text.data.toList:=by rw[yL,ay kj,tj,ByteArray.data_append,Array.toList_append]
   have bz:jO [z]=z.text.data.toList:=by rw[yL,ay hj.2.1]
   have by_:jO [y]=y.text.data.toList:=by rw[yL,ay hj.1]
   dsimp only;refine Prod.ext (funext fun t=>?_)<|Prod.ext ?_ ?_
   ·dsimp only
    have s1:bC [z]=dU z.text:=by rw[bC,bC,uz,oZ]
    rw[D8 o [lu z y],D8 o [z],wW,s1,xJ,bz,gT,Ld]
    by_cases h1:t<=bC o
    ·rw[ay h1,iw,ay h1]
    rw[au h1,au h1,JD kj,JD hj.2.1,JD hj.1,tj,cj,atz vz vy,ByteArray.size_append,bo,bo]
    by_cases h2:t-bC o<=dU z.text
    ·rw[iw,ay h2,iw,ay h2]
    rw[au h2,au (by omega:¬t<=bC o+dU z.text),bo]
    by_cases h3:t-bC o<=dU z.text+dU y.text
    ·rw[ay h3,iw,show t-(bC o+dU z.text)=t-bC o-dU z.text by omega,Nat.add_assoc]
    rw[au h3,bQ];omega
   ·dsimp only
    simp only[wW,bC,uj,uz,uy];omega
   dsimp only
   rw[xJ,xJ,bj,bz,by_,gT,gT,gT];omega) (nS l) [] (nG.1<|BI C body note tt l h) (fun _ h=>(by cases h))
 have h2:=congrFun (cO Prod.fst h1) t;rw[BH];refine h2.trans ?_;dsimp only;rw[fQ,F6,ZP]
def IB(a b s:Nat)(x:ah):List UInt8:=if x.kind=1∧a-s<min (b-s) (bO x)then(x.text.extract (gD x.text 0 (a-s)) (gD x.text 0 (min (b-s) (bO x)))).data.toList else[]
def nQ(a b:Nat):Nat->List ah->List UInt8
 |_,[]=>[]
 |s,x::l=>IB a b s x++nQ a b (s+bO x) l
theorem aoG(a b:Nat):∀(s:Nat)(p q:List ah),nQ a b s (p++q)=nQ a b s p++nQ a b (s+bC p) q
 |s,[],q=>by rw[fQ,nQ,bC];rfl
 |s,x::p,q=>by rw[jl,nQ,nQ,aoG a b (s+bO x) p q,bC,iG,Nat.add_assoc]
theorem aoI{C:bG}{body note:Bool}{tt:Int}{a b:Nat}(hab:a<=b):∀(l:List ah)(s:Nat),fF C body note tt l->nQ a b s l=((jO l).take<|bo l<|b-s).drop (bo l<|a-s)
 |[],s,_=>by simp[nQ,jO]
 |x::l,s,h=>by
  rw[fF]at h;have ih:=aoI hab l (s+bO x) h.2;have hx:=(tJ x).1 h.1;rw[nQ,ih,PI,IB]
  by_cases hk:x.kind=1
  ·rw[JD hk,JD hk]
   have hu:bO x=dU x.text:=by unfold bO;rw[ay hk]
   have hv:=(xQ hx.1 hk).2.2.1;have hs:=Ld x.text;obtain⟨B,hB⟩:∃B,B=b-s:=⟨_,M⟩;obtain⟨A,hA⟩:∃A,A=a-s:=⟨_,M⟩
   have hAB:A<=B:=by omega
   have eB:b-(s+bO x)=B-dU x.text:=by omega
   have eA:a-(s+bO x)=A-dU x.text:=by omega
   rw[eB,eA,<-hB,<-hA,ay hk,hu];have aA:=Cb A 0 (yC.1 hv)<|fP _;have aB:=Cb B 0 (yC.1 hv)<|fP _
   by_cases h1:B<=dU x.text
   ·have h2:A<=dU x.text:=by omega
    rw[ay h1,ay h2,show B-dU x.text=0 by omega,PL,List.take_zero,List.drop_nil,iR,List.take_append_of_le_length O,Nat.min_eq_left h1]
    by_cases h3:A<B
    ·rw[ay ⟨hk,h3⟩,MN,List.drop_take]
    rw[au (fun h=>h3 h.2),show A=B by omega,mh (by rw[List.length_take];omega)]
   rw[au h1,Nat.min_eq_right O,List.take_append,jX (l:=x.text.data.toList) O,hs,Ch]
   by_cases h2:A<=dU x.text
   ·rw[ay h2,show A-dU x.text=0 by omega,PL,xI,List.drop_append_of_le_length O]
    by_cases h3:A<dU x.text
    ·rw[ay ⟨hk,h3⟩,MN,Yt hv,jX (by rw[List.length_drop];omega)]
    rw[au (fun h=>h3 h.2),show A=dU x.text by omega,Yt hv,mh O]
   rw[au h2,au (fun h=>h2 O),fQ,List.drop_append,mh (l:=x.text.data.toList) O,fQ,hs,Ch]
  have hu:bO x=1:=by unfold bO;rw[au hk]
  rw[aiE hk,aiE hk,au (fun h=>hk h.1),au hk,hu,fQ,fQ,show b-(s+1)=b-s-1 by omega,show a-(s+1)=a-s-1 by omega]
abbrev II(c i:Int)(x:Int×Int×ByteArray):Bool:=decide (x.1=c∧x.2.1=i)
theorem alE(A:List cZ)(c i:Int):(mH A c i).map nA=(A.map nA).find? (II c i):=by
 rw[List.find?_map];rfl
theorem alF{A A':List cZ}{xz qk:List (Int×Int×ByteArray)}{k:Int×Int×ByteArray}{c i:Int}(hA:A.map nA=xz++qk)(hA':A'.map nA=xz++k::qk)(hk:¬(k.1=c∧k.2.1=i)):(mH A' c i).map nA=(mH A c i).map nA:=by
 rw[alE,alE,hA,hA',List.find?_append,List.find?_append,List.find?_cons,show II c i k=false from mE hk]
theorem alJ{A:List cZ}{c i:Int}{k:Int×Int×ByteArray}(h:(A.map nA).filter (II c i)=[k]){a:cZ}(ha:a∈A)(hac:a.code=c∧a.id=i):mH A c i=some a:=by
 rw[List.filter_map]at h;have h1:(A.filter fun a=>decide<|a.code=c∧a.id=i).map nA=[k]:=h;have Vf:a∈A.filter fun a=>decide (a.code=c∧a.id=i):=List.mem_filter.2 ⟨ha,kZ hac⟩
 unfold mH
 rw[<-List.head?_filter]
 cases hf:A.filter fun a=>decide (a.code=c∧a.id=i)with
 |nil=>rw[hf]at Vf;cases Vf
 |cons y l=>
  rw[hf]at h1 Vf
  cases l with
  |nil=>rw[oH.1 Vf];rfl
  |cons z l=>simp at h1
theorem aAe{α:Type}{l:List α}{p:α->Bool}{y:α}(h:∀x∈l,p x=true->x=y)(hy:y∈l)(hp:p y=true):l.find? p=some y:=by
 cases hf:l.find? p with
 |none=>exact absurd hp (by simpa using List.find?_eq_none.1 hf y hy)
 |some z=>rw[h z (List.mem_of_find?_eq_some hf)<|List.find?_some hf]
theorem apb:∀(A:List cZ)(m:Int)(a:cZ),a∈A->a.code=1∨a.code=2->a.id<A.foldl sw m
 |b::A,m,a,h,hc=>by
  rcases iL.1 h with rfl|h
  ·have h1:=NU A<|sw m a;rw[List.foldl_cons]
   have h2:a.id+1<=sw m a:=by unfold sw;rw[ay hc];exact Int.le_max_right _ _
   omega
  exact apb A _ a h hc
theorem atu{A A1 A2:List cZ}{U1 V1 U2 V2:List (Int×Int×ByteArray)}{id F f t:Int}{nm:ByteArray}(hid:id=uJ A)
  (h0:A.map nA=U1++V1)(h1:A1.map nA=U1++(2,id,⟨#[]⟩)::V1)(h1':A1.map nA=U2++V2)(h2:A2.map nA=U2++(1,id,nm)::V2)
  (hS:⟨1,id,nm,F,f⟩∈A2)(hE:⟨2,id,⟨#[]⟩,F,t⟩∈A2)(hft:f<t)(hn:(sI A 1).find? (fun x=>decide<|x.name=nm)=none) :
  (sI A2 1).find? (fun x=>decide<|x.name=nm)=some ⟨id,nm,F,f+1,F,t⟩:=by
 have hno:∀c:Int,c=1∨c=2->(A.map nA).filter (II c id)=[]:=by
  intro c hc;rw[List.filter_eq_nil_iff];intro x hx;obtain⟨a,ha,rfl⟩:=List.mem_map.1 hx
  have:a.code=c->a.id<id:=fun e=>by rw[hid];exact apb A 1 a ha O
  intro hp;have hp:=mW hp;have h3:=this hp.1;have h4:a.id=id:=hp.2
  omega
 have hn1:=hno 1<|Or.inl M;have hn2:=hno 2<|Or.inr M;rw[h0,List.filter_append,List.append_eq_nil_iff]at hn1 hn2
 have k1:(A1.map nA).filter (II 1 id)=[]:=by
  rw[h1,List.filter_append,List.filter_cons,au (by simp),hn1.1,hn1.2];rfl
 have k2:(A1.map nA).filter (II 2 id)=[(2,id,⟨#[]⟩)]:=by
  rw[h1,List.filter_append,List.filter_cons,ay (by simp),hn2.1,hn2.2];rfl
 have l1:(A2.map nA).filter (II 1 id)=[(1,id,nm)]:=by
  rw[h1',List.filter_append,List.append_eq_nil_iff]at k1;rw[h2,List.filter_append,List.filter_cons,ay (by simp),k1.1,k1.2];rfl
 have l2:(A2.map nA).filter (II 2 id)=[(2,id,⟨#[]⟩)]:=by
  rw[h2,List.filter_append,List.filter_cons,au (by simp),<-List.filter_append,<-h1',k2]
 have f1:=alJ l1 hS ⟨M,M⟩;have f2:=alJ l2 hE ⟨M,M⟩
 have hY:zx A2 1 ⟨1,id,nm,F,f⟩=⟨id,nm,F,f+1,F,t⟩:=by
  have he:Cq A2 1 ⟨1,id,nm,F,f⟩=(F,t):=by
   unfold Cq
   rw[show(1:Int)+1=2 from rfl,f2];exact ay ⟨M,hft⟩
  unfold zx
  rw[he]
 rw[<-hY];refine aAe ?_ (List.mem_map_of_mem<|List.mem_filter.2 ⟨hS,kZ ⟨M,f1⟩⟩)<|aG M;intro x hx hp;obtain⟨a,ha,rfl⟩:=List.mem_map.1 hx;obtain⟨ha,hs⟩:=List.mem_filter.1 ha;obtain⟨hc,hf⟩:=mW hs;have hnm:a.name=nm:=mW hp
 by_cases hi:a.id=id
 ·rw[hi,f1]at hf;rw[Option.some.inj hf]
 have e1:=alF (c:=1) (i:=a.id) h1' h2<|fun h=>hi h.2.symm;have e2:=alF (c:=1) (i:=a.id) h0 h1<|fun h=>hi h.2.symm;rw[hf,e2]at e1
 cases hb:mH A 1 a.id with
 |none=>rw[hb]at e1;cases e1
 |some b=>
  rw[hb]at e1;have e3:nA a=nA b:=Option.some.inj e1;have b1:b.code=1:=(cO Prod.fst e3).symm.trans hc;have b2:b.id=a.id:=(cO (fun z=>z.2.1) e3).symm;have b3:b.name=nm:=(cO (fun z=>z.2.2) e3).symm.trans hnm;have Nj:b∈A:=List.mem_of_find?_eq_some hb;have hmem:zx A 1 b∈sI A 1:=List.mem_map_of_mem (List.mem_filter.2 ⟨Nj,kZ ⟨b1,by rw[b2,hb]⟩⟩);exact absurd (aG b3)<|List.find?_eq_none.1 hn _ hmem
theorem Ou{C:bG}{body note:Bool}{tt:Int}{l:List ah}(h:fF C body note tt l):bC (fq l)=bC l:=by
 have h1:=fold_add (γ:=Nat) (F:=bC) (op:=fun a b=>a+b) (Q:=jQ C body note tt)
  (fun a b=>wW a b) N7 RQ
  (fun o z y hz hy hj=>by
   have fz:=((tJ z).1 hz).1;have fy:=((tJ y).1 hy).1;have vz:=(xQ fz hj.2.1).2.2.1;have vy:=(xQ fy hj.1).2.2.1;have kj:(lu z y).kind=1:=hj.2.1;have tj:(lu z y).text=z.text++y.text:=rfl;have cj:=P6 vz vy
   have uz:bO z=dU z.text:=by unfold bO;rw[ay hj.2.1]
   have uy:bO y=dU y.text:=by unfold bO;rw[ay hj.1]
   have uj:bO (lu z y)=dU z.text+dU y.text:=by unfold bO;rw[ay kj,tj,cj]
   simp only[wW,bC,uj,uz,uy];omega) (nS l) [] (nG.1<|BI C body note tt l h) (fun _ h=>(by cases h))
 rw[BH,h1,fQ,F6]
 have hm:∀l:List ah,bC (l.map nI)=bC l:=by
  intro l
  induction l with
  |nil=>rfl
  |cons x l ih=>
   rw[dV,bC,bC,ih]
   have e1:(nI x).kind=x.kind:=by rw[IC];rfl
   have e2:(nI x).text=x.text:=by rw[IC];rfl
   unfold bO
   rw[e1,e2]
 exact hm l
theorem oG.app{l a b:List ah}{t:Nat}(h:oG l t a b)(r:List ah):oG (l++r) t a (b++r):=by
 cases h with
 |between p q h ht=>exact .between a (b++r) (by rw[h,iG]) ht
 |inside p x q u h hk h0 h1 ht=>exact .inside p x (q++r) u (by rw[h];simp) hk h0 h1 ht
mutual
theorem aI5(note:Bool)(t:Int){F:eU}:∀x:ah,AX x->F∈qh note t x->eT F.items
 |.mk k c i tx h fl r,hx,hF=>by
  have hf:=XA true t (F:=F) fl hx.fl;have hr:=aso note t (F:=F) r hx.rw;have hok:=hx.fl;rw[qh]at hF
  by_cases h6:k=6
  ·rw[ay h6]at hF
   rcases iL.1 hF with rfl|hF
   ·exact hok
   exact hf hF
  rw[au h6]at hF
  by_cases h7:k=7
  ·rw[ay h7]at hF;exact hr hF
  rw[au h7]at hF;cases hF
theorem XA(note:Bool)(t:Int){F:eU}:∀l:List ah,eT l->F∈iD note t l->eT F.items
 |[],_,hF=>by rw[iD]at hF;cases hF
 |x::l,hl,hF=>by
  obtain⟨hx,hl⟩:=hl.head;rw[iD]at hF
  rcases iF.1 hF with hF|hF
  ·exact aI5 note t x hx hF
  exact XA note t l hl hF
theorem aso(note:Bool)(t:Int){F:eU}:∀l:List aN,(∀r∈l,∀c∈r.cells,eT c.flow)->F∈kR note t l->eT F.items
 |[],_,hF=>by rw[kR]at hF;cases hF
 |x::l,hl,hF=>by
  rw[kR]at hF
  rcases iF.1 hF with hF|hF
  ·exact aI6 note t x (hl x fJ) hF
  exact aso note t l (fun r hr=>hl r (gH _ hr)) hF
theorem aI6(note:Bool)(t:Int){F:eU}:∀x:aN,(∀c∈x.cells,eT c.flow)->F∈qW note t x->eT F.items
 |.mk h cs,hx,hF=>by rw[qW]at hF;exact asn note t cs hx hF
theorem asn(note:Bool)(t:Int){F:eU}:∀l:List aP,(∀c∈l,eT c.flow)->F∈kX note t l->eT F.items
 |[],_,hF=>by rw[kX]at hF;cases hF
 |x::l,hl,hF=>by
  rw[kX]at hF
  rcases iF.1 hF with hF|hF
  ·exact aI4 note t x (hl x fJ) hF
  exact asn note t l (fun c hc=>hl c (gH _ hc)) hF
theorem aI4(note:Bool)(t:Int){F:eU}:∀x:aP,eT x.flow->F∈qg note t x->eT F.items
 |.mk i h fl,hx,hF=>by
  have hok:eT fl:=hx;rw[qg]at hF
  rcases iL.1 hF with rfl|hF
  ·exact hok
  exact XA note (t+1) fl hok hF
end
theorem UW{l:List ah}(h:eT l){id:Int}{L:List ah}(hf:iZ l id=some L):eT L:=by
 unfold iZ at hf
 obtain⟨F,hF,rfl⟩:=nK.1 hf;have hm:=List.mem_of_find?_eq_some hF
 rcases iL.1 hm with rfl|hm
 ·exact h
 exact XA false 0 l h hm
mutual
theorem aFh(C:bG)(body note:Bool)(t:Int):∀x:ah,jQ C body note t x->wT x
 |.mk k c i tx h f r,hx=>by
  have hf:=Wp C false true t f;have hr:=aoV C note (t+1) r;rw[jQ]at hx;obtain⟨-,-,Io,QE⟩:=FD hx.1;dsimp only[ah.kind,ah.rows,ah.flow]at Io QE;rw[wT];refine⟨?_,?_⟩
  ·by_cases h6:k=6
   ·exact hf (hx.2.2.2.1 h6)
   rw[QE h6,kM];trivial
  by_cases h7:k=7
  ·exact hr (hx.2.2.2.2 h7).2
  rw[Io h7,zo];trivial
theorem aFi(C:bG)(note:Bool)(t:Int):∀x:aN,pQ C note t x->Ev x
 |.mk h cs,hx=>by
  have hc:=aoU C note t cs;rw[pQ]at hx;rw[Ev];refine⟨fun e=>?_,hc hx.2⟩;have z:=mo hx.1 (dX (decide ((cs.length:Int)=0)) 11) (by simp);rw[BX Z,e]at z
  simp at z
theorem aFg(C:bG)(note:Bool)(t:Int):∀x:aP,pO C note t x->Et x
 |.mk i h f,hx=>by
  have hf:=Wp C false note t f;rw[pO]at hx;rw[Et];exact hf hx.2
theorem Wp(C:bG)(body note:Bool)(t:Int):∀l:List ah,fF C body note t l->kM l
 |[],_=>by rw[kM];trivial
 |x::l,h=>by
  rw[fF]at h;rw[kM];exact⟨aFh C body note t x h.1,Wp C body note t l h.2⟩
theorem aoV(C:bG)(note:Bool)(t:Int):∀l:List aN,mM C note t l->zo l
 |[],_=>by rw[zo];trivial
 |x::l,h=>by
  rw[mM]at h;rw[zo];exact⟨aFi C note t x h.1,aoV C note t l h.2⟩
theorem aoU(C:bG)(note:Bool)(t:Int):∀l:List aP,nE C note t l->Df l
 |[],_=>by rw[Df];trivial
 |x::l,h=>by
  rw[nE]at h;rw[Df];exact⟨aFg C note t x h.1,aoU C note t l h.2⟩
end
theorem aoK{d:jq}(hz:sM d):sM (nD d):=⟨Nat.le_trans (Sz _) hz.fl,hz.hd,Nat.le_trans (List.length_filter_le _ _) hz.rn,fun x hx=>hz.rt x (List.mem_filter.1 hx).1,hz.sn,hz.st⟩
theorem aE4 {d:jq} (hz:sM d) (h:jK d=0):kM d.flow∧aR (fq d.flow)<=1073741824∧(∀ k∈tY (vO d),-9223372036854775808<=k∧k < 9223372036854775808)∧(tY (vO d)).length<=4294967296:=by
 have h0:=(ada h).1;refine ⟨Wp _ _ _ _ _ ((Fp d).1 h).2.2.1,Nat.le_trans (Sz _) hz.fl,fun q hq=>by have:=aIJ h0 hq;omega,?_⟩;exact Nat.le_trans (aII h0) hz.rn
structure asI(d:jq)(nm:ByteArray)(g:eU)(f t:Nat)(id:Int)(lb rb:List ah)(g1:eU)(la r2 p m q:List ah):Prop where
 c1:oG g.items t lb rb
 o1:XJ d g (jN 2 id ⟨#[]⟩) lb rb
 k1:jK (nD (oV d g (jN 2 id ⟨#[]⟩) lb rb))=0
 z1:sM (nD (oV d g (jN 2 id ⟨#[]⟩) lb rb))
 m1:g1∈gJ (nD (oV d g (jN 2 id ⟨#[]⟩) lb rb)).flow
 i1:g1.id=g.id
 s1:f<=bC g1.items
 b1:aR g1.items<=134217728
 c2:oG g1.items f la r2
 o2:XJ (nD (oV d g (jN 2 id ⟨#[]⟩) lb rb)) g1 (jN 1 id nm) la r2
 k2:jK (nD (oV (nD (oV d g (jN 2 id ⟨#[]⟩) lb rb)) g1 (jN 1 id nm) la r2))=0
 z2:sM (nD (oV (nD (oV d g (jN 2 id ⟨#[]⟩) lb rb)) g1 (jN 1 id nm) la r2))
 JR:uW (nD (oV (nD (oV d g (jN 2 id ⟨#[]⟩) lb rb)) g1 (jN 1 id nm) la r2)).flow nm=some ⟨id,nm,g.id,(f:Nat)+1,g.id,(t:Nat)+1⟩
 fl:iZ (nD (oV (nD (oV d g (jN 2 id ⟨#[]⟩) lb rb)) g1 (jN 1 id nm) la r2)).flow g.id=some (p++(m++q))
 lo:((f:Nat)+1:Int)=(bC p:Nat)
 hi:((t:Nat)+1:Int)=(bC (p++m):Nat)
 txt:jO m=nQ f t 0 g.items
theorem atv{d:jq}(hc:jK d=0)(hz:sM d)(hs:aR d.flow<=8388608){nm:ByteArray}(hnm:pq nm=true)(hn:uW d.flow nm=none){g:eU}(hg:g∈gJ d.flow){f t:Nat}(hft:f<=t)(ht:t<=bC g.items)
  {id:Int}(hid:id=uJ (cB 0 0 d.flow))(amu:id<=1073741824)(hun:gY d.flow<=16382):∃lb rb g1 la r2 p m q,asI d nm g f t id lb rb g1 la r2 p m q:=by
 have QK:1<=id:=by rw[hid];exact NU _ 1
 have hvn:=adf hnm;have hE:wu (jN 2 id ⟨#[]⟩):=⟨2,id,_,M,QK,amu,Z,Or.inr ⟨M,M⟩⟩;have hS:wu (jN 1 id nm):=⟨1,id,_,M,QK,amu,hvn.2.2,Or.inl ⟨M,hnm⟩⟩;obtain⟨C,b,n,tt,hI⟩:=aAn hc hg;obtain⟨lb,rb,c1⟩:=aaf g.items t ht;obtain⟨Qt,hIr⟩:=aag c1 hI;have o1:=aeX hc hz O O hg hE c1;obtain⟨g1,m1,i1,e1⟩:=o1.mem;have k1:=aoJ o1.Ug;have z1:=aoK o1.z;have hIn:=Aw<|Aw Qt;have hsl:bC (fq<|fq lb)=t:=(Ou<|Aw Qt).trans ((Ou Qt).trans (ajp c1 hI).1);obtain⟨la,m',c2'⟩:=aaf (fq<|fq lb) f O;obtain⟨hIa,hIm⟩:=aag c2' hIn;have hsa:=ajp c2' hIn
 have c2:oG g1.items f la (m'++(jN 2 id ⟨#[]⟩::fq (fq rb))):=by rw[e1];exact c2'.app _
 have hsz1:=o1.sz;have anp:=o1.un;have o2:=aeX k1 z1 O O m1 hS c2;have k2:=aoJ o2.Ug;obtain⟨g2,m2,i2,e2⟩:=o2.mem;rw[Wv hE,Wv hE]at e2;obtain⟨qq,hM⟩:∃qq,qq=fq (fq m'):=⟨_,M⟩;obtain⟨P,hP⟩:∃P,P=fq (fq la):=⟨_,M⟩;obtain⟨Q,hQ⟩:∃Q,Q=fq (fq<|fq<|fq rb):=⟨_,M⟩;rw[<-hM,<-hP,<-hQ]at e2;have hok2:=IG k2
 have ha:bC P=f:=by rw[hP];exact(Ou<|Aw hIa).trans ((Ou hIa).trans hsa.1)
 have hm:bC qq+f=t:=by rw[hM,Ou (Aw hIm),Ou hIm];omega
 have n1a:rY P=f:=(Wh<|hP ▸ Aw (Aw hIa)).trans ha;have n1m:rY qq=bC qq:=Wh<|hM ▸ Aw (Aw hIm);have n1x:rY [jN 1 id nm]=1:=rfl;have aS:=afj hok2 m2 e2 hS.kind;have aE:=afj hok2 m2 (p:=(P++[jN 1 id nm])++qq) (x:=jN 2 id ⟨#[]⟩) (q:=Q) (by rw[e2];simp) hE.kind;rw[n1a,i2,i1]at aS;rw[RO,RO,n1a,n1m,n1x,i2,i1,show f+1+bC qq=t+1 by omega]at aE;obtain⟨U1,V1,h0,h1⟩:=o1.anc;obtain⟨U2,V2,h1',h2⟩:=o2.anc;have hf:=atu hid h0 h1 h1' h2 aS aE O hn;refine⟨lb,rb,g1,la,_,P++[jN 1 id nm],qq,jN 2 id ⟨#[]⟩::Q,c1,o1,k1,z1,m1,i1,?_,?_,c2,o2,k2,aoK o2.z,?_,?_,?_,?_,?_⟩
 ·rw[e1,wW];omega
 ·have:=Qq m1;omega
 ·exact hf
 ·rw[<-i1,<-i2]
  unfold iZ
  rw[Qp hok2.ids m2,D5,e2]
  simp
 ·rw[wW,ha];rfl
 ·rw[wW,wW,ha,show bC [jN 1 id nm]=1 from rfl];omega
 rw[hM,PK,PK,(ajq c2' hIn).2,PK,PK,aiG (Aw Qt),aiG Qt,(ajq c1 hI).1,awz c1 hI hft,aoI hft _ 0 hI]
 rfl
theorem Uy:aW 22:=aX func22 M
mutual
def RH:ah->List (Int×List ah)
 |.mk k _ i _ _ f r=>(if k=6 then(i,f)::mK f else[])++(if k=7 then Au r else[])
def mK:List ah->List (Int×List ah)
 |[]=>[]
 |x::l=>RH x++mK l
def Au:List aN->List (Int×List ah)
 |[]=>[]
 |x::l=>RI x++Au l
def RI:aN->List (Int×List ah)
 |.mk _ cs=>F4 cs
def F4:List aP->List (Int×List ah)
 |[]=>[]
 |x::l=>RG x++F4 l
def RG:aP->List (Int×List ah)
 |.mk i _ f=>(i,f)::mK f
end
theorem aEi{x:ah}(h:AX x):RH x=(if x.kind=6 then(x.id,x.flow)::mK x.flow else[])++Au x.rows:=by
 have h0:=h.R3
 cases x with
 |mk k c i tx hd f r=>
  rw[RH]
  by_cases h7:k=7
  ·rw[ay h7];rfl
  show _=(if k=6 then(i,f)::mK f else[])++Au r
  rw[au h7,show r=[]from h0 h7,Au]
theorem aEj(x:aN):RI x=F4 x.cells:=by cases x;rw[RI];rfl
theorem aEh(x:aP):RG x=(x.id,x.flow)::mK x.flow:=by cases x;rw[RG];rfl
abbrev Ir(F:eU):Int×List ah:=(F.id,F.items)
mutual
theorem aEq(note:Bool)(t:Int):∀x:ah,(qh note t x).map Ir=RH x
 |.mk k c i tx h fl r=>by
  have hf:=V3 true t fl;have hr:=aoh note t r;rw[qh,RH]
  by_cases h6:k=6
  ·rw[ay h6,ay h6,bQ,dV,hf,iR]
  rw[au h6,au h6]
  by_cases h7:k=7
  ·rw[ay h7,ay h7,hr,fQ]
  rw[au h7,au h7];rfl
theorem V3(note:Bool)(t:Int):∀l:List ah,(iD note t l).map Ir=mK l
 |[]=>by rw[iD,mK];rfl
 |x::l=>by rw[iD,mK,iy,aEq note t x,V3 note t l]
theorem aEr(note:Bool)(t:Int):∀x:aN,(qW note t x).map Ir=RI x
 |.mk h cs=>by rw[qW,RI];exact aog note t cs
theorem aoh(note:Bool)(t:Int):∀l:List aN,(kR note t l).map Ir=Au l
 |[]=>by rw[kR,Au];rfl
 |x::l=>by rw[kR,Au,iy,aEr note t x,aoh note t l]
theorem aEp(note:Bool)(t:Int):∀x:aP,(qg note t x).map Ir=RG x
 |.mk i h fl=>by rw[qg,RG,dV,V3 note (t+1) fl]
theorem aog(note:Bool)(t:Int):∀l:List aP,(kX note t l).map Ir=F4 l
 |[]=>by rw[kX,F4];rfl
 |x::l=>by rw[kX,F4,iy,aEp note t x,aog note t l]
end
def fK(L:List (Int×List ah))(id:Int):Option (List ah):=(L.find? fun p=>decide (p.1=id)).map (·.2)
theorem UJ(A B:List (Int×List ah))(id:Int):fK (A++B) id=(fK A id).or (fK B id):=by
 unfold fK
 rw[List.find?_append]
 cases A.find? fun p=>decide (p.1=id)<;>rfl
theorem UK(id:Int):fK [] id=none:=rfl
theorem azI{i id:Int}(h:i=id)(f:List ah)(L:List (Int×List ah)):fK ((i,f)::L) id=some f:=by
 unfold fK;rw[List.find?_cons,kZ h];rfl
theorem azH{i id:Int}(h:¬i=id)(f:List ah)(L:List (Int×List ah)):fK ((i,f)::L) id=fK L id:=by
 unfold fK;rw[List.find?_cons,mE h]
theorem azG(l:List ah)(id:Int):fK ((0,l)::mK l) id=iZ l id:=by
 unfold fK iZ
 rw[<-V3 false 0 l,show((0:Int),l)::(iD false 0 l).map Ir=(gJ l).map Ir from rfl,List.find?_map,Option.map_map]
 rfl
def Ya(m:Nat):Prop:=∀(G:GH)(w0:World),Hold G w0->∀(g id:Int)(l:List ah)(u:aj),av G (.sl 11 (l.map ah.dat)) u->eT l->aR l<m->
 Calls prog 22 #[u,vi g,vi id] w0 (bD w0 G fun r G'=>∃v,r=.tuple #[v,.bool (fK ((g,l)::mK l) id).isSome]∧av G' (.sl 11 (((fK ((g,l)::mK l) id).getD []).map ah.dat)) v)
theorem afM {p:Prop} (h:p:=by
 exact kH H (Ri dM bL M M fun _ H=>fin H iJ M)):p:=h
theorem Pv {p:Prop} (h:p:=by
 refine dN [] M trivial V Ap M M ?_;exact JA):p:=h
set_option maxHeartbeats 4000000 in
theorem aEV{m:Nat}(ih:Ya m)(hm:m<=1073741824):Ya (m+1):=by
 intro G w0 hG g id l u hu hok hz;obtain⟨A,c,rfl,hc1,hc2,hgu⟩:=hu.slice;have hu1:=hu;rw[bM]at *;have hll:=wo l;have hml:maxLen=9223372036854775807:=rfl;refine eN [(0,_),(1,_),(2,_)] func22 M ntmps22 M M hG ?_;intro a H;refine kP H (SR fun _ K1=>Ra M<|ak K1 M<|SQ fun _ K2=>SR fun _ K3=>Rm M<|Rm M<|Rc M<|Kz K3<|Cd M ?_ ?_)<;>clear H K1 K3
 ·intro h18 a H
  try have pU:=dT h18
  refine kP H<|SR fun _ K1=>Rm M<|Ra M<|ak K1 M ?_;clear H K1;intro a H;refine eH ?_;refine(gV H results22 (.cons (cK H M) (.cons (cK H M) .nil)) ?_).1;rw[azI (by assumption)];exact H.rt ⟨_,M,hu1⟩
 intro h18 a H
 try have pU:=dF h18
 have hg0:¬g=id:=by assumption
 obtain⟨K,K0⟩:∃K,fK ((g,l)::mK l) id=K:=⟨_,M⟩
 have hK:K=fK (mK l) id:=by rw[<-K0,azH hg0]
 refine kP H<|Kc K2<|SQ fun _ K1=>SR fun _ K3=>ak K3 M<|SB ?_;clear H K2 K3;intro a H;skip;refine dY (ι:=Nat×GH) (Tc:=[(0,_),(2,_)]) (Lc:=[]) (fun gh=>[(8,vi gh.1)]) (fun gh=>[]) (fun gh=>gh.2) (fun gh=>gh.1<=l.length∧K=fK (mK<|l.drop gh.1) id∧eT (l.drop gh.1)∧(∀b o,G b=some o->gh.2 b=some o)) (fun gh=>l.length-gh.1) ((0,G)) (by exact H.sub ⟨M,M,M,aC⟩) ?_ ?_
 ·exact⟨fP _,hK,hok,fun _ _ h=>h⟩
 clear H;rintro⟨k,g1⟩ a w hI H;dsimp only at hI H;obtain⟨hk,hX,hok1,hg1⟩:=hI;dsimp only[lca,bq]at H;refine kP H (SQ fun _ K2=>SR fun _ K3=>Rm M<|Rm M<|Rl dM M<|Rc M<|Kz K3<|Cd M ?_ ?_)<;>clear H K3
 ·intro h23 a H
  try have rH:=dT h23
  have hk2:k<l.length:=by omega
  obtain⟨b,o,pA,pn,pc,dA,dn,dc,yA,yn,yc,fA,fn,fc,rA,rn,rc,rfl,hrow,hhd,hfl,hrw⟩:=vI hk2 hgu;replace hrow:=fun j u hj=>aH hg1<|hrow j u hj;replace hfl:=hfl.mono hg1;replace hrw:=hrw.mono hg1;have hrn:=hrw.len;rw[bM]at hrn;subst hrn;have hzi:=lY l[k];have KA:=I8<|ig hk2;rw[mg hk2]at hX hok1;obtain⟨hox,hok2⟩:=hok1.head;rw[mK,aEi hox,iG,UJ,UJ]at hX;obtain⟨x,hx⟩:∃x,x=l[k]:=⟨_,M⟩;rw[<-hx]at hX hox hrow hhd hfl hrw hzi KA;have hrl:=ER x.rows;have Oc:aJ g1 b (o+k*11+10)=some (.slice rA x.rows.length rc):=hrow 10 _ M;refine kP H<|Kc K2<|SQ fun _ K3=>SB ?_;clear H K2;intro a H;refine rQ (ι:=GH) (Tc:=[(0,_),(2,_),(8,_)]) (Lc:=[]) (fun gh=>[]) (fun gh=>[]) (fun gh=>gh) (fun gh=>K=(fK (Au x.rows) id).or (fK (mK<|l.drop<|k+1) id)∧(∀b o,g1 b=some o->gh b=some o)) (by exact H.sub ⟨M,M,M,aC⟩) ?_ ?_
  ·skip;refine kP H (SR fun _ K2=>Rm M<|Rm M<|Ri dM bL M M<|Rf iW M<|Rg aF M (hrow 0 _ M)<|Rc M<|Kz K2<|Cd M ?_ ?_)<;>clear H K2
   ·intro h31 a H
    try have p31:=dT h31
    refine bU<|fun _ K2=>?_
    have Ap:yG (fun(cu:Nat)(v:aj)(G:GH)=>match cu with|0=>v=.slice (some ⟨b,o,none⟩) l.length c|1=>v=vi k|2=>v=(aK b<|o+k*11)|3=>v=(aK b<|o+k*11+9)|4=>v=.slice fA fn fc|5=>v=.slice (some ⟨b,o,none⟩) l.length c|6=>v=vi k|7=>v=(aK b<|o+k*11)|8=>v=(aK b<|o+k*11+2)|9=>v=vi x.id|10=>v=vi id|11=>∃y,v=.tuple #[y,.bool (fK ((x.id,x.flow)::mK x.flow) id).isSome]∧av G (.sl 11 (((fK ((x.id,x.flow)::mK x.flow) id).getD []).map ah.dat)) y|12=>∃y,v=.tuple #[y,.bool (fK ((x.id,x.flow)::mK x.flow) id).isSome]∧av G (.sl 11 (((fK ((x.id,x.flow)::mK x.flow) id).getD []).map ah.dat)) y|13=>av G (.sl 11 (((fK ((x.id,x.flow)::mK x.flow) id).getD []).map ah.dat)) v|14=>v=.bool (fK ((x.id,x.flow)::mK x.flow) id).isSome|15=>av G (.sl 11 (((fK ((x.id,x.flow)::mK x.flow) id).getD []).map ah.dat)) v|_=>True):=by intro cu v G G' hm h;(iterate 17 (rcases cu with _|cu;(first|exact h|exact(by obtain⟨x,h1,h2⟩:=h;exact⟨x,h1,h2.mono hm⟩)|exact av.mono hm h)));exact trivial
    refine yM (hmx) [[],[],[0,1],[0,1,2],ra 0 4,[],[],[5,6],[5,6,7],ra 5 4,[],ra 0 11,ra 0 12,ra 0 13,ra 0 13,ra 0 14,ra 0 16] [16] V V _ Ap H ?_ ?_
    ·clear H;refine aD ?_ ?_ ?_ ?_<|aD ?_ ?_ ?_ ?_<|aD ?_ ?_ ?_ ?_<|aD ?_ ?_ ?_ ?_<|bE (bX M) dz
     ·exact Pv
     ·exact Pv
     ·refine dN [(0,33,_),(1,34,_)] M ⟨fun _ _ h=>h,fun _ _ h=>h,aC⟩ V Ap M M ?_;intro aZ a w G1 hG HT H fin;exact afM
     ·refine dN [(2,35,_)] M ⟨fun _ _ h=>h,aC⟩ V Ap M M ?_;exact ahh
     ·refine dN [(3,36,_)] M ⟨fun _ _ h=>h,aC⟩ V Ap M M ?_;intro aZ a w G1 hG HT H fin;exact kH H<|Rg eG M (aH hG<|hrow 9 _ M) fun _ H=>fin H iJ M
     ·exact Pv
     ·exact Pv
     ·refine dN [(5,38,_),(6,39,_)] M ⟨fun _ _ h=>h,fun _ _ h=>h,aC⟩ V Ap M M ?_;intro aZ a w G1 hG HT H fin;exact afM
     ·refine dN [(7,40,_)] M ⟨fun _ _ h=>h,aC⟩ V Ap M M ?_;intro aZ a w G1 hG HT H fin;exact kH H<|Rf yO M fun _ H=>fin H iJ M
     ·refine dN [(8,41,_)] M ⟨fun _ _ h=>h,aC⟩ V Ap M M ?_;intro aZ a w G1 hG HT H fin;exact kH H<|Rg aF M (aH hG<|hrow 2 _ M) fun _ H=>fin H iJ M
     ·exact Pv
     ·refine dN [(4,37,_),(9,42,_),(10,43,_)] M ⟨fun _ _ h=>h,fun _ _ h=>h,fun _ _ h=>h,aC⟩ V Ap M M ?_;intro aZ a w G1 hG HT H fin;refine s_call Uy H wn M (ih _ _ H.ro x.id id x.flow _ (hfl.mono hG) hox.fl O) M ?_;clear H;rintro v44 G44 a w ⟨x44,rfl,acA⟩ abj H;exact fin H abj (⟨_,M,acA⟩)
     ·intro aZ a w G1 _ aM hc hG HT hv;have H:=HT;clear aM;obtain⟨u44,acr,Ko⟩:=hv 11 44 (hc 11 Z) M;(try dsimp only at Ko);obtain⟨x44,rfl,acA⟩:=Ko;have H:=H.fT acr;have Hb:=H.full;have H:=Hb;clear hc;refine kH H<|Rm M ?_;clear H;intro a H;refine aI ⟨M,?_⟩;exact qw V Ap M M HT Hb hG hv (fun _ _ h=>h) (⟨_,M,acA⟩) H
     ·intro aZ a w G1 _ aM hc hG HT hv;have H:=HT;clear aM;obtain⟨u32,acp,Q9⟩:=hv 12 32 (hc 12 Z) M;(try dsimp only at Q9);obtain⟨x32,rfl,hx32⟩:=Q9;have H:=H.fT acp;have Hb:=H.full;have H:=Hb;clear hc;refine iH H wn M M M ?_;clear H;intro a H;refine aI ⟨M,?_⟩;exact qw V Ap M M HT Hb hG hv (fun _ _ h=>h) (hx32) H
     ·intro aZ a w G1 _ aM hc hG HT hv;have H:=HT;clear aM;obtain⟨u32,acp,Q9⟩:=hv 12 32 (hc 12 Z) M;(try dsimp only at Q9);obtain⟨x32,rfl,hx32⟩:=Q9;have H:=H.fT acp;have Hb:=H.full;have H:=Hb;clear hc;refine iH H wn M M M ?_;clear H;intro a H;refine aI ⟨M,?_⟩;exact Ht HT Hb hG hv Ap H M
     intro aZ a w G1 _ aM hc hG HT hv;have H:=HT;clear aM;obtain⟨u45,acs,xY⟩:=hv 13 45 (hc 13 Z) M;(try dsimp only at xY);have H:=H.fT acs;have Hb:=H.full;have H:=Hb;clear hc;refine kH H<|Ra M ?_;clear H;intro a H;refine aI ⟨M,?_⟩;exact qw V Ap M M HT Hb hG hv (fun _ _ h=>h) (xY) H
    clear H;intro a w G tC H hv;obtain⟨u9,hu9,hp9⟩:=hv 15 9 Z M;(try dsimp only at hp9);obtain⟨A9,n9,c9,rfl⟩:=hp9.form;have H:=H.fT hu9;have H:=H.aQ (hv 14 46 M M) M;clear hv;refine kH H<|Ra M ?_;clear H;intro a H;refine aI ⟨M,?_⟩;refine K2 _ _ ?_;clear K2;refine kP H (SR fun _ K2=>Rm M<|Kz K2<|Cd M ?_ ?_)<;>clear H K2
    ·intro h47 a H
     refine kP H<|SR fun _ K2=>Rm M<|Ra M<|ak K2 M ?_;clear H K2;intro a H;refine eH ?_;refine(gV H results22 (.cons (cK H M) (.cons (cK H M) .nil)) ?_).1;obtain⟨L,hL⟩:=Option.isSome_iff_exists.1 h47;rw[ay p31,hL,Option.some_or]at hX;have amW:av _ (.sl 11 (((fK ((x.id,x.flow)::mK x.flow) id).getD []).map ah.dat)) (.slice A9 n9 c9):=hp9;rw[hL]at amW;exact H.rt ⟨_,by rw[K0,hX];rfl,by rw[K0,hX];exact amW⟩
    intro h47 a H
    refine fU ?_;refine⟨_,by exact H.sub ⟨M,M,M,aC⟩,?_⟩;rw[ay p31,show fK ((x.id,x.flow)::mK x.flow) id=none from Option.not_isSome_iff_eq_none.1 (by simpa using h47),Option.none_or]at hX;exact⟨hX,tC⟩
   intro h31 a H
   try have p31:=dF h31
   refine fU ?_;refine⟨g1,by exact H.sub ⟨M,M,M,aC⟩,?_⟩;rw[au p31,UK,Option.none_or]at hX;exact⟨hX,fun _ _ h=>h⟩
  clear H;intro g2 a w hI H;obtain⟨hX2,hg2⟩:=hI;dsimp only[lca,bq]at H;refine kP H<|SR fun _ K2=>ak K2 M<|SB ?_;clear H K2;intro a H;skip;refine dY (ι:=Nat×GH) (Tc:=[(0,_),(2,_),(8,_)]) (Lc:=[]) (fun gh=>[(11,vi gh.1)]) (fun gh=>[]) (fun gh=>gh.2) (fun gh=>gh.1<=x.rows.length∧K=(fK (Au<|x.rows.drop gh.1) id).or (fK (mK<|l.drop<|k+1) id)∧(∀b o,g1 b=some o->gh.2 b=some o)) (fun gh=>x.rows.length-gh.1) ((0,g2)) (by exact H.sub ⟨M,M,M,M,aC⟩) ?_ ?_
  ·exact⟨fP _,hX2,hg2⟩
  clear H;rintro⟨rk,g3⟩ a w hI H;dsimp only at hI H;obtain⟨Im,J8,hg3⟩:=hI;have aF6:=aH hg3 Oc;dsimp only[lca,bq]at H;refine kP H (SQ fun _ K2=>SR fun _ K4=>Rm M<|Rm M<|Rm M<|Ri dM bL M M<|Rf mZ M<|Rg lX M aF6<|Rl jI M<|Rc M<|Kz K4<|Cd M ?_ ?_)<;>clear H K4
  ·intro JY a H
   try have p56:=dT JY
   have hk3:rk<x.rows.length:=by omega
   obtain⟨b2,o2,qA,qn,qc,eA,en,ec,zA,zn,zc,cA,cn,cc,rfl,hrow2,zk,hcl⟩:=Gg hk3 (hrw.mono hg3).at_;have hcn:=hcl.len;rw[bM]at hcn;subst hcn;have r5:aJ g3 b2 (o2+rk*6+5)=some (.slice cA x.rows[rk].cells.length cc):=hrow2 5 _ M;have hsz2:=GL hk3;have hcs:=EP x.rows[rk].cells;have hoc:=hox.rw _ (ig hk3);rw[mg hk3,Au,aEj,UJ,Option.or_assoc]at J8;obtain⟨y,hy⟩:∃y,y=x.rows[rk]:=⟨_,M⟩;rw[<-hy]at r5 J8 hrow2 zk hcl hsz2 hcs hoc;refine kP H<|Kc K2<|SQ fun _ K4=>SB<|SR fun _ K5=>ak K5 M<|SB ?_;clear H K2 K5;intro a H;skip;refine dY (ι:=Nat×GH) (Tc:=[(0,_),(2,_),(8,_),(11,_)]) (Lc:=[]) (fun gh=>[(12,vi gh.1)]) (fun gh=>[]) (fun gh=>gh.2) (fun gh=>gh.1<=y.cells.length∧K=(fK (F4<|y.cells.drop gh.1) id).or ((fK (Au<|x.rows.drop<|rk+1) id).or<|fK (mK<|l.drop<|k+1) id)∧(∀b o,g1 b=some o->gh.2 b=some o)∧(∀b o,g3 b=some o->gh.2 b=some o)) (fun gh=>y.cells.length-gh.1) ((0,g3)) (by exact H.sub ⟨M,M,M,M,M,aC⟩) ?_ ?_
   ·exact⟨fP _,J8,hg3,fun _ _ h=>h⟩
   clear H;rintro⟨ck,g4⟩ a w hI H;dsimp only at hI H;obtain⟨hck,wL,hg4,abL⟩:=hI;have apE:=aH hg4 Oc;have RY:=aH abL r5;dsimp only[lca,bq]at H;refine kP H (SQ fun _ K2=>SR fun _ K5=>Rm M<|Rm M<|Rm M<|Ri dM bL M M<|Rf mZ M<|Rg lX M apE<|Rm M<|Ri jI iC M M<|Rf rT M<|Rg qD M RY<|Rl ko M<|Rc M<|Kz K5<|Cd M ?_ ?_)<;>clear H K5
   ·intro yU a H
    try have p70:=dT yU
    have hk4:ck<y.cells.length:=by omega
    obtain⟨b3,o3,sA,sn,sc,tA,tn,tc,uA,un,uc,gA,gn,gc,rfl,hrow3,hch,hcf⟩:=Hr hk4 (hcl.mono abL).at_;have NH:=GJ hk4;have Bz:=hoc _<|ig hk4;rw[mg hk4,F4,aEh,UJ,Option.or_assoc]at wL;obtain⟨z,hzy⟩:∃z,z=y.cells[ck]:=⟨_,M⟩;rw[<-hzy]at wL hrow3 hch hcf NH Bz;refine kP H<|Kc K2<|SQ fun _ K5=>SB<|SR fun _ K6=>Rm M<|Rm M<|Ri dM bL M M<|Rf mZ M<|Rg lX M apE<|Rm M<|Ri jI iC M M<|Rf rT M<|Rg qD M RY<|Rm M<|Ri ko iQ M M ?_;clear H K2;intro a H;refine aY iQ (cs:=[vi z.id,.slice sA sn sc,vi z.head.marks.ins,vi z.head.marks.move,.slice tA tn tc,.slice uA un uc,.slice gA gn gc]) H wn M M (fun j v hj=>H.hp.aJ<|hrow3 j v hj) M ?_;clear H;intro a H;refine dK iQ H wn M ?_;clear H;intro b13 a w Qy H;refine bH iQ 0 (vs:=[_,_,_,_,_,_,_]) H wn M ?_;clear H;intro w H;refine K6 _ _ ?_;clear K6;refine kP H<|SR fun _ K2=>aV Cr eG 0 M M<|aV JN aF 0 M M<|Rm M ?_;clear H;intro a H;refine s_call Uy H wn M (ih _ _ H.ro z.id id z.flow _ hcf Bz O) M ?_;clear H;rintro v91 XU a w ⟨x91,rfl,hx91⟩ QT H;obtain⟨A91,n91,c91,rfl⟩:=hx91.form;refine kH H<|Rm M ?_;clear H;intro a H;(iterate 2 refine iH H wn M M M ?_;clear H;intro a H);refine kH H (Ra M<|ak K2 M<|SR fun _ K6=>Rm M<|Kz K6<|Cd M ?_ ?_)<;>clear H K2 K6
    ·intro Va a H
     refine kP H<|SR fun _ K2=>Rm M<|Ra M<|ak K2 M ?_;clear H K2;intro a H;refine eH ?_;refine(gV H results22 (.cons (cK H M) (.cons (cK H M) .nil)) ?_).1;obtain⟨L,hL⟩:=Option.isSome_iff_exists.1 Va;rw[hL,Option.some_or]at wL;rw[hL]at hx91;exact H.rt ⟨_,by rw[K0,wL];rfl,by rw[K0,wL];exact hx91⟩
    intro Va a H
    try have p94:=dF Va
    refine kP H<|Kc K5<|SC<|Rm M<|Rd M<|Ra M ?_;clear H K5;intro a H;refine aI ?_;refine dO ((ck+1,_)) (by exact(H.dR (Pl:=[_]) (dH:=[]) [] Z M).sub ⟨M,M,M,M,M,aC⟩) ?_
    (try dsimp only);rw[show fK ((z.id,z.flow)::mK z.flow) id=none from Option.not_isSome_iff_eq_none.1 (by simpa using Va),Option.none_or]at wL;exact⟨O,wL,fun b o h=>QT b o (hg4 b o h),fun b o h=>QT b o<|abL b o h⟩
   intro yU a H
   try have p70:=dF yU
   refine dS ?_;refine K4 _ _ ?_;clear K4;refine kP H<|SC<|Rm M<|Rd M<|Ra M ?_;clear H;intro a H;refine aI ?_;refine dO ((rk+1,g4)) (by exact H.sub ⟨M,M,M,M,aC⟩) ?_
   (try dsimp only);rw[mh O,F4,UK,Option.none_or]at wL;exact⟨O,wL,hg4⟩
  intro JY a H
  try have p56:=dF JY
  refine dS ?_;refine K3 _ _ ?_;clear K3;refine kP H<|SC<|Rm M<|Rd M<|Ra M ?_;clear H;intro a H;refine aI ?_;refine dO ((k+1,g3)) (by exact H.sub ⟨M,M,M,aC⟩) ?_
  (try dsimp only);rw[mh O,Au,UK,Option.none_or]at J8;exact⟨O,J8,hok2,fun b o h=>hg3 b o<|hg1 b o h⟩
 intro h23 a H
 try have rH:=dF h23
 refine dS ?_;refine K1 _ _ ?_;clear K1;refine kP H<|SR fun _ K1=>Ra M<|ak K1 M ?_;clear H K1;intro a H;refine eH ?_;refine(gV H results22 (.cons (cK H M) (.cons (cK H M) .nil)) ?_).1;rw[mh O,mK,UK]at hX;exact H.rt ⟨_,by rw[K0,hX];rfl,by rw[K0,hX];exact av.nT (A:=none) (n:=0) (c:=0) M Z⟩
theorem aoB:∀m:Nat,m<=1073741825->Ya m
 |0,_=>fun _ _ _ _ _ _ _ _ _ h=>absurd h O
 |m+1,hm=>aEV (aoB m O) O
theorem aoC(G:GH)(w0:World)(hG:Hold G w0)(id:Int)(l:List ah)(u:aj)(hu:av G (.sl 11<|l.map ah.dat) u)(hok:eT l)(hz:aR l<=1073741824) :
  Calls prog 22 #[u,vi 0,vi id] w0 (bD w0 G fun r G'=>∃v,r=.tuple #[v,.bool (iZ l id).isSome]∧av G' (.sl 11 (((iZ l id).getD []).map ah.dat)) v):=by
 rw[<-azG];exact aoB 1073741825 (eP _) G w0 hG 0 id l u hu hok O
theorem aeb:∀p q:List ah,bC (p++q)=bC p+bC q
 |[],q=>by rw[fQ,bC,fB]
 |x::p,q=>by rw[jl,bC,bC,aeb p q,Nat.add_assoc]
theorem arh{l:List ah}{k:Nat}(hk:k<l.length):bC (l.take<|k+1)=bC (l.take k)+bO l[k]:=by
 rw[ji hk,aeb]
 simp[bC]
theorem ari(l:List ah)(k:Nat):bC (l.take k)<=bC l:=by
 have:=aeb (l.take k)<|l.drop k;rw[List.take_append_drop]at this
 omega
theorem aoE(G:GH)(w0:World)(hG:Hold G w0)(l:List ah)(u:aj)(hu:av G (.sl 11<|l.map ah.dat) u)(hz:aR l<=1073741824) :
  Calls prog 68 #[u] w0 (bD w0 G fun v G'=>v=vi (bC l:Nat)∧G=G'):=by
 obtain⟨A,c,rfl,hc1,hc2,hgu⟩:=hu.slice;rw[bM]at *;have hll:=wo l;have hss:∀m:List ah,bC m<=aR m:=fun m=>Nat.le_trans (Lb m)<|Dt m;have hml:maxLen=9223372036854775807:=rfl;refine eN [(0,_)] func68 M ntmps68 M M hG ?_;intro a H;refine kP H<|SR fun _ K1=>ak K1 M<|SR fun _ K2=>ak K2 M<|SQ fun _ K3=>SR fun _ K4=>ak K4 M<|SB ?_;clear H K1 K2 K4;intro a H;skip;refine dY (ι:=Nat) (Tc:=[(0,_)]) (Lc:=[]) (fun gh=>[(3,vi (bC (l.take gh):Nat)),(4,vi gh)]) (fun gh=>[]) (fun gh=>G) (fun gh=>gh<=l.length) (fun gh=>l.length-gh) (0) (by exact H.sub ⟨M,M,M,aC⟩) ?_ ?_
 ·exact Pn
 clear H;intro k a w hI H;have hk:=hI;dsimp only[lca,bq]at H;refine kP H (SQ fun _ K1=>SR fun _ K2=>Rm M<|Rm M<|Rl dM M<|Rc M<|Kz K2<|Cd M ?_ ?_)<;>clear H K2
 ·intro h8 a H
  try have p8:=dT h8
  have hk2:k<l.length:=by omega
  obtain⟨b,o,pA,pn,pc,dA,dn,dc,yA,yn,yc,fA,fn,fc,rA,rn,rc,rfl,hrow,hhd,hfl,hrw⟩:=vI hk2 hgu;have hzi:=lY l[k];have KA:=I8<|ig hk2;have hs1:=arh hk2;have hs2:=hss l;have hs3:=ari l<|k+1;refine kP H<|Kc K1<|SQ fun _ K2=>SB<|SC<|Rm M<|Rm M<|Rm M<|Ri dM bL M M ?_;clear H K1;intro a H;refine aY bL (cs:=[vi l[k].kind,vi l[k].code,vi l[k].id,.string l[k].text,.slice pA pn pc,vi l[k].head.marks.ins,vi l[k].head.marks.move,.slice dA dn dc,.slice yA yn yc,.slice fA fn fc,.slice rA rn rc]) H wn M M (fun j v hj=>H.hp.aJ<|hrow j v hj) M ?_;clear H;intro a H;refine s_call aaD H wn M (aep _ _ H.ro l[k] _ _ _ _ _ _ _ _ _ O) M ?_;clear H;rintro v16 _ a w ⟨rfl,rfl⟩-H;refine EC ((bC (l.take<|k+1):Nat):Int) H wn M M O O O M ?_;clear H;intro a H;refine kH H<|bZ K2 M<|SC<|Rm M<|Rd M<|Ra M ?_;clear H K2;intro a H;refine aI ?_;refine dO ((k+1)) (by exact H.sub ⟨M,M,M,aC⟩) ?_
  omega
 intro h8 a H
 try have p8:=dF h8
 obtain rfl:k=l.length:=by omega
 rw[oI]at H;refine dS ?_;refine K3 _ _ ?_;clear K3;exact kP H<|SR fun _ K2=>Rm M<|ak K2 M<|LR results68 M fun H=>H.rt ⟨M,M⟩
theorem ako:aW 68:=aX func68 M
theorem aaB:aW 69:=aX func69 M
mutual
/-- The units within an item. -/
def AB:ah->Nat
 |.mk _ _ _ _ _ f r=>tO f+BP r
/-- The units of a flow, and of those within it. -/
def tO:List ah->Nat
 |[]=>0
 |x::l=>bO x+AB x+tO l
def toR:aN->Nat
 |.mk _ cs=>EL cs
def BP:List aN->Nat
 |[]=>0
 |x::l=>toR x+BP l
def toC:aP->Nat
 |.mk _ _ f=>tO f
def EL:List aP->Nat
 |[]=>0
 |x::l=>toC x+EL l
end
theorem arn(x:ah):AB x=tO x.flow+BP x.rows:=by cases x;rw[AB];rfl
theorem arp(x:aN):toR x=EL x.cells:=by cases x;rw[toR];rfl
theorem ark(x:aP):toC x=tO x.flow:=by cases x;rw[toC];rfl
theorem aJb(x:ah)(l:List ah):aR (x::l)=1+bY x.dat+aR l:=OO x l
mutual
theorem aIj:∀x:ah,bO x+AB x<=1+bY x.dat
 |.mk k c i tx h f r=>by
  have hf:=Sd f;have hr:=arv r
  have h1:bO (.mk k c i tx h f r)<=tx.size+1:=by
   unfold bO
   split
   ·exact Nat.le_trans (Fu tx) (Nat.le_succ _)
   omega
  have h4:=lY (.mk k c i tx h f r);dsimp only[ah.text,ah.head,ah.flow,ah.rows]at h4;rw[AB];omega
theorem Sd:∀l:List ah,tO l<=aR l
 |[]=>fP _
 |x::l=>by have h1:=aIj x;have h2:=Sd l;rw[tO,aJb];omega
theorem aIk:∀x:aN,toR x<=bY x.dat
 |.mk h cs=>by
  have hc:=aru cs;have h4:=zC (.mk h cs);dsimp only[aN.head,aN.cells]at h4;rw[toR];omega
theorem arv:∀l:List aN,BP l<=gB l
 |[]=>fP _
 |x::l=>by have h1:=aIk x;have h2:=arv l;rw[BP,asB];omega
theorem aIi:∀x:aP,toC x<=bY x.dat
 |.mk i h f=>by
  have hf:=Sd f;have h4:=AU (.mk i h f);dsimp only[aP.head,aP.flow]at h4;rw[toC];omega
theorem aru:∀l:List aP,EL l<=iU l
 |[]=>fP _
 |x::l=>by have h1:=aIi x;have h2:=aru l;rw[EL,asu];omega
end
mutual
theorem aIg(C:bG)(body note:Bool)(t:Int):∀x:ah,jQ C body note t x->bO x+AB x=uI x
 |.mk k c i tx h f r,hx=>by
  have hf:=Xe C false true t f;have hr:=ars C note (t+1) r;rw[jQ]at hx;obtain⟨h0,-,-,h6,h7⟩:=hx;obtain⟨-,-,e7,e6⟩:=FD h0;dsimp only[ah.kind,ah.rows,ah.flow]at e7 e6;rw[arG,AB]
  by_cases k6:k=6
  ·rw[ay k6,hf (h6 k6),e7 O,BP,oZ]
  rw[au k6,e6 k6,tO]
  by_cases k7:k=7
  ·rw[ay k7,hr (h7 k7).2,fB]
  rw[au k7,e7 k7,BP]
theorem Xe(C:bG)(body note:Bool)(t:Int):∀l:List ah,fF C body note t l->tO l=gY l
 |[],_=>by rw[tO,gY]
 |x::l,h=>by rw[fF]at h;rw[tO,gY,aIg C body note t x h.1,Xe C body note t l h.2]
theorem aIh(C:bG)(note:Bool)(t:Int):∀x:aN,pQ C note t x->toR x=uR x
 |.mk h cs,hx=>by
  have hc:=arq C note t cs;rw[pQ]at hx;rw[toR,uR,hc hx.2]
theorem ars(C:bG)(note:Bool)(t:Int):∀l:List aN,mM C note t l->BP l=qd l
 |[],_=>by rw[BP,qd]
 |x::l,h=>by rw[mM]at h;rw[BP,qd,aIh C note t x h.1,ars C note t l h.2]
theorem aIf(C:bG)(note:Bool)(t:Int):∀x:aP,pO C note t x->toC x=uC x
 |.mk i h f,hx=>by
  have hf:=Xe C false note t f;rw[pO]at hx;rw[toC,uC,hf hx.2]
theorem arq(C:bG)(note:Bool)(t:Int):∀l:List aP,nE C note t l->EL l=qE l
 |[],_=>by rw[EL,qE]
 |x::l,h=>by rw[nE]at h;rw[EL,qE,aIf C note t x h.1,arq C note t l h.2]
end
theorem aro:∀l:List ah,tO l=bC l+(l.map AB).sum
 |[]=>rfl
 |x::l=>by rw[tO,bC,dV,List.sum_cons,aro l];omega
theorem aef:∀l:List aN,BP l=(l.map toR).sum
 |[]=>rfl
 |x::l=>by rw[BP,dV,List.sum_cons,aef l]
theorem aee:∀l:List aP,EL l=(l.map toC).sum
 |[]=>rfl
 |x::l=>by rw[EL,dV,List.sum_cons,aee l]
theorem Ox{α:Type}(f:α->Nat){l:List α}{k:Nat}(hk:k<l.length):((l.take<|k+1).map f).sum=((l.take k).map f).sum+f l[k]:=by
 rw[ji hk,iy,List.sum_append];simp
theorem Ow{α:Type}(f:α->Nat)(l:List α)(k:Nat):((l.take k).map f).sum<=(l.map f).sum:=by
 conv=>rhs;rw[<-List.take_append_drop k l]
 rw[iy,List.sum_append];omega
def Ym(m:Nat):Prop:=∀(G:GH)(w0:World),Hold G w0->∀(l:List ah)(u:aj),av G (.sl 11 (l.map ah.dat)) u->aR l<m->
 Calls prog 69 #[u] w0 (bD w0 G fun r G'=>r=vi (tO l:Nat))
theorem YP {p:Prop} (h:p:=by
 exact ⟨fP _,by simp,fun _ _ h=>h⟩):p:=h
set_option maxHeartbeats 4000000 in
theorem aIe{m:Nat}(ih:Ym m)(hm:m<=1073741824):Ym (m+1):=by
 intro G w0 hG l u hu hz;obtain⟨A,c,rfl,hc1,hc2,hgu⟩:=hu.slice;rw[bM]at *;have hll:=wo l;have hml:maxLen=9223372036854775807:=rfl;have hts:=aro l;have htz:=Sd l;refine eN [(0,_)] func69 M ntmps69 M M hG<|SR fun _ K1=>ak K1 M<|SR fun _ K2=>Rm M fun a H=>s_call ako H wn M (aoE _ _ H.ro l _ hu O) M ?_;clear H;rintro v8 _ a w ⟨rfl,rfl⟩-H;refine kH H<|ak K2 M<|SQ fun _ K1=>SR fun _ K3=>ak K3 M<|SB ?_;clear H K2 K3;intro a H;skip;refine dY (ι:=Nat×Nat×GH) (Tc:=[(0,_)]) (Lc:=[]) (fun gh=>[(3,vi (gh.2.1:Nat)),(4,vi gh.1)]) (fun gh=>[]) (fun gh=>gh.2.2) (fun gh=>gh.1<=l.length∧gh.2.1=bC l+((l.take gh.1).map AB).sum∧(∀b o,G b=some o->gh.2.2 b=some o)) (fun gh=>l.length-gh.1) ((0,bC l,G)) (by exact H.sub ⟨M,M,M,aC⟩) ?_ ?_
 ·exact YP
 clear H;rintro⟨k,n,g1⟩ a w hI H;dsimp only at hI H;obtain⟨hk,hn,hg1⟩:=hI;have hkl:=Ow AB l k;dsimp only[lca,bq]at H;refine kP H (SQ fun _ K2=>SR fun _ K3=>Rm M<|Rm M<|Rl dM M<|Rc M<|Kz K3<|Cd M ?_ ?_)<;>clear H K3
 ·intro h12 a H
  try have nU:=dT h12
  have hk2:k<l.length:=by omega
  obtain⟨b,o,pA,pn,pc,dA,dn,dc,yA,yn,yc,fA,fn,fc,rA,rn,rc,rfl,hrow,hhd,hfl,hrw⟩:=vI hk2 hgu;replace hrow:=fun j u hj=>aH hg1<|hrow j u hj;replace hfl:=hfl.mono hg1;replace hrw:=hrw.mono hg1;have hrn:=hrw.len;rw[bM]at hrn;subst hrn;have hzg:=GK hk2;have hzi:=lY l[k];have aCy:=Ow AB l<|k+1;rw[Ox AB hk2,arn,aef]at aCy;have hrl:=ER l[k].rows;refine kP H<|Kc K2<|SQ fun _ K3=>SB<|SR fun _ K4=>Rm M<|Rm M<|Rm M<|Ri dM bL M M<|Rf uU M<|Rg eG M (hrow 9 _ M) fun a H=>s_call aaB H wn M (ih _ _ H.ro l[k].flow _ hfl O) M ?_;clear H;rintro v21 BZ a w rfl ny H;replace hrow:=fun j u hj=>aH ny<|hrow j u hj;replace hrw:=hrw.mono ny;obtain⟨_,rc_,he_,aKn,aKo,hgr⟩:=hrw.slice
  injection he_ with he1 he2 QC
  subst he1 QC;rw[bM]at *;refine kH H<|Rd M ?_;clear H;intro a H;rw[<-Int.natCast_add]at H;refine kH H<|ak K4 M<|SR fun _ K2=>ak K2 M<|SB ?_;clear H K4 K2;intro a H;skip;refine dY (ι:=Nat×Nat×GH) (Tc:=[(0,_),(4,_)]) (Lc:=[]) (fun gh=>[(3,vi (gh.2.1:Nat)),(5,vi gh.1)]) (fun gh=>[]) (fun gh=>gh.2.2) (fun gh=>gh.1<=l[k].rows.length∧gh.2.1=n+tO l[k].flow+((l[k].rows.take gh.1).map toR).sum∧(∀b o,BZ b=some o->gh.2.2 b=some o)) (fun gh=>l[k].rows.length-gh.1) ((0,n+tO l[k].flow,BZ)) (by exact H.sub ⟨M,M,M,M,aC⟩) ?_ ?_
  ·exact YP
  clear H;rintro⟨j,n2,g2⟩ a w hI H;dsimp only at hI H;obtain⟨hj,hn2,hg2⟩:=hI;have hjl:=Ow toR l[k].rows j;replace hrow:=fun j u hj=>aH hg2<|hrow j u hj;dsimp only[lca,bq]at H;refine kP H (SQ fun _ K2=>SR fun _ K4=>Rm M<|Rm M<|Rm M<|Ri dM bL M M<|Rf mZ M<|Rg lX M (hrow 10 _ M)<|Rl jI M<|Rc M<|Kz K4<|Cd M ?_ ?_)<;>clear H K4
  ·intro kK a H
   try have p30:=dT kK
   have hj2:j<l[k].rows.length:=by omega
   obtain⟨b2,o2,qA,qn,qc,sA,sn,sc,tA,tn,tc,cA,cn,cc,rfl,hrow2,Vq,hcl⟩:=Gg hj2 hgr;replace hrow2:=fun j u hj=>aH hg2<|hrow2 j u hj;replace hcl:=hcl.mono hg2;have hcn:=hcl.len;rw[bM]at hcn;subst hcn;obtain⟨_,cc_,he_,aJ5,aJ6,hgc⟩:=hcl.slice
   injection he_ with he1 he2 QC
   subst he1 QC;rw[bM]at *;have hzr:=GL hj2;have anH:=zC l[k].rows[j];have aB1:=EP l[k].rows[j].cells;have aCx:=Ow toR l[k].rows<|j+1;rw[Ox toR hj2,arp,aee]at aCx;refine kP H<|Kc K2<|SQ fun _ K4=>SB<|SR fun _ K5=>ak K5 M<|SB ?_;clear H K2 K5;intro a H;skip;refine dY (ι:=Nat×Nat×GH) (Tc:=[(0,_),(4,_),(5,_)]) (Lc:=[]) (fun gh=>[(3,vi (gh.2.1:Nat)),(6,vi gh.1)]) (fun gh=>[]) (fun gh=>gh.2.2) (fun gh=>gh.1<=l[k].rows[j].cells.length∧gh.2.1=n2+((l[k].rows[j].cells.take gh.1).map toC).sum∧(∀b o,g2 b=some o->gh.2.2 b=some o)) (fun gh=>l[k].rows[j].cells.length-gh.1) ((0,n2,g2)) (by exact H.sub ⟨M,M,M,M,M,aC⟩) ?_ ?_
   ·exact YP
   clear H;rintro⟨i,n3,g3⟩ a w hI H;dsimp only at hI H;obtain⟨hi,QX,hg3⟩:=hI;have hil:=Ow toC l[k].rows[j].cells i;replace hrow:=fun j u hj=>aH hg3<|hrow j u hj;replace hrow2:=fun j u hj=>aH hg3<|hrow2 j u hj;dsimp only[lca,bq]at H;refine kP H (SQ fun _ K2=>SR fun _ K5=>Rm M<|Rm M<|Rm M<|Ri dM bL M M<|Rf mZ M<|Rg lX M (hrow 10 _ M)<|Rm M<|Ri jI iC M M<|Rf rT M<|Rg qD M (hrow2 5 _ M)<|Rl ko M<|Rc M<|Kz K5<|Cd M ?_ ?_)<;>clear H K5
   ·intro JX a H
    try have p44:=dT JX
    have hi2:i<l[k].rows[j].cells.length:=by omega
    obtain⟨b3,o3,aA,an,ac,gA,gn,gc,uA,un,uc,wA,Sq,wc,rfl,hrow3,aCs,QF⟩:=Hr hi2 hgc;replace hrow3:=fun j u hj=>aH hg3<|hrow3 j u hj;replace QF:=QF.mono hg3;have hzc:=GJ hi2;have aCv:=Ow toC l[k].rows[j].cells<|i+1;rw[Ox toC hi2,ark]at aCv;refine kP H<|Kc K2<|SQ fun _ K5=>SB<|SC<|Rm M<|Rm M<|Rm M<|Ri dM bL M M<|Rf mZ M<|Rg lX M (hrow 10 _ M)<|Rm M<|Ri jI iC M M<|Rf rT M<|Rg qD M (hrow2 5 _ M)<|Rm M<|Ri ko iQ M M<|Rf Cr M<|Rg eG M (hrow3 6 _ M) fun a H=>s_call aaB H wn M (ih _ _ H.ro l[k].rows[j].cells[i].flow _ QF O) M ?_;clear H;rintro v61 G61 a w rfl aCH H;refine kH H<|Rd M ?_;clear H;intro a H;rw[<-Int.natCast_add]at H;refine kH H (bZ K5 M (SC (Rm M (Rd M (Ra M fun a H=>aI (dO ((i+1,n3+tO l[k].rows[j].cells[i].flow,G61)) (by exact H.sub ⟨M,M,M,M,M,aC⟩) ?_))))))
    (try dsimp only);exact⟨O,by rw[Ox toC hi2,ark,QX];omega,fun b o h=>aCH b o<|hg3 b o h⟩
   intro JX a H
   try have p44:=dF JX
   refine dS (K4 _ _ (kP H (SC (Rm M (Rd M (Ra M fun a H=>aI (dO ((j+1,n3,g3)) (by exact H.sub ⟨M,M,M,M,aC⟩) ?_)))))))
   (try dsimp only);exact⟨O,by rw[Ox toR hj2,arp,aee,QX,hn2,show i=l[k].rows[j].cells.length by omega,oI];omega,fun b o h=>hg3 b o<|hg2 b o h⟩
  intro kK a H
  try have p30:=dF kK
  refine dS (K3 _ _ (kP H (SC (Rm M (Rd M (Ra M fun a H=>aI (dO ((k+1,n2,g2)) (by exact H.sub ⟨M,M,M,aC⟩) ?_)))))))
  (try dsimp only);exact⟨O,by rw[Ox AB hk2,arn,aef,hn2,hn,show j=l[k].rows.length by omega,oI];omega,fun b o h=>hg2 b o<|ny b o<|hg1 b o h⟩
 intro h12 a H
 try have nU:=dF h12
 exact dS (K1 _ _<|kP H<|SR fun _ K1=>Rm M<|ak K1 M<|LR results69 M fun H=>H.rt (by rw[hts,hn,show k=l.length by omega,oI]))
theorem arw:∀m:Nat,m<=1073741825->Ym m
 |0,_=>fun _ _ _ _ _ _ h=>absurd h O
 |m+1,hm=>aIe (arw m O) O
theorem aza:aW 67:=aX func67 M
theorem afN {p:Prop} (h:p:=by
 first
  | (have c2:(uW l nm).isSome=true:=by
      rw[hfn,List.find?_isSome];exact⟨S[k],ig hk2,by first|exact h37|(simp at h37|-;exact ZR h37)|simpa using h37⟩
     exact H.rt ⟨_,_,M,by unfold uf;rw [au c1,ay c2],fun _=>rfl,fun h=>absurd h Z⟩)
  | (have c2:¬ (uW l nm).isSome=true:=by rw [hfn];decide
     first
      | (have c3':(iZ l F).isSome=false:=by simpa using h47
         exact H.rt ⟨_,_,M,by unfold uf;rw [au c1,au c2,ay c3'],fun _=>rfl,fun h=>absurd h Z⟩)
      | (have c4:f < 0∨t < f∨kL ((iZ l F).getD []) < t:=by omega
         exact H.rt ⟨_,_,M,by unfold uf;rw [au c1,au c2,au c3,ay c4],fun _=>rfl,fun h=>absurd h Z⟩)
      | (have c4:¬ (f < 0∨t < f∨kL ((iZ l F).getD []) < t):=by omega
         have c5:1073741824<uJ A:=by rw[<-hm0];omega
         exact H.rt ⟨_,_,M,by unfold uf;rw [au c1,au c2,au c3,au c4,ay c5],fun _=>rfl,fun h=>absurd h Z⟩)
      | (have c4:¬ (f < 0∨t < f∨kL ((iZ l F).getD []) < t):=by omega
         have c5:¬1073741824<uJ A:=by rw[<-hm0];omega
         have c6:16382<((tO l:Nat):Int):=by omega
         exact H.rt ⟨_,_,M,by unfold uf;rw [au c1,au c2,au c3,au c4,au c5,ay c6],fun _=>rfl,fun h=>absurd h Z⟩)
      | (have c4:¬ (f < 0∨t < f∨kL ((iZ l F).getD []) < t):=by omega
         have c5:¬1073741824<uJ A:=by rw[<-hm0];omega
         have c6:¬16382<((tO l:Nat):Int):=by omega
         exact H.rt ⟨_,0,M,by unfold uf;rw [au c1,au c2,au c3,au c4,au c5,au c6],fun h=>absurd M h,fun _=>by rw [<- hm0];exact aDc⟩))):p:=h
theorem Mv {p:Prop} (h:p:=by
 intro a H;refine eH ?_;refine(gV H results20 (.cons (cK H M) (.cons (cK H M) .nil)) ?_).1
 have c1:¬pq nm=false:=by simpa using eY
 exact afN):p:=h
theorem aic {p:Prop} (h:p:=by
 refine fu 13 61 10 58 M M fun _ a w G1 hG HT H fin=>?_;refine s_call ako H (wg H M M (aO c1)) M (aoE _ _ H.ro _ _ (anF.mono hG) hfz) M ?_;clear H;rintro v62 G62 a w ⟨rfl,rfl⟩ aA7 H;exact fin H aA7 (rfl)):p:=h
theorem ahs {p:Prop} (h:p:=by
 clear H;intro a w G xU H hv;have H:=H.aQ (hv 16 64 M M) M;clear hv;refine aI ⟨M,?_⟩;refine K4 _ _ ?_;clear K4;refine zR H M M ?_;refine kP H (SR fun _ K3=>Ra M (ak K3 M ?_));clear H K3;exact Mv):p:=h
set_option maxHeartbeats 4000000 in
theorem aEQ(G:GH)(w0:World)(hG:Hold G w0)(D:jh)(l:List ah)(nm:ByteArray)(F f t:Int)(hv:av G (.sl 11<|l.map ah.dat) (bN D.f))(hok:eT l)(hz:aR l<=1073741824)(hnm:nm.size<=4294967296)(hid:∀a∈cB 0 0 l,1<=a.id∧a.id<=1073741824)(hcd:∀a∈cB 0 0 l,1<=a.code)(hnd:(cB 0 0 l).Nodup) :
    Calls prog 20 #[D.val,.string nm,.agg #[vi F,vi f,vi t]] w0 (bD w0 G fun u G'=>∃x e,u=.tuple #[x,vi e]∧e=uf nm (uW l nm).isSome (iZ l F) f t (uJ<|cB 0 0 l) (tO l:Nat)∧(e≠0->x=.slice none 0 0)∧(e=0->av G' (.sl 18<|Jl nm F f t<|uJ<|cB 0 0 l) x)):=by
  have hn:=DZ 0 0 l;have hml:maxLen=9223372036854775807:=rfl;have htz:=Sd l;have Ie:=O9 0 0 l;obtain⟨A,hA⟩:∃A,A=cB 0 0 l:=⟨_,M⟩
  have hfn:uW l nm=(sI A 1).find? fun x=>decide (x.name=nm):=by unfold uW;rw[<-hA]
  rw[<-hA]at hn hid hcd hnd Ie|-
  have hsl:(sI A 1).length<=A.length:=by unfold sI;rw[bM];exact List.length_filter_le _ _
  obtain⟨S,hS⟩:∃S,S=sI A 1:=⟨_,M⟩;rw[<-hS]at hfn hsl;refine eN [(0,_),(1,_),(2,_)] func20 M ntmps20 M M hG fun a H=>dw<|fun _ K1=>eD (cs:=[_,_,_,_,_,_,_,_,_,_,_]) H wn M M M fun b3 a w hb3 H=>eD (cs:=[_,_,_]) H wn M M M fun b5 a w hb5 H=>kH H<|Ra M<|ak K1 M<|SQ fun _ K2=>?_;clear H K1;intro a H;obtain⟨Ga,hma,rE,H⟩:=H.eX;obtain⟨Gb,hmb,uq,H⟩:=H.eX;have hgf:aJ Gb b3 0=some (bN D.f):=lQ uq 0 D.cells M 0 _ M;have q0:aJ Gb b5 0=some (vi F):=aH hmb<|lQ rE 0 [vi F,vi f,vi t] M 0 _ M;have q1:aJ Gb b5 1=some (vi f):=aH hmb<|lQ rE 0 [vi F,vi f,vi t] M 1 _ M;have q2:aJ Gb b5 2=some (vi t):=aH hmb<|lQ rE 0 [vi F,vi f,vi t] M 2 _ M;replace hv:=(hv.mono hma).mono hmb;refine kP H<|SC<|Rf wH M<|Rg eG M hgf fun a H=>s_call aaA H wn M (aoD 1073741825 (eP _) _ _ H.ro 0 l _ hv hok O) M ?_;clear H;rintro v19 LK a w hr mJ H;rw[<-hA]at hr;obtain⟨vA,n19,c19,rfl⟩:=hr.form;have amN:=hr.len;rw[bM]at amN;subst amN;replace hv:=hv.mono mJ;replace hgf:=aH mJ hgf;replace q1:=aH mJ q1;replace q2:=aH mJ q2;replace q0:=aH mJ q0;refine kH H (bZ K2 M (SR fun _ K1=>Rm M fun a H=>s_call aza H wn M (aEX _ _ H.ro A _ 1 hr O hnd (fun a ha=>⟨(Ie a ha).1,by have:=(Ie a ha).2;omega⟩) Z) rfl ?_));clear H;rintro v21 BZ a w VK ny H;rw[<-hS]at VK;obtain⟨sA,sn,sc,rfl⟩:=VK.form;have hsn:=VK.len;rw[bM]at hsn;subst hsn;replace hv:=hv.mono ny;replace hr:=hr.mono ny;replace hgf:=aH ny hgf;replace q1:=aH ny q1;replace q2:=aH ny q2;replace q0:=aH ny q0;refine kH H<|ak K1 M<|SQ fun _ K2=>SR fun _ K3=>Rm M fun a H=>s_call UD H wn M (Ul _ _ H.ro nm O) M ?_;clear H;rintro v23 _ a w ⟨rfl,rfl⟩-H;refine kH H (Rn M<|Kz K3<|Cd M ?_ ?_)<;>clear H K3
  · intro eY a H
    refine kP H<|SR fun _ K1=>Ra M<|ak K1 M fun a H=>eH ((gV H results20 (.cons (cK H M) (.cons (cK H M) .nil)) ?_).1);exact H.rt ⟨_,_,M,by unfold uf;rw[ay (by simpa using eY)],fun _=>rfl,fun h=>absurd h Z⟩
  intro eY a H
  try have pW:=dF eY
  refine kP H<|Kc K2<|SQ fun _ K1=>SR fun _ K3=>ak K3 M<|SB ?_;clear H K2 K3;intro a H;skip;refine dY (ι:=Nat) (Tc:=[(1,_),(3,_),(5,_),(8,_),(9,_)]) (Lc:=[]) (fun gh=>[(10,vi gh)]) (fun gh=>[]) (fun gh=>BZ) (fun gh=>gh<=S.length∧(S.take gh).find? (fun x=>decide<|x.name=nm)=none) (fun gh=>S.length-gh) (0) (by exact H.sub ⟨M,M,M,M,M,M,aC⟩) ?_ ?_
  · exact⟨fP _,by simp⟩
  clear H;intro k a w hI H;obtain⟨hk,hnf⟩:=hI;dsimp only[lca,bq]at H;refine kP H (SQ fun _ K2=>SR fun _ K3=>Rm M<|Rm M<|Rl DK M<|Rc M<|Kz K3<|Cd M ?_ ?_)<;>clear H K3
  · intro eZ a H
    try have p28:=dT eZ
    have hk2:k<S.length:=by omega
    obtain⟨b,o,rfl,hrow⟩:=WX VK hk2;refine kP H<|Kc K2<|SQ fun _ K3=>SB<|SR fun _ K4=>Rm M<|Rm M<|Ri DK mQ M M<|Rf ale M<|Rg gN M (hrow 1 _ M)<|Rm M fun a H=>BN H wn M M M fun a H=>K4 _ _<|jU H M ?_ ?_
    · intro h37
      try have p37:=dT h37
      exact kP H<|SR fun _ K2=>Ra M<|ak K2 M Mv
    intro h37
    try have p37:=dF h37
    exact kP H (Kc K3 (SC (Rm M (Rd M (Ra M fun a H=>aI (dO ((k+1)) (by exact H.sub ⟨M,M,M,M,M,M,aC⟩) ⟨O,alh hk2 hnf (mE fun e=>by rw[e]at h37;simp at h37)⟩))))))
  intro eZ a H
  try have p28:=dF eZ
  rw[jX O]at hnf;rw[hnf]at hfn;refine dS<|K1 _ _<|kP H<|SR fun _ K1=>Rf wH M<|Rg eG M hgf<|Rf HV M<|Rg aF M q0 fun a H=>s_call Uy H wn M (aoC _ _ H.ro F l _ hv hok hz) M ?_;clear H;rintro v43 GU a w ⟨y43,rfl,anF⟩ uD H;obtain⟨yA,yn,yc,rfl⟩:=anF.form
  have hfz:aR ((iZ l F).getD [])<=1073741824:=by
    exact ahd
  replace hv:=hv.mono uD;replace hr:=hr.mono uD;replace hgf:=aH uD hgf;replace q1:=aH uD q1;replace q2:=aH uD q2;replace q0:=aH uD q0;refine kH H<|Rm M ?_;clear H;intro a H;(iterate 2 refine iH H wn M M M ?_;clear H;intro a H);refine kH H (Ra M<|ak K1 M<|SQ fun _ K3=>SR fun _ K4=>Rm M<|Rn M<|Kz K4<|Cd M ?_ ?_)<;>clear H K1 K4
  · intro h47 a H
    try have p47:=dT h47
    exact kP H<|SR fun _ K1=>Ra M<|ak K1 M Mv
  intro h47 a H
  try have p47:=dF h47
  have c3:¬(iZ l F).isSome=false:=fun e=>by rw[e]at h47;cases h47
  have hlen:kL ((iZ l F).getD [])=(bC ((iZ l F).getD []):Nat):=by
    cases hfo:iZ l F with
    |none=>rw[hfo]at c3;exact absurd M c3
    |some y=>exact(UW hok hfo).len
  refine kP H<|Kc K3<|SQ fun _ K1=>SQ fun _ K4=>?_;clear H K3;intro a H
  by_cases c0:f<0
  · skip;refine dI hmx [[],[0],[0,1],[0,1,2],ra 0 4,ra 0 5,ra 0 4,[0,1,2,3,6],ra 0 8,ra 0 9,ra 0 10,ra 0 11,ra 0 12,ra 0 11,ra 0 11++[13],ra 0 15,ra 0 16] [] V [_,_,_,_,undef,undef,undef,undef,undef,_,_,undef,undef,undef,undef,undef,_] H (aD (Z0 M<|Rf Ab M) (X1 0 48 M fun hG=>Rg aF M<|aH hG q1) (Z1 1 49 M<|Rc M) (Z1 2 50 M<|Rm M)<|aD (aL 3 (aG c0) M M) (aL 3 (aG c0) M M) (aL 3 (aG c0) M M) (aL 3 (aG c0) M M)<|aD (aL 3 (aG c0) M M) (Z2 3 51 8 56 M<|Pt (aG c0) M) (Z1 9 57 M<|Rm M) (aL 10 M M M)<|aD (aL 10 M M M) (aL 10 M M M) (aL 10 M M M) (aL 10 M M M)<|bE (Z2 10 58 15 63 M<|Pt M M) dz) ?_
    exact ahs
  skip
  by_cases c1:t<f
  · skip;refine dI hmx [[],[0],[0,1],[0,1,2],ra 0 4,ra 0 5,ra 0 4,[0,1,2,3,6],ra 0 8,ra 0 9,ra 0 10,ra 0 11,ra 0 12,ra 0 11,ra 0 11++[13],ra 0 15,ra 0 16] [] V [_,_,_,_,_,_,_,_,_,_,_,undef,undef,undef,undef,undef,_] H (aD (Z0 M<|Rf Ab M) (X1 0 48 M fun hG=>Rg aF M<|aH hG q1) (Z1 1 49 M<|Rc M) (Z1 2 50 M<|Rm M)<|aD (Z1 3 51 M<|YF Cv (aO c0) M) (X2 4 52 3 51 M fun hG=>YR aF (aO c0) M<|aH hG q2) (Z1 3 51 M<|YF Ab (aO c0) M) (X2 6 54 3 51 M fun hG=>YR aF (aO c0) M<|aH hG q1)<|aD (Z3 5 53 7 55 3 51 M<|YC (aO c0) M) (Z2 3 51 8 56 M<|Pf (aO c0) M) (Z1 9 57 M<|Rm M) (aL 10 (aG c1) M M)<|aD (aL 10 (aG c1) M M) (aL 10 (aG c1) M M) (aL 10 (aG c1) M M) (aL 10 (aG c1) M M)<|bE (Z2 10 58 15 63 M<|Pt (aG c1) M) dz) ?_
    exact ahs
  skip
  by_cases c2:(bC ((iZ l F).getD []):Nat)<t
  · skip;refine dI hmx [[],[0],[0,1],[0,1,2],ra 0 4,ra 0 5,ra 0 4,[0,1,2,3,6],ra 0 8,ra 0 9,ra 0 10,ra 0 11,ra 0 12,ra 0 11,ra 0 11++[13],ra 0 15,ra 0 16] [] V [_,_,_,_,_,_,_,_,_,_,_,_,_,_,vi (bC ((iZ l F).getD []):Nat),_,_] H (aD (Z0 M<|Rf Ab M) (X1 0 48 M fun hG=>Rg aF M<|aH hG q1) (Z1 1 49 M<|Rc M) (Z1 2 50 M<|Rm M)<|aD (Z1 3 51 M<|YF Cv (aO c0) M) (X2 4 52 3 51 M fun hG=>YR aF (aO c0) M<|aH hG q2) (Z1 3 51 M<|YF Ab (aO c0) M) (X2 6 54 3 51 M fun hG=>YR aF (aO c0) M<|aH hG q1)<|aD (Z3 5 53 7 55 3 51 M<|YC (aO c0) M) (Z2 3 51 8 56 M<|Pf (aO c0) M) (Z1 9 57 M<|Rm M) (Z1 10 58 M<|YF Cv (aO c1) M)<|aD (X2 11 59 10 58 M fun hG=>YR aF (aO c1) M<|aH hG q2) (Z1 10 58 M<|YM (aO c1) M) ?_ (Z3 12 60 14 62 10 58 M<|YC (aO c1) M)<|bE (Z2 10 58 15 63 M<|Pf (aO c1) M) dz) ?_
    · exact aic
    clear H;intro a w G xU H hv;have H:=H.aQ (hv 16 64 M M) M;clear hv;exact aI ⟨M,K4 _ _<|zR H M (aG c2)<|kP H<|SR fun _ K3=>Ra M<|ak K3 M Mv⟩
  skip;refine dI hmx [[],[0],[0,1],[0,1,2],ra 0 4,ra 0 5,ra 0 4,[0,1,2,3,6],ra 0 8,ra 0 9,ra 0 10,ra 0 11,ra 0 12,ra 0 11,ra 0 11++[13],ra 0 15,ra 0 16] [] V [_,_,_,_,_,_,_,_,_,_,_,_,_,_,vi (bC ((iZ l F).getD []):Nat),_,_] H (aD (Z0 M<|Rf Ab M) (X1 0 48 M fun hG=>Rg aF M<|aH hG q1) (Z1 1 49 M<|Rc M) (Z1 2 50 M<|Rm M)<|aD (Z1 3 51 M<|YF Cv (aO c0) M) (X2 4 52 3 51 M fun hG=>YR aF (aO c0) M<|aH hG q2) (Z1 3 51 M<|YF Ab (aO c0) M) (X2 6 54 3 51 M fun hG=>YR aF (aO c0) M<|aH hG q1)<|aD (Z3 5 53 7 55 3 51 M<|YC (aO c0) M) (Z2 3 51 8 56 M<|Pf (aO c0) M) (Z1 9 57 M<|Rm M) (Z1 10 58 M<|YF Cv (aO c1) M)<|aD (X2 11 59 10 58 M fun hG=>YR aF (aO c1) M<|aH hG q2) (Z1 10 58 M<|YM (aO c1) M) ?_ (Z3 12 60 14 62 10 58 M<|YC (aO c1) M)<|bE (Z2 10 58 15 63 M<|Pf (aO c1) M) dz) ?_
  · exact aic
  clear H;intro a w G xU H hv;have H:=H.aQ (hv 16 64 M M) M;clear hv;refine aI ⟨M,K4 _ _<|oJ H M (aO c2)<|kP H<|Kc K1<|SR fun _ K3=>ak K3 M<|SQ fun _ K4=>SR fun _ K5=>ak K5 M<|SB ?_⟩;clear H K1 K3 K5;intro a H;skip;refine dY (ι:=Nat×Int×GH) (Tc:=[(1,_),(3,_),(5,_),(8,_)]) (Lc:=[]) (fun gh=>[(13,vi gh.2.1),(14,vi gh.1)]) (fun gh=>[]) (fun gh=>gh.2.2) (fun gh=>gh.1<=A.length∧gh.2.1=uJ (A.take gh.1)∧(∀b o,GU b=some o->gh.2.2 b=some o)) (fun gh=>A.length-gh.1) ((0,1,_)) (by exact H.sub ⟨M,M,M,M,M,M,aC⟩) ?_ ?_
  · exact⟨fP _,M,fun b o h=>xU b o h⟩
  clear H;rintro⟨k,m,g⟩ a w hI H;dsimp only at hI H;obtain⟨hk,hm0,hgm⟩:=hI;have abR:=apa (A.take k) (fun a ha=>hid a<|List.mem_of_mem_take ha) 1 Z;have abS:=NU (A.take k) 1;rw[show(A.take k).foldl sw 1=m from hm0.symm]at abR abS;dsimp only[lca,bq]at H;refine kP H (SQ fun _ K1=>SR fun _ K3=>Rm M<|Rm M<|Rl oQ M<|Rc M<|Kz K3<|Cd M ?_ ?_)<;>clear H K3
  · intro h68 a H
    try have p68:=dT h68
    have hk2:k<A.length:=by omega
    obtain⟨b,o,rfl,hrow⟩:=Jp (hr.mono hgm) hk2;have aCt:=hid _<|ig hk2;have aJ7:=hcd _<|ig hk2;refine kP H (Kc K1<|SQ fun _ K3=>SB<|SR fun _ K5=>Rm M<|Rm M<|Ri oQ kG M M<|Rf Hu M<|Rg aF M (hrow 0 _ M)<|Rc M<|Kz K5<|Cd M ?_ ?_)<;>clear H K1 K5
    · intro Ag a H
      try have RS:=dT Ag
      refine kP H (SC (Rm M (Rm M (Rm M (Ri oQ kG M M (Rf D9 M (Rg aF M (hrow 1 _ M) (Rd M fun a H=>KZ H wn M M M (bZ K3 M (SC (Rm M (Rd M (Ra M fun a H=>aI (dO ((k+1,_,g)) (by exact H.sub ⟨M,M,M,M,M,M,aC⟩) ?_))))))))))))))
      try dsimp only
      first
      |exact⟨O,by rw[IE hk2,<-hm0,sw,iw],hgm⟩
      |exact⟨O,by rw[IE hk2,<-hm0,sw,bQ],hgm⟩
    intro Ag a H
    try have RS:=dF Ag
    refine kP H (Kc K3 (SC (Rm M (Rd M (Ra M fun a H=>aI (dO ((k+1,_,g)) (by exact H.sub ⟨M,M,M,M,M,M,aC⟩) ?_))))))
    try dsimp only
    first
    |exact⟨O,by rw[IE hk2,<-hm0,sw,iw],hgm⟩
    |exact⟨O,by rw[IE hk2,<-hm0,sw,bQ],hgm⟩
  intro h68 a H
  try have p68:=dF h68
  obtain rfl:k=A.length:=by omega
  rw[oI]at hm0;replace hv:=hv.mono hgm;replace hgf:=aH hgm hgf;replace q1:=aH hgm q1;replace q2:=aH hgm q2;replace q0:=aH hgm q0;refine dS (K4 _ _<|kP H<|SQ fun _ K3=>SR fun _ K4=>Rm M<|Rc M<|Kz K4<|Cd M ?_ ?_)<;>clear H K4
  · intro FJ a H
    try have p86:=dT FJ
    exact kP H<|SR fun _ K4=>Ra M<|ak K4 M Mv
  intro FJ a H
  try have p86:=dF FJ
  refine kP H<|Kc K3<|SQ fun _ K4=>SR fun _ K5=>Rf wH M<|Rg eG M hgf fun a H=>s_call aaB H wn M (arw 1073741825 (eP _) _ _ H.ro l _ hv O) M ?_;clear H;rintro v89 G89 a w rfl abQ H;replace q1:=aH abQ q1;replace q2:=aH abQ q2;replace q0:=aH abQ q0;refine kH H (Rc M<|Kz K5<|Cd M ?_ ?_)<;>clear H K5
  · intro Ah a H
    try have p90:=dT Ah
    exact kP H<|SR fun _ K3=>Ra M<|ak K3 M Mv
  intro Ah a H
  try have p90:=dF Ah
  refine kP H (Kc K4<|SR fun _ K3=>Rm M fun a H=>jM WY [_,_,_,_,_,_,_,_,_,_,_] H wn M M M M fun a H=>dK bL H wn M fun b15 a w abq H=>bH bL 0 (vs:=[_,_,_,_,_,_,_,_,_,_,_]) H wn M fun w H=>K3 _ _<|kP H<|SR fun _ K3=>Rm M<|Rm M fun a H=>jM WY [_,_,_,_,_,_,_,_,_,_,_] H wn M M M M fun a H=>dK bL H wn M fun b16 a w abt H=>bH bL 0 (vs:=[_,_,_,_,_,_,_,_,_,_,_]) H wn M fun w H=>K3 _ _<|kP H<|SR fun _ K3=>Rf HV M<|Rg aF M q0<|Rf Cv M<|Rg aF M q2 fun a H=>aY bL (cs:=[_,_,_,_,_,_,_,_,_,_,_]) H wn M M (H.hp.dB 1 M M) M fun a H=>iT dM bL _ (Ti 2 m ⟨#[]⟩) H wn M M M M M (by intro i q h;match i,h with|0,h=>exact h|n+1,h=>simp at h) M M ?_);clear H;intro afv a w aJK H;obtain⟨aJo,amx,aDa,H⟩:=St.Qr H M<|YB _ 2 m ⟨#[]⟩;replace q1:=aH amx q1;replace q0:=aH amx q0;refine jM adY [_,_,_,_,_,_,_,_,_,_,_,_,_,_,_,_,_,_] H wn M M M M (Rf HV M<|Rg aF M q0<|Rf Ab M<|Rg aF M q1 fun a H=>aY bL (cs:=[_,_,_,_,_,_,_,_,_,_,_]) H wn M M (H.hp.dB 0 M M) M fun a H=>iT dM bL _ (Ti 1 m nm) H wn M M M M M (by intro i q h;match i,h with|0,h=>exact h|n+1,h=>simp at h) M M ?_);clear H;intro afw a w aJM H;obtain⟨aJq,aCA,aDb,H⟩:=St.Qr H M<|YB _ 1 m nm;refine jM adY [_,_,_,_,_,_,_,_,_,_,_,_,_,_,_,_,_,_] H wn M M M M fun a H=>adL GA wY [lg 11 F t (.slice (some ⟨afv,0,none⟩) 1 1),lg 11 F f (.slice (some ⟨afw,0,none⟩) 1 1)] H wn M M M M M M M ?_;clear H;intro b110 a w aJN H;obtain⟨asK,amy,aBC,H⟩:=H.eX;have aDc:av asK (.sl 18<|Jl nm F f t m) (.slice (some ⟨b110,0,none⟩) 2 2):=av.uK (xs:=[lg 11 F t (.slice (some ⟨afv,0,none⟩) 1 1),lg 11 F f (.slice (some ⟨afw,0,none⟩) 1 1)].flatten) aBC M (eP _) Z M (by simpa[Jl]using((bR.nil (sz:=18)).snoc (Ut ((aDa.mono aCA).mono amy)) M).snoc (Ut<|aDb.mono amy) M);refine kH H<|Ra M<|ak K3 M fun a H=>eH ((gV H results20 (.cons (cK H M) (.cons (cK H M) .nil)) ?_).1)
  have c1:¬pq nm=false:=by simpa using eY
  exact afN
abbrev LD(a:cZ):Prop:=(1<=a.id∧a.id<=1073741824)∧1<=a.code
mutual
theorem atU(C:bG)(body note:Bool)(tt:Int)(g:Int)(t:Nat):∀x:ah,jQ C body note tt x->∀a∈sP g t x,LD a
 |.mk k c i tx h f r,hx,a,ha=>by
  obtain⟨hf,hp,-,h6,h7⟩:=(tJ _).1 hx;rw[sP]at ha
  rcases iF.1 ha with ha|ha
  ·by_cases h8:k=8
   ·subst h8;rw[ay M,oH]at ha;subst ha;exact⟨hp.2.2.2 M,(aAu hf M).1⟩
   rw[au h8]at ha;cases ha
  rcases iF.1 ha with ha|ha
  ·by_cases k6:k=6
   ·rw[ay k6]at ha;exact Ph C false true tt i 0 f (h6 k6) a ha
   rw[au k6]at ha;cases ha
  by_cases k7:k=7
  ·rw[ay k7]at ha;exact afm C note (tt+1) r (h7 k7).2 a ha
  rw[au k7]at ha;cases ha
theorem Ph(C:bG)(body note:Bool)(tt:Int)(g:Int)(t:Nat):∀l:List ah,fF C body note tt l->∀a∈cB g t l,LD a
 |[],_,a,ha=>by rw[cB]at ha;cases ha
 |x::l,h,a,ha=>by
  rw[fF]at h;rw[cB]at ha
  rcases iF.1 ha with ha|ha
  ·exact atU C body note tt g t x h.1 a ha
  exact Ph C body note tt g _ l h.2 a ha
theorem atV(C:bG)(note:Bool)(tt:Int):∀x:aN,pQ C note tt x->∀a∈wD x,LD a
 |.mk h cs,hx,a,ha=>by
  rw[pQ]at hx;rw[wD]at ha;exact afl C note tt cs hx.2 a ha
theorem afm(C:bG)(note:Bool)(tt:Int):∀l:List aN,mM C note tt l->∀a∈jT l,LD a
 |[],_,a,ha=>by rw[jT]at ha;cases ha
 |x::l,h,a,ha=>by
  rw[mM]at h;rw[jT]at ha
  rcases iF.1 ha with ha|ha
  ·exact atV C note tt x h.1 a ha
  exact afm C note tt l h.2 a ha
theorem atT(C:bG)(note:Bool)(tt:Int):∀x:aP,pO C note tt x->∀a∈wC x,LD a
 |.mk i h f,hx,a,ha=>by
  rw[pO]at hx;rw[wC]at ha;exact Ph C false note tt i 0 f hx.2 a ha
theorem afl(C:bG)(note:Bool)(tt:Int):∀l:List aP,nE C note tt l->∀a∈kU l,LD a
 |[],_,a,ha=>by rw[kU]at ha;cases ha
 |x::l,h,a,ha=>by
  rw[nE]at h;rw[kU]at ha
  rcases iF.1 ha with ha|ha
  ·exact atT C note tt x h.1 a ha
  exact afl C note tt l h.2 a ha
end
theorem atL{C:bG}{body note:Bool}{tt:Int}{l:List ah}(h:fF C body note tt l):(∀a∈cB 0 0 l,1<=a.id∧a.id<=1073741824)∧∀a∈cB 0 0 l,1<=a.code :=
 ⟨fun a ha=>(Ph C body note tt 0 0 l h a ha).1,fun a ha=>(Ph C body note tt 0 0 l h a ha).2⟩
end Go.Proofs.YtdgnnpjijhafaaaGreat
