/-
  What the claim stands on, part 6: Mck Mid Mhd Mow Ubf Mro Mfl Sms13 Par It Div Nrm Pas L14 L14b L14c L14d L14e Sl Txt Sec Pth Kt K14 K14b Sml Mdk Vis Frs K13 Kn13.
-/
import Derived.Test.YtdacibabefnabaaGreatWke
namespace Go.Proofs.YtdacibabefnabaaGreat
open Go.Proofs.Tryz
section
open Go.RowKit
theorem Js:dV prog 75 0 0:=⟨by kernel_rfl⟩
abbrev iZ (D:jS) (b:Nat) (v:ak) (n:Int):Nat × Obj:=(b,.cells #[aK D.f,aK D.p,vi D.ins,vi D.move,aK D.d,aK D.y,aK D.r,aK D.s1,aK D.s2,aK D.s3,aK D.s4,v,.slice none 0 0,vi n] 75 (0,0))
structure Cj (G:GH) (D:jS) (st:List bL) (li:List dH) (rv:List dh):Prop where
 sty:au G (.sl 6 (st.map bL.dat)) (aK D.s1)
 yw:au G (.sl 2 (li.map dH.dat)) (aK D.s2)
 rev:au G (.sl 3 (rv.map dh.dat)) (aK D.r)
theorem Cj.mono {G G':GH} {D:jS} {st:List bL} {li:List dH} {rv:List dh} (h:Cj G D st li rv) (hm:∀ b o,G b=some o→G' b=some o):Cj G' D st li rv:=⟨h.sty.mono hm,h.yw.mono hm,h.rev.mono hm⟩
structure Gy (st:List bL) (li:List dH) (rv:List dh):Prop where
 fr:Ab (st.map bL.id)
 sn:st.length≤4294967296
 ln:li.length≤4294967296
 rn:rv.length≤4294967296
theorem akm {G:GH} {r:List Int} {A:Option Addr} {n c k:Nat} (hv:au G (.sl 1 (r.map fun k=>[li k])) (.slice A n c)) (hk:k < r.length):∃ b o,A=some ⟨b,o,none⟩∧aF G b (o+k*1)=some (vi r[k]):=by
 obtain ⟨A',c',he,-,-,hg⟩:=hv.slice
 injection he with e1 e2 e3
 subst e1;obtain ⟨b,o,cs,h1,h2,h3,h4⟩:=hg k [li r[k]] (by simp [hk]);obtain ⟨v1,_,rfl,⟨rfl,-⟩,rfl⟩:∃ v vs,cs=v :: vs∧au G (li r[k]) v∧bH G [] vs:=h4;exact ⟨b,o,h1,by simpa using h3 0 _ rfl⟩
theorem Ux {α:Type} {l:List α} {x:α} {k:Nat} (hk:l.length≤k) (h:x∉l.take k):x∉l:=by rwa [iH hk] at h
theorem Uy {α:Type} {l:List α} {x:α} {k:Nat} (hk:k < l.length) (h:x∉l.take k) (hn:¬ l[k]=x):x∉l.take (k+1):=by
 rw [iG hk,AZ,xI];exact fun h'=>h'.elim h fun e=>hn e.symm
theorem SV (G:GH) (w0:World) (hG:Hold G w0) (l:List Int) (v:ak) (hv:au G (.sl 1 (l.map fun k=>[li k])) v) (x:Int) :
  Calls prog 145 #[v,vi x] w0 (bJ w0 G fun u G'=>u=.bool (decide (x∈l))∧G=G'):=by
 obtain ⟨A,c,rfl,hc1,hc2,-⟩:=hv.slice;have hml:maxLen=9223372036854775807:=rfl;rw [bV] at *;refine eN [(0,_),(1,_)] func145 rfl ntmps145 rfl rfl hG ?_;intro a H;refine kP H (SR fun _ K1=>aj K1 rfl (SQ fun _ K2=>SR fun _ K3=>aj K3 rfl (SB ?_)));clear H K1 K3;intro a H;skip;refine eH (ι:=Nat) (Tc:=[(0,_),(1,_)]) (Lc:=[]) (fun gh=>[(5,vi gh)]) (fun gh=>[]) (fun gh=>G) (fun gh=>gh≤l.length∧x∉l.take gh) (fun gh=>l.length - gh) (0) (by exact (H).sub ⟨rfl,rfl,rfl,aC⟩) ?_ ?_
 ·exact ⟨iF _,by simp⟩
 clear H;intro gh a w hI H;obtain ⟨k,hgh⟩:∃ x,x=gh:=⟨_,rfl⟩;subst hgh;obtain ⟨hk,he⟩:=hI;dsimp only [lca,aV] at H;refine kP H (SQ fun _ K4=>SR fun _ K5=>Rm rfl (Rm rfl (Rl rW rfl (Rc rfl (Kz K5 (Cd rfl ?_ ?_)))))) <;> clear H K5
 ·intro h9 a H
  try have p9:=dT h9
  have hk2:k < l.length:=by omega
  obtain ⟨b,o,rfl,hcell⟩:=akm hv hk2;refine kP H (Kc K4 (SQ fun _ K6=>SB (SR fun _ K7=>Rm rfl (Rm rfl (Ri rW aD rfl rfl (Rg aD rfl hcell (Rm rfl (Rc rfl (Kz K7 (Cd rfl ?_ ?_)))))))))) <;> clear H K4 K7
  ·intro bX a H
   try have kQ:=dT bX
   exact kP H (SR fun _ K8=>aj K8 rfl (LR results145 rfl fun H=>H.rt ⟨aL (gW (kQ ▸ jW hk2)).symm,rfl⟩))
  intro bX a H
  try have kQ:=dF bX
  refine kP H (Kc K6 (SC (Rm rfl (Rd rfl (Ra rfl ?_)))));clear H K6;intro a H;refine aH ?_;refine dK ((k+1)) (by exact (H).sub ⟨rfl,rfl,rfl,aC⟩) ?_ ?_
  ·exact ⟨by omega,Uy hk2 he kQ⟩
  first|omega|(dsimp only;omega)
 intro h9 a H
 try have p9:=dF h9
 refine dW ?_;refine K2 _ _ ?_;clear K2;exact kP H (SR fun _ K9=>aj K9 rfl (LR results145 rfl fun H=>H.rt ⟨aL (fZ (Ux (by omega) he)).symm,rfl⟩))
theorem Uw (G:GH) (w0:World) (hG:Hold G w0) (D:jS) (st:List bL) (li:List dH) (rv:List dh) (b:Nat) (v:ak) (n:Int) (hk:Cj G D st li rv) (hz:Gy st li rv) (hb:G b=some (iZ D b v n).2) (x:Int) :
  Calls prog 80 #[(aM b 0),vi x] w0 (bJ w0 G fun u G'=>u=.bool (decide (x∈rv.map dh.id))∧G=G'):=by
 have hc6:aF G b 6=some (aK D.r):=by unfold aF;rw [hb];rfl
 have mU:=hk.rev
 generalize aK D.r=v6 at hc6 mU
 obtain ⟨A,c,rfl,hc1,hc2,-⟩:=mU.slice;have hrn:=hz.rn;rw [bV] at *;refine eN [(0,_),(1,_)] func80 rfl ntmps80 rfl rfl hG ?_;intro a H;refine kP H (SR fun _ K1=>aj K1 rfl (SQ fun _ K2=>SR fun _ K3=>aj K3 rfl (SB ?_)));clear H K1 K3;intro a H;skip;refine eH (ι:=Nat) (Tc:=[(0,_),(1,_)]) (Lc:=[]) (fun gh=>[(5,vi gh)]) (fun gh=>[]) (fun gh=>G) (fun gh=>gh≤rv.length∧x∉(rv.map dh.id).take gh) (fun gh=>rv.length - gh) (0) (by exact (H).sub ⟨rfl,rfl,rfl,aC⟩) ?_ ?_
 ·exact ⟨iF _,by simp⟩
 clear H;intro gh a w hI H;obtain ⟨k,hgh⟩:∃ x,x=gh:=⟨_,rfl⟩;subst hgh;obtain ⟨hk,he⟩:=hI;dsimp only [lca,aV] at H;refine kP H (SQ fun _ K4=>SR fun _ K5=>Rm rfl (Rm rfl (Rk rfl (Rf Js rfl (Rf qM rfl (Rg ow rfl hc6 (Rl mH rfl (Rc rfl (Kz K5 (Cd rfl ?_ ?_)))))))))) <;> clear H K5
 ·intro gG a H
  try have rR:=dT gG
  have hk2:k < rv.length:=by omega
  obtain ⟨b',o,rfl,hrow⟩:=JY mU hk2;have hcell:=hrow 0 _ rfl;refine kP H (Kc K4 (SQ fun _ K6=>SB (SR fun _ K7=>Rm rfl (Rk rfl (Rf Js rfl (Rf qM rfl (Rg ow rfl hc6 (Rm rfl (Ri mH nV rfl rfl (Rf Lg rfl (Rg aD rfl (by assumption) ?_)))))))))));clear H K4;intro a H;refine kH H (Rm rfl (Rc rfl (Kz K7 (Cd rfl ?_ ?_)))) <;> clear H K7
  ·intro fI a H
   try have p26:=dT fI
   exact kP H (SR fun _ K8=>aj K8 rfl (LR results80 rfl fun H=>H.rt ⟨aL (gW (List.mem_map.2 ⟨_,jW hk2,p26⟩)).symm,rfl⟩))
  intro fI a H
  try have p26:=dF fI
  refine kP H (Kc K6 (SC (Rm rfl (Rd rfl (Ra rfl ?_)))));clear H K6;intro a H;refine aH ?_;refine dK ((k+1)) (by exact (H).sub ⟨rfl,rfl,rfl,aC⟩) ?_ ?_
  ·exact ⟨by omega,Uy (l:=rv.map dh.id) (by simpa using hk2) he (by simpa using p26)⟩
  first|omega|(dsimp only;omega)
 intro gG a H
 try have rR:=dF gG
 refine dW ?_;refine K2 _ _ ?_;clear K2;exact kP H (SR fun _ K9=>aj K9 rfl (LR results80 rfl fun H=>H.rt ⟨aL (fZ (Ux (by simp;omega) he)).symm,rfl⟩))
theorem ahH {l:List bL} (f:Ab (l.map bL.id)) {i j:Nat} (hi:i < l.length) (hj:j < l.length) (h:l[i].id=l[j].id):i=j:=by
 rcases Nat.lt_trichotomy i j with c|c|c
 ·have:=f j (by simpa using hj);exact absurd (List.mem_take_iff_getElem.2 ⟨i,by simp;omega,by simpa using h⟩) this
 ·exact c
 have:=f i (by simpa using hi);exact absurd (List.mem_take_iff_getElem.2 ⟨j,by simp;omega,by simpa using h.symm⟩) this
theorem anu {l:List bL} (f:Ab (l.map bL.id)) {x:Int} {k:Nat} (hk:k < l.length) (h:l[k].id=x):Et l x=l[k].kind:=by
 unfold Et
 cases e:l.find? fun s=>decide (s.id=x) with
 | none=>exact absurd (List.find?_eq_none.1 e _ (jW hk)) (by simpa using h)
 | some s =>
  obtain ⟨j,hj,rfl⟩:=List.getElem_of_mem (List.mem_of_find?_eq_some e);have h2:=List.find?_some e;have:=ahH f hj hk (by rw [h];simpa using h2);subst this
  rfl
theorem anv {l:List bL} {x K:Int} (hK:K≠0) (h:∀ j (hj:j < l.length),¬ (l[j].id=x∧l[j].kind=K)):Et l x≠K:=by
 unfold Et
 cases e:l.find? fun s=>decide (s.id=x) with
 | none=>exact fun h'=>hK h'.symm
 | some s =>
  obtain ⟨j,hj,rfl⟩:=List.getElem_of_mem (List.mem_of_find?_eq_some e);have h2:=List.find?_some e;exact fun h'=>h j hj ⟨by simpa using h2,h'⟩
theorem Mt (G:GH) (w0:World) (hG:Hold G w0) (D:jS) (st:List bL) (li:List dH) (rv:List dh) (b:Nat) (v:ak) (n:Int) (hk:Cj G D st li rv) (hz:Gy st li rv) (hb:G b=some (iZ D b v n).2) (key x:Int) :
  Calls prog 79 #[(aM b 0),vi key,vi x] w0 (bJ w0 G fun u G'=>u=vi (lq st (li.map dH.id) key x)∧G=G'):=by
 have Ou:aF G b 7=some (aK D.s1):=by unfold aF;rw [hb];rfl
 have hc8:aF G b 8=some (aK D.s2):=by unfold aF;rw [hb];rfl
 have hst:=hk.sty;have wS:=hk.yw
 generalize aK D.s1=v7 at Ou hst
 generalize aK D.s2=v8 at hc8 wS
 obtain ⟨A,c,rfl,hc1,hc2,-⟩:=hst.slice;obtain ⟨B,d,rfl,hd1,hd2,-⟩:=wS.slice;have hsn:=hz.sn;have hln:=hz.ln;rw [bV] at *;refine eN [(0,_),(1,_),(2,_)] func79 rfl ntmps79 rfl rfl hG ?_;intro a H;refine kP H (SR fun _ K1=>aj K1 rfl (SQ fun _ K2=>SR fun _ K3=>Rm rfl (Rc rfl (Kz K3 (Cd rfl ?_ ?_))))) <;> clear H K1 K3
 ·intro h12 a H
  try have pF:=dT h12
  exact kP H (SR fun _ K4=>aj K4 rfl (LR results79 rfl fun H=>H.rt ⟨aB vi (by rw [pF];unfold lq;simp [bQ]),rfl⟩))
 intro h12 a H
 try have pF:=dF h12
 refine kP H (Kc K2 (SQ fun _ K5=>SR fun _ K6=>Rm rfl (Kz K6 (SB ?_))));clear H K2 K6;intro a H;refine qL (ι:=Bool) (Tc:=[(0,_),(1,_),(2,_),(13,_)]) (Lc:=[]) (fun gh=>[(14,.bool gh)]) (fun gh=>[]) (fun gh=>G) (fun gh=>gh=decide (key=20∨key=1)) (by exact (H).sub ⟨rfl,rfl,rfl,rfl,aC⟩) ?_ ?_
 ·skip;refine kP H (SR fun _ K7=>Rc rfl (aj K7 rfl (Cd rfl ?_ ?_))) <;> clear H K7
  ·intro dM a H
   try have jH:=dT dM
   refine fu ?_;refine ⟨decide (key=20),by exact (H).sub ⟨rfl,rfl,rfl,rfl,rfl,aC⟩,?_⟩
   simp_all
  intro dM a H
  try have jH:=dF dM
  refine kP H (SC (Rc rfl (Ra rfl ?_)));clear H;intro a H;refine aH ?_;refine ⟨decide (key=1),by exact (H).sub ⟨rfl,rfl,rfl,rfl,rfl,aC⟩,?_⟩
  simp_all
 clear H;intro gh a w hI H;obtain ⟨q,hgh⟩:∃ x,x=gh:=⟨_,rfl⟩;subst hgh;subst hI;dsimp only [lca,aV] at H;refine jX H rfl ?_ ?_
 ·intro dM
  try have jH:=dT dM
  refine kP H (SR fun _ K8=>aj K8 rfl ?_);clear H K8;intro a H;refine qL (ι:=Int) (Tc:=[(0,_),(2,_)]) (Lc:=[]) (fun gh=>[(7,vi gh)]) (fun gh=>[]) (fun gh=>G) (fun gh=>(key=20∨key=1)∧gh=(if key=1 then 2 else 1)) (by exact (H).sub ⟨rfl,rfl,aC⟩) ?_ ?_
  ·skip;refine kP H (SR fun _ K9=>Rm rfl (Rc rfl (Kz K9 (Cd rfl ?_ ?_)))) <;> clear H K9
   ·intro h18 a H
    try have pG:=dT h18
    refine kP H (SC (Ra rfl ?_));clear H;intro a H;refine aH ?_;refine ⟨2,by exact (H).sub ⟨rfl,rfl,rfl,aC⟩,?_⟩;exact ⟨jH,by first|exact (av (by omega)).symm|exact (ah (by omega)).symm⟩
   intro h18 a H
   try have pG:=dF h18
   refine fu ?_;refine ⟨1,by exact (H).sub ⟨rfl,rfl,rfl,aC⟩,?_⟩;exact ⟨jH,by first|exact (av (by omega)).symm|exact (ah (by omega)).symm⟩
  clear H;intro gh a w hI H;obtain ⟨kd,hgh⟩:∃ x,x=gh:=⟨_,rfl⟩;subst hgh;obtain ⟨hkk,hkd⟩:=hI
  have hE:lq st (li.map dH.id) key x=bQ (decide (x≠0∧Et st x≠kd)) 25:=by rw [lq,av hkk,hkd]
  dsimp only [lca,aV] at H;refine kP H (SQ fun _ aT=>SR fun _ bB=>aj bB rfl (SB ?_));clear H bB;intro a H;skip;refine eH (ι:=Nat) (Tc:=[(0,_),(2,_),(7,_)]) (Lc:=[]) (fun gh=>[(8,vi gh)]) (fun gh=>[]) (fun gh=>G) (fun gh=>gh≤st.length∧∀ j (hj:j < st.length),j < gh→¬ (st[j].id=x∧st[j].kind=kd)) (fun gh=>st.length - gh) (0) (by exact (H).sub ⟨rfl,rfl,rfl,rfl,aC⟩) ?_ ?_
  ·exact ⟨iF _,fun j _ h=>absurd h (by omega)⟩
  clear H;intro gh a w hI H;obtain ⟨k,hgh⟩:∃ x,x=gh:=⟨_,rfl⟩;subst hgh;obtain ⟨hk,he⟩:=hI;dsimp only [lca,aV] at H;refine kP H (SQ fun _ bC=>SR fun _ bK=>Rm rfl (Rm rfl (Rk rfl (Rf Js rfl (Rf xQ rfl (Rf vI rfl (Rg nu rfl Ou (Rl ko rfl (Rc rfl (Kz bK (Cd rfl ?_ ?_))))))))))) <;> clear H bK
  ·intro h27 a H
   try have p27:=dT h27
   have hk2:k < st.length:=by omega
   obtain ⟨b',o,pA,pc,rfl,hrow,-,-⟩:=BZ hst hk2;refine kP H (Kc bC (SQ fun _ bP=>SB (SR fun _ dx=>Rm rfl (Rk rfl (Rf Js rfl (Rf xQ rfl (Rf vI rfl (Rg nu rfl Ou (Rm rfl (Ri ko iR rfl rfl ?_))))))))));clear H bC;intro a H;refine aW iR (cs:=[_,_,_,_,_,_]) H wn rfl rfl (fun j v hj=>H.hp.aF (hrow j v hj)) rfl ?_;clear H;intro a H;refine dU iR H wn rfl ?_;clear H;intro b9 a w rH H;refine bN iR 0 (vs:=[_,_,_,_,_,_]) _ H wn rfl rfl rfl rfl rfl rfl rfl rfl ?_;clear H;intro w H;dsimp only [List.set,setRow] at H;refine dx _ _ ?_;clear dx;refine kP H (SR fun _ dP=>bg uK aD 0 rfl rfl (Rm rfl (Rc rfl (Rm rfl (Sp 43 rfl ?_ ?_))))) <;> clear H
   ·intro h43 a H
    try have p43:=dT h43
    refine kH H (YF wH h43 rfl (YO aD 0 h43 rfl (YM h43 rfl (YC h43 rfl (Pt h43 rfl (Kz dP (Cd rfl ?_ ?_))))))) <;> clear H dP
    ·intro h48 a H
     try have p48:=dT h48
     exact kP H (SR fun _ dB=>aj dB rfl (LR results79 rfl fun H=>H.rt ⟨aB vi (by rw [hE,anu hz.fr hk2 p43];simp [bQ,p48]),rfl⟩))
    intro h48 a H
    try have p48:=dF h48
    refine kP H (Kc bP (SC (Rm rfl (Rd rfl (Ra rfl ?_)))));clear H bP;intro a H;refine aH ?_;refine dK ((k+1)) (by exact (H.dS (Pl:=[_]) (dL:=[]) [] (by decide) rfl).sub ⟨rfl,rfl,rfl,rfl,aC⟩) ?_ ?_
    ·exact ⟨by omega,fun j hj h=>by
     by_cases e:j=k
     ·subst e;first|exact fun h'=>p48 h'.2|exact fun h'=>p43 h'.1
     exact he j hj (by omega)⟩
    first|omega|(dsimp only;omega)
   intro h43 a H
   try have p43:=dF h43
   refine kH H (aN h43 rfl (aN h43 rfl (Pf h43 rfl (Kz dP (Cf rfl rfl (Kc bP (SC (Rm rfl (Rd rfl (Ra rfl ?_))))))))));clear H dP bP;intro a H;refine aH ?_;refine dK ((k+1)) (by exact (H.dS (Pl:=[_]) (dL:=[]) [] (by decide) rfl).sub ⟨rfl,rfl,rfl,rfl,aC⟩) ?_ ?_
   ·exact ⟨by omega,fun j hj h=>by
    by_cases e:j=k
    ·subst e;first|exact fun h'=>p48 h'.2|exact fun h'=>p43 h'.1
    exact he j hj (by omega)⟩
   first|omega|(dsimp only;omega)
  intro h27 a H
  try have p27:=dF h27
  refine dW ?_;refine aT _ _ ?_;clear aT;refine kP H (SR fun _ dY=>aj dY rfl ?_);clear H dY;intro a H;refine lr H results79 rfl ?_
  exact H.rt ⟨aB vi (by rw [hE,bQ,av (gW ⟨pF,anv (by rw [hkd];split <;> decide) fun j hj=>he j hj (by omega)⟩)]),rfl⟩
 intro dM
 try have jH:=dF dM
 refine kP H (SR fun _ eP=>Rc rfl (aj eP rfl (Cd rfl ?_ ?_))) <;> clear H eP
 ·intro qx a H
  try have p49:=dT qx
  refine kP H (SQ fun _ dZ=>SR fun _ eU=>aj eU rfl (SB ?_));clear H eU;intro a H;skip;refine eH (ι:=Nat) (Tc:=[(0,_),(2,_)]) (Lc:=[]) (fun gh=>[(10,vi gh)]) (fun gh=>[]) (fun gh=>G) (fun gh=>gh≤li.length∧x∉(li.map dH.id).take gh) (fun gh=>li.length - gh) (0) (by exact (H).sub ⟨rfl,rfl,rfl,aC⟩) ?_ ?_
  ·exact ⟨iF _,by simp⟩
  clear H;intro gh a w hI H;obtain ⟨k,hgh⟩:∃ x,x=gh:=⟨_,rfl⟩;subst hgh;obtain ⟨hk,he⟩:=hI;dsimp only [lca,aV] at H;refine kP H (SQ fun _ fK=>SR fun _ gM=>Rm rfl (Rm rfl (Rk rfl (Rf Js rfl (Rf xQ rfl (Rf lX rfl (Rg kR rfl hc8 (Rl jE rfl (Rc rfl (Kz gM (Cd rfl ?_ ?_))))))))))) <;> clear H gM
  ·intro jl a H
   try have p59:=dT jl
   have hk2:k < li.length:=by omega
   obtain ⟨b',o,B',d',rfl,hrow,-⟩:=Ik wS hk2;have hcell:=hrow 0 _ rfl;refine kP H (Kc fK (SQ fun _ iC=>SB (SR fun _ gu=>Rm rfl (Rk rfl (Rf Js rfl (Rf xQ rfl (Rf lX rfl (Rg kR rfl hc8 (Rm rfl (Ri jE jR rfl rfl (Rf zl rfl (Rg aD rfl (by assumption) ?_))))))))))));clear H fK;intro a H;refine kH H (Rm rfl (Rc rfl (Kz gu (Cd rfl ?_ ?_)))) <;> clear H gu
   ·intro kW a H
    try have p73:=dT kW
    exact kP H (SR fun _ iX=>aj iX rfl (LR results79 rfl fun H=>H.rt ⟨aB vi (by rw [lq,ah (by omega),av p49,bQ,ah (by simpa using fun _=>⟨_,jW hk2,p73⟩)]),rfl⟩))
   intro kW a H
   try have p73:=dF kW
   refine kP H (Kc iC (SC (Rm rfl (Rd rfl (Ra rfl ?_)))));clear H iC;intro a H;refine aH ?_;refine dK ((k+1)) (by exact (H).sub ⟨rfl,rfl,rfl,aC⟩) ?_ ?_
   ·exact ⟨by omega,Uy (l:=li.map dH.id) (by simpa using hk2) he (by simpa using p73)⟩
   first|omega|(dsimp only;omega)
  intro jl a H
  try have p59:=dF jl
  refine dW ?_;refine dZ _ _ ?_;clear dZ;exact kP H (SR fun _ jo=>aj jo rfl (LR results79 rfl fun H=>H.rt ⟨aB vi (by rw [lq,ah (by omega),av p49,bQ,av (gW ⟨pF,Ux (by simp;omega) he⟩)]),rfl⟩))
 intro qx a H
 try have p49:=dF qx
 exact kP H (Kc K5 (SR fun _ iN=>aj iN rfl (LR results79 rfl fun H=>H.rt ⟨aB vi (by rw [lq,ah (by omega),ah p49]),rfl⟩)))
end
section
open Go.RowKit
theorem Xw:∀ args w,(callFunc 145 args).run prog w=.ok (.enter 145 args) w:=enters func145 rfl (by kernel_rfl)
theorem ahs:dV prog 75 2 12:=⟨by kernel_rfl⟩
theorem FI:Ty prog 61 1 24 [.slice none 0 0] false:=⟨by kernel_rfl,by kernel_rfl⟩
theorem RD:dV prog 75 1 11:=⟨by kernel_rfl⟩
def xD (v:ak) (bG:List Int) (L L0:OL):Prop:=∃ Lo,L=L0++Lo∧dO 3 1 v bG.length (bG.map vi) Lo
theorem aiq (G:GH) (Lo:OL) (w0:World) (l:List Int) (v:ak) (hr:dO 3 1 v l.length (l.map vi) Lo) (hO:ig G Lo w0) (x:Int) :
  Calls prog 145 #[v,vi x] w0 (gy w0 G Lo fun u G' L'=>G=G'∧L'=Lo∧u=.bool (decide (x∈l))):=by
 rcases hr.2 with ⟨rfl,hn,rfl⟩|⟨b,cap,cur,rfl,rfl,h1,h2,h3,h4⟩
 ·obtain rfl:l=[]:=List.length_eq_zero_iff.1 hn;refine (SV G w0 hO.ro [] _ (au.kg rfl (by decide)) x).mono fun _ _ h=>?_;obtain ⟨u,G',L',rfl,hc,rfl,rfl,rfl⟩:=Hp.ama hO.ro h;exact ⟨_,_,_,rfl,hc,rfl,rfl,rfl⟩
 have hm:=GH.GD G (o:=.cells cur 3 (0,0)) (hO.sep _ lW);exact (SV (G.add b (.cells cur 3 (0,0))) w0 hO.add l _ (au.fF (GH.I6 _ _ _) (by simp) h1 h2 h4 (fU _ l)) x).mono fun _ _=>U5 (b:=b) (R':=fun u=>u=.bool (decide (x∈l))) hO fun _ _ h=>h.1
theorem aaf (G:GH) (L L0:OL) (w0:World) (D:jS) (b:Nat) (v:ak) (s:CS) (x:Int) (hi:xD v s.bG L L0) (hO:ig G (iZ D b v s.n :: L) w0) (hn:s.bG.length < 1099511627776) :
  Calls prog 85 #[(aM b 0),vi x] w0 (gy w0 G (iZ D b v s.n :: L) fun u G' L'=>G=G'∧∃ v' L1,u=vi (jZ s x).1∧L'=iZ D b v' s.n :: L1∧xD v' (jZ s x).2.bG L1 L0):=by
 obtain ⟨Lo,rfl,hr⟩:=hi;obtain ⟨vA,vc,rfl,-,-⟩:=hr.shape;obtain ⟨n,bG⟩:=s;dsimp only at hr hO hn ⊢;have hml:maxLen=9223372036854775807:=rfl;refine jB (N:=37) (T:=[(0,_),(1,_)]) func85 rfl ntmps85 rfl rfl hO ?_;intro a H;refine kP H (SR fun _ K1=>aj K1 rfl (SQ fun _ K2=>SB (SR fun _ K3=>Rm rfl (Rc rfl (Rm rfl (Sp 8 rfl ?_ ?_)))))) <;> clear H K1
 ·intro h8 a H
  try have p8:=dT h8
  refine kH H (aN h8 rfl (Pt h8 rfl (Rm rfl (aQ rfl rfl (aQ rfl rfl (Pt rfl rfl (aj K3 rfl (Ct rfl rfl (SR fun _ K4=>aj K4 rfl ?_)))))))));clear H K3 K4;intro a H;refine lr H results85 rfl ?_
  have e:oK bG x=18:=by rw [oK,av (by omega)]
  exact H.hp.eB ⟨rfl,_,_,aB vi e.symm,rfl,by show xD _ (jU bG x) _ _;rw [jU,ah (by rw [e];decide)];exact ⟨Lo,rfl,hr⟩⟩
 intro h8 a H
 try have p8:=dF h8
 refine kH H (YM h8 rfl (YC h8 rfl (Pf h8 rfl (Rm rfl (Sp 12 rfl ?_ ?_))))) <;> clear H
 ·intro h12 a H
  try have pF:=dT h12
  refine kH H (aQ h12 rfl (aQ h12 rfl (Pt h12 rfl (aj K3 rfl (Ct rfl rfl (SR fun _ K5=>aj K5 rfl ?_))))));clear H K3 K5;intro a H;refine lr H results85 rfl ?_
  have e:oK bG x=18:=by rw [oK,av (by omega)]
  exact H.hp.eB ⟨rfl,_,_,aB vi e.symm,rfl,by show xD _ (jU bG x) _ _;rw [jU,ah (by rw [e];decide)];exact ⟨Lo,rfl,hr⟩⟩
 intro h12 a H
 try have pF:=dF h12
 refine kH H (YM h12 rfl ?_);clear H;intro a H;refine uU H (wg H rfl rfl h12) rfl rfl ?_;clear H;intro a H;refine kH H (YF ahs h12 rfl (YO FI 0 h12 rfl (YM h12 rfl ?_)));clear H;intro a H;refine s_call Xw H (wg H rfl rfl h12) rfl (SV _ _ H.ro [] _ (au.kg rfl (by decide)) x) rfl ?_;clear H;rintro v18 _ a w ⟨rfl,rfl⟩ - H;refine kH H (Pf h12 rfl (aj K3 rfl (Cd rfl ?_ ?_))) <;> clear H K3
 ·intro h5 a H
  try have p5:=dT h5
  exact kP H (SR fun _ K6=>aj K6 rfl (LR results85 rfl fun H=>absurd p5 (by simp)))
 intro h5 a H
 try have p5:=dF h5
 refine kP H (SR fun _ K7=>Rm rfl (Rk rfl (bg RD FI 0 rfl rfl (Rm rfl ?_))));clear H;intro a H;refine gB Xw (Li:=_ :: L0) (L:=Lo) H wn rfl (aiq _ _ _ bG _ hr (Hp.owns (Li:=_ :: L0) H.hp) x) rfl ?_;clear H;rintro v26 _ Lo a w ⟨rfl,rfl,rfl⟩ - H;refine kH H (aj K7 rfl (Cd rfl ?_ ?_)) <;> clear H K7
 ·intro h20 a H
  try have qW:=dT h20
  refine kP H (SR fun _ K8=>aj K8 rfl ?_);clear H K8;intro a H;refine lr H results85 rfl ?_
  have e:oK bG x=7:=by rw [oK,ah (by omega),av qW]
  exact H.hp.eB ⟨rfl,_,_,aB vi e.symm,rfl,by show xD _ (jU bG x) _ _;rw [jU,ah (by rw [e];decide)];exact ⟨Lo,rfl,hr⟩⟩
 intro h20 a H
 try have qW:=dF h20
 refine kP H (Kc K2 (SR fun _ K9=>Rm rfl (Rm rfl (Rk rfl (bg RD FI 0 rfl rfl (Rm rfl ?_))))));clear H K2;intro a H;refine jJ rW aD [_] [_] H wn rfl rfl rfl rfl rfl (by intro i q h;match i,h with|0,h=>exact h|n+1,h=>simp at h) rfl rfl ?_;clear H;intro b33 a w YA H;refine tX (Li:=_ :: _ :: L0) (Lo:=Lo) (news:=[vi x]) rW aD rfl rfl H wn rfl rfl hr rfl (H.hp.dX 0 rfl rfl) rfl (by omega) (by omega) rfl ?_;clear H;intro v34 Wx a w Zk H;obtain ⟨FU,c34,rfl,-,-⟩:=Zk.shape;refine kH H (Rk rfl (Rf RD rfl ?_));clear H;intro a H;refine bN FI 1 (vs:=[_]) _ H wn rfl rfl rfl rfl rfl rfl rfl rfl ?_;clear H;intro w H;dsimp only [List.set,setRow] at H;refine K9 _ _ ?_;clear K9;refine kP H (SR fun _ aT=>aj aT rfl ?_);clear H aT;intro a H;refine lr H results85 rfl ?_
 have e:oK bG x=0:=by rw [oK,ah (by omega),ah qW]
 exact H.hp.cK (L':=iZ D b _ n :: (L0++Wx)) (by repeat (first|exact cO _|apply List.Sublist.cons|apply List.Sublist.cons₂)) ⟨rfl,_,_,aB vi e.symm,rfl,by show xD _ (jU bG x) _ _;rw [jU,av e];exact ⟨Wx,rfl,by simpa using Zk⟩⟩
end
section
open Go.RowKit
theorem KU:∀ args w,(callFunc 79 args).run prog w=.ok (.enter 79 args) w:=enters func79 rfl (by kernel_rfl)
theorem Ry:∀ args w,(callFunc 80 args).run prog w=.ok (.enter 80 args) w:=enters func80 rfl (by kernel_rfl)
set_option maxHeartbeats 8000000 in
theorem akV (G:GH) (w0:World) (hG:Hold G w0) (D:jS) (st:List bL) (li:List dH) (rv:List dh) (b:Nat) (v:ak) (n:Int) (hck:Cj G D st li rv) (hmz:Gy st li rv) (hb:G b=some (iZ D b v n).2)
  (e:Int) (h:jm) (p d l:ak) (hh:ku G h p d l) (hz:pJ h≤4294967296) :
  Calls prog 29 #[(aM b 0),vi e,zD h p d l] w0 (bJ w0 G fun u G'=>u=vi (fP (aP st li rv) e h)):=by
 obtain ⟨pA,pc,rfl,-,-,-⟩:=hh.props.slice;obtain ⟨dA,dc,rfl,-,-,-⟩:=hh.bR.slice;obtain ⟨lA,lc,rfl,-,-,-⟩:=hh.layers.slice;have hml:maxLen=9223372036854775807:=rfl;have hzz:=Cc h;have hz1:=mO (h.props.map gV.dat);have hz2:=mO (h.marks.bR.map jV.dat);have hz3:=mO (h.marks.layers.map jK.dat)
 simp only [bV] at hh hz1 hz2 hz3 ⊢
 generalize pJ h=zz at hz hzz
 refine eN [(0,_),(1,_),(2,_)] func29 rfl ntmps29 rfl rfl hG ?_;intro a H;refine dw (fun _ K1=>?_);refine eD (cs:=[_,_,_,_,_]) H wn rfl rfl rfl ?_;clear H;intro b5 a w hb5 H;refine kH H (aj K1 rfl (SQ fun _ K2=>SQ fun _ K3=>?_));clear H K1;intro a H;obtain ⟨Ga,hma,zC,H⟩:=H.eG;replace hck:=hck.mono hma;replace hb:=hma _ _ hb;replace hh:=hh.mono hma
 have RQ:aF Ga b5 0=some (.slice pA h.props.length pc):=by unfold aF;rw [zC];rfl
 have RU:∀ (j:Nat) (u:ak),[vi h.marks.ins,vi h.marks.move,.slice dA h.marks.bR.length dc,.slice lA h.marks.layers.length lc][j]?=some u→aF Ga b5 (1+j)=some u:=by
  intro j u hj
  unfold aF;rw [zC]
  match j,hj with
  | 0,hj=>exact hj
  | 1,hj=>exact hj
  | 2,hj=>exact hj
  | 3,hj=>exact hj
  | n+4,hj=>simp at hj
 refine kP H (SC (Rm rfl (Rf xP rfl (Rg qY rfl RQ ?_))));clear H;intro a H;refine s_call Rx H wn rfl (EO (U2 _ _ H.ro e h.props _ hh.props)) rfl ?_;clear H;rintro v19 _ a w ⟨⟨_,rfl⟩,rfl⟩ - H;refine kH H (aO K3 rfl (SR fun _ K4=>Rm rfl (Rc rfl (Kz K4 (Cd rfl ?_ ?_))))) <;> clear H K3 K4
 ·intro h21 a H
  try have oM:=dT h21
  refine aS (fun _ K5=>?_);have hE:=YW (C:=aP st li rv) (e:=e) (h:=h) oM;exact kP H (SC (Rm rfl (aO K5 rfl (LR results29 rfl fun H=>H.rt (by rw [hE])))))
 intro h21 a H
 try have oM:=dF h21
 have e1:iU e h.props=0:=by simpa using oM
 refine kP H (Kc K2 (SQ fun _ K6=>SR fun _ K7=>aj K7 rfl (SB ?_)));clear H K2 K7;intro a H;skip;refine eH (ι:=Nat × GH) (Tc:=[(0,_),(1,_),(5,_)]) (Lc:=[]) (fun gh=>[(8,vi gh.1)]) (fun gh=>[]) (fun gh=>gh.2) (fun gh=>gh.1≤h.props.length∧bT ((h.props.map fun p=>lq st (li.map dH.id) p.key p.value).drop gh.1)=yF (aP st li rv) h.props∧∀ b o,Ga b=some o→gh.2 b=some o) (fun gh=>h.props.length - gh.1) ((0,Ga)) (by exact (H).sub ⟨rfl,rfl,rfl,rfl,aC⟩) ?_ ?_
 ·exact ⟨iF _,rfl,fun _ _ h=>h⟩
 clear H;intro gh a w hI H;obtain ⟨k,g⟩:=gh;dsimp only at hI H;obtain ⟨hk,heq,hgm⟩:=hI;have RS:=ay hgm RQ;have hh':=hh.mono hgm;dsimp only [lca,aV] at H;refine kP H (SQ fun _ K8=>SR fun _ K9=>Rm rfl (Rf xP rfl (Rg qY rfl RS (Rl nW rfl (Rc rfl (Kz K9 (Cd rfl ?_ ?_))))))) <;> clear H K9
 ·intro h27 a H
  try have p27:=dT h27
  have hk2:k < h.props.length:=by omega
  obtain ⟨xb,xo,rfl,hrow⟩:=MN hh'.props hk2;have r0:=hrow 0 _ rfl;have r1:=hrow 1 _ rfl;refine kP H (Kc K8 (SQ fun _ aT=>SB (SQ fun _ bB=>?_)));clear H K8;intro a H;refine dI hmx [[],[],[1],[],[1,2,3],(ra 1 4),(ra 1 5),[],[7],[],[7,8,9],(ra 7 4),(ra 7 5),(ra 0 13),(ra 0 14)] [14] (by kernel_rfl) [_,_,_,_,_,_,_,_,_,_,_,_,_,vi (lq st (li.map dH.id) h.props[k].key h.props[k].value)] H (aG (Z0 rfl (Rm rfl)) (Z0 rfl (Rf xP rfl)) (X1 1 31 rfl fun hG=>Rg qY rfl (ay hG RS)) (Z0 rfl (Rm rfl)) (aG (Z2 2 32 3 33 rfl (Ri nW oN rfl rfl)) (Z1 4 34 rfl (Rf xO rfl)) (X1 5 35 rfl fun hG=>Rg aD rfl (ay hG r0)) (Z0 rfl (Rf xP rfl)) (aG (X1 7 37 rfl fun hG=>Rg qY rfl (ay hG RS)) (Z0 rfl (Rm rfl)) (Z2 8 38 9 39 rfl (Ri nW oN rfl rfl)) (Z1 10 40 rfl (Rf RB rfl)) (bq (X1 11 41 rfl fun hG=>Rg aD rfl (ay hG r1)) (bq ?_ (bq (bY rfl) dD)))))) ?_
  ·refine rC 0 30 6 36 12 42 rfl rfl fun _ a w G1 hG HT H fin=>?_;refine s_call KU H wn rfl (Mt _ _ H.ro D st li rv b v n ((hck.mono hgm).mono hG) hmz (hG _ _ (hgm _ _ hb)) h.props[k].key h.props[k].value) rfl ?_;clear H;rintro v43 Dr a w ⟨rfl,-⟩ ahX H;exact fin H ahX (rfl)
  clear H;intro a w G LC H hv;have H:=H.aZ (hv 13 43 rfl rfl) rfl;clear hv;refine kH H (Ra rfl ?_);clear H;intro a H;refine aH ⟨rfl,?_⟩;refine bB _ _ ?_;clear bB;refine kP H (SR fun _ bC=>Rm rfl (Rc rfl (Kz bC (Cd rfl ?_ ?_)))) <;> clear H bC
  ·intro h45 a H
   try have p45:=dT h45
   refine aS (fun _ bK=>?_)
   have hr:yF (aP st li rv) h.props=lq st (li.map dH.id) h.props[k].key h.props[k].value:=by rw [← heq];exact (PS (C:=aP st li rv) hk2).trans (av p45)
   have hE:=(YX (C:=aP st li rv) (e:=e) (h:=h) e1 (by rw [hr];exact p45)).trans hr;exact kP H (SC (Rm rfl (aO bK rfl (LR results29 rfl fun H=>H.rt (by rw [hE])))))
  intro h45 a H
  try have p45:=dF h45
  refine kP H (Kc aT (SC (Rm rfl (Rd rfl (Ra rfl ?_)))));clear H aT;intro a H;refine aH ?_;refine dK ((k+1,G)) (by exact (H).sub ⟨rfl,rfl,rfl,rfl,aC⟩) ?_ ?_
  ·(try dsimp only);exact ⟨by omega,by rw [PS (C:=aP st li rv) hk2,ah (by simpa using p45)] at heq;exact heq,fun b o h=>LC b o (hgm b o h)⟩
  first|omega|(dsimp only;omega)
 intro h27 a H
 try have p27:=dF h27
 refine dW ?_;refine K6 _ _ ?_;clear K6;refine aS (fun _ bP=>?_)
 have e2:yF (aP st li rv) h.props=0:=by rw [← heq,iw (by rw [bV];omega)];rfl
 refine kP H (SC (Rf oW rfl ?_));clear H;intro a H;refine aW AU (cs:=[vi h.marks.ins,vi h.marks.move,.slice dA h.marks.bR.length dc,.slice lA h.marks.layers.length lc]) H wn rfl rfl (fun j v hj=>H.hp.aF (ay hgm (RU j v hj))) rfl ?_;clear H;intro a H;refine dU AU H wn rfl ?_;clear H;intro b10 a w Hq H;refine bN AU 0 (vs:=[_,_,_,_]) _ H wn rfl rfl rfl rfl rfl rfl rfl rfl ?_;clear H;intro w H;dsimp only [List.set,setRow] at H;obtain ⟨Gb,hmb,Oq,H⟩:=H.eG;have hgb:∀ b o,Ga b=some o→Gb b=some o:=fun b o h=>hmb b o (hgm b o h);replace hck:=hck.mono hgb;replace hb:=hgb _ _ hb;replace hh:=hh.mono hgb
 have q0:aF Gb b10 0=some (vi h.marks.ins):=by unfold aF;rw [Oq];rfl
 have q1:aF Gb b10 1=some (vi h.marks.move):=by unfold aF;rw [Oq];rfl
 have q2:aF Gb b10 2=some (.slice dA h.marks.bR.length dc):=by unfold aF;rw [Oq];rfl
 have q3:aF Gb b10 3=some (.slice lA h.marks.layers.length lc):=by unfold aF;rw [Oq];rfl
 refine aH ?_;refine bP _ _ ?_;clear bP;refine qL (ι:=Unit) (Tc:=[(0,_),(1,_),(10,_)]) (Lc:=[]) (fun gh=>[]) (fun gh=>[]) (fun gh=>Gb) (fun gh=>fV (aP st li rv) h.marks=0) (by exact (H).sub ⟨rfl,rfl,rfl,aC⟩) ?_ ?_
 ·skip;refine kP H (SB (SR fun _ dx=>Rf uL rfl (Rg aD rfl q0 (Rc rfl (Rm rfl (Sp 53 rfl ?_ ?_)))))) <;> clear H
  ·intro fC a H
   try have p53:=dT fC
   refine kH H (YM fC rfl (YF uL fC rfl (YR aD fC rfl q0 ?_)));clear H;intro a H;refine s_call Ry H (wg H rfl rfl fC) rfl (Uw _ _ H.ro D st li rv b v n hck hmz hb h.marks.ins) rfl ?_;clear H;rintro v57 _ a w ⟨rfl,rfl⟩ - H;refine kH H (YN fC rfl (Pt fC rfl (aj dx rfl (Cd rfl ?_ ?_)))) <;> clear H dx
   ·intro qx a H
    try have p49:=dT qx
    refine aS (fun _ dP=>?_);have e3:fV (aP st li rv) h.marks=22:=av (by first|(simp_all;done)|exact ⟨p52,by simpa using qx⟩);have hE:=(rJ (C:=aP st li rv) (e:=e) (h:=h) e1 e2 (by rw [e3];decide)).trans e3;exact kP H (SC (aO dP rfl (LR results29 rfl fun H=>H.rt (by rw [hE]))))
   intro qx a H
   try have p49:=dF qx
   refine aS (fun _ dB=>?_)
   have hno:¬ (h.marks.ins≠0∧h.marks.ins∉(aP st li rv).Dg):=by first|(simp_all;done)|exact fun h=>p52 h.1
   refine kP H (SC (Rf wI rfl (Rg aD rfl q1 (Rc rfl (Rm rfl (Sp 64 rfl ?_ ?_)))))) <;> clear H
   ·intro h64 a H
    try have p64:=dT h64
    refine kH H (aQ h64 rfl (Pt h64 rfl (Rm rfl (aN rfl rfl (aN rfl rfl (Ku rfl (Ku rfl (Ku rfl (Ks rfl rfl (Pt rfl rfl (aO dB rfl (Ct rfl rfl (SQ fun _ dY=>?_)))))))))))));clear H dB;intro a H
    have e3:fV (aP st li rv) h.marks=21:=by unfold fV;rw [ah hno,av (by first|(simp_all;done)|(simp_all;omega)|omega)]
    have hE:=(rJ (C:=aP st li rv) (e:=e) (h:=h) e1 e2 (by rw [e3];decide)).trans e3;exact kP H (SC (aO dY rfl (LR results29 rfl fun H=>H.rt (by rw [hE]))))
   intro h64 a H
   try have p64:=dF h64
   refine kH H (YF wI h64 rfl (YR aD h64 rfl q1 (YC h64 rfl (Pf h64 rfl (Rm rfl (Sp 69 rfl ?_ ?_)))))) <;> clear H
   ·intro gY a H
    try have p69:=dT gY
    refine kH H (aN gY rfl (aN gY rfl (Ku rfl (Ku rfl (Ku rfl (Ks gY rfl (Pt gY rfl (aO dB rfl (Ct rfl rfl (SQ fun _ eP=>?_))))))))));clear H dB;intro a H
    have e3:fV (aP st li rv) h.marks=21:=by unfold fV;rw [ah hno,av (by first|(simp_all;done)|(simp_all;omega)|omega)]
    have hE:=(rJ (C:=aP st li rv) (e:=e) (h:=h) e1 e2 (by rw [e3];decide)).trans e3;exact kP H (SC (aO eP rfl (LR results29 rfl fun H=>H.rt (by rw [hE]))))
   intro gY a H
   try have p69:=dF gY
   refine kH H (YF wI gY rfl (YR aD gY rfl q1 (YC gY rfl (YM gY rfl (Sp 73 rfl ?_ ?_))))) <;> clear H
   ·intro kW a H
    try have p73:=dT kW
    refine kH H (YF uL kW rfl (YR aD kW rfl q0 (YC kW rfl (PT gY kW rfl (Pf gY rfl (aO dB rfl (Cd rfl ?_ ?_))))))) <;> clear H dB
    ·intro gX a H
     try have p60:=dT gX
     refine aS (fun _ dZ=>?_)
     have e3:fV (aP st li rv) h.marks=21:=by unfold fV;rw [ah hno,av (by first|(simp_all;done)|(simp_all;omega)|omega)]
     have hE:=(rJ (C:=aP st li rv) (e:=e) (h:=h) e1 e2 (by rw [e3];decide)).trans e3;exact kP H (SC (aO dZ rfl (LR results29 rfl fun H=>H.rt (by rw [hE]))))
    intro gX a H
    try have p60:=dF gX
    refine aS (fun _ eU=>?_)
    have hn2:¬ (¬ (0≤h.marks.move∧h.marks.move≤1073741824)∨(h.marks.move≠0∧h.marks.ins=0)):=by first|(simp_all;done)|(simp_all;omega)|omega
    refine kP H (SC (Rf mJ rfl (Rg mP rfl q2 (Rl kS rfl (Rc rfl (aO eU rfl (Cd rfl ?_ ?_))))))) <;> clear H eU
    ·intro jd a H
     refine aS (fun _ fK=>?_)
     have e3:fV (aP st li rv) h.marks=9:=by unfold fV;rw [ah hno,ah hn2,av (by simpa using jd)]
     have hE:=(rJ (C:=aP st li rv) (e:=e) (h:=h) e1 e2 (by rw [e3];decide)).trans e3;exact kP H (SC (aO fK rfl (LR results29 rfl fun H=>H.rt (by rw [hE]))))
    intro jd a H
    have e3:fV (aP st li rv) h.marks=0:=by unfold fV;rw [ah hno,ah hn2,ah (by simpa using jd)]
    refine fu ?_;refine ⟨(),by exact (H).sub ⟨rfl,rfl,rfl,aC⟩,?_⟩;exact e3
   intro kW a H
   try have p73:=dF kW
   refine kH H (aQ kW rfl (PF gY kW rfl (Pf gY rfl (aO dB rfl (Cf rfl rfl (SQ fun _ gM=>?_))))));clear H dB;intro a H
   have hn2:¬ (¬ (0≤h.marks.move∧h.marks.move≤1073741824)∨(h.marks.move≠0∧h.marks.ins=0)):=by first|(simp_all;done)|(simp_all;omega)|omega
   refine kP H (SC (Rf mJ rfl (Rg mP rfl q2 (Rl kS rfl (Rc rfl (aO gM rfl (Cd rfl ?_ ?_))))))) <;> clear H gM
   ·intro jd a H
    refine aS (fun _ iC=>?_)
    have e3:fV (aP st li rv) h.marks=9:=by unfold fV;rw [ah hno,ah hn2,av (by simpa using jd)]
    have hE:=(rJ (C:=aP st li rv) (e:=e) (h:=h) e1 e2 (by rw [e3];decide)).trans e3;exact kP H (SC (aO iC rfl (LR results29 rfl fun H=>H.rt (by rw [hE]))))
   intro jd a H
   have e3:fV (aP st li rv) h.marks=0:=by unfold fV;rw [ah hno,ah hn2,ah (by simpa using jd)]
   refine fu ?_;refine ⟨(),by exact (H).sub ⟨rfl,rfl,rfl,aC⟩,?_⟩;exact e3
  intro fC a H
  try have p53:=dF fC
  refine kH H (aQ fC rfl (aN fC rfl (Pf fC rfl (aj dx rfl (Cf rfl rfl (SQ fun _ gu=>?_))))));clear H dx;intro a H
  have hno:¬ (h.marks.ins≠0∧h.marks.ins∉(aP st li rv).Dg):=by first|(simp_all;done)|exact fun h=>p52 h.1
  refine kP H (SC (Rf wI rfl (Rg aD rfl q1 (Rc rfl (Rm rfl (Sp 64 rfl ?_ ?_)))))) <;> clear H
  ·intro h64 a H
   try have p64:=dT h64
   refine kH H (aQ h64 rfl (Pt h64 rfl (Rm rfl (aN rfl rfl (aN rfl rfl (Ku rfl (Ku rfl (Ku rfl (Ks rfl rfl (Pt rfl rfl (aO gu rfl (Ct rfl rfl (SQ fun _ iX=>?_)))))))))))));clear H gu;intro a H
   have e3:fV (aP st li rv) h.marks=21:=by unfold fV;rw [ah hno,av (by first|(simp_all;done)|(simp_all;omega)|omega)]
   have hE:=(rJ (C:=aP st li rv) (e:=e) (h:=h) e1 e2 (by rw [e3];decide)).trans e3;exact kP H (SC (aO iX rfl (LR results29 rfl fun H=>H.rt (by rw [hE]))))
  intro h64 a H
  try have p64:=dF h64
  refine kH H (YF wI h64 rfl (YR aD h64 rfl q1 (YC h64 rfl (Pf h64 rfl (Rm rfl (Sp 69 rfl ?_ ?_)))))) <;> clear H
  ·intro gY a H
   try have p69:=dT gY
   refine kH H (aN gY rfl (aN gY rfl (Ku rfl (Ku rfl (Ku rfl (Ks gY rfl (Pt gY rfl (aO gu rfl (Ct rfl rfl (SQ fun _ jo=>?_))))))))));clear H gu;intro a H
   have e3:fV (aP st li rv) h.marks=21:=by unfold fV;rw [ah hno,av (by first|(simp_all;done)|(simp_all;omega)|omega)]
   have hE:=(rJ (C:=aP st li rv) (e:=e) (h:=h) e1 e2 (by rw [e3];decide)).trans e3;exact kP H (SC (aO jo rfl (LR results29 rfl fun H=>H.rt (by rw [hE]))))
  intro gY a H
  try have p69:=dF gY
  refine kH H (YF wI gY rfl (YR aD gY rfl q1 (YC gY rfl (YM gY rfl (Sp 73 rfl ?_ ?_))))) <;> clear H
  ·intro kW a H
   try have p73:=dT kW
   refine kH H (YF uL kW rfl (YR aD kW rfl q0 (YC kW rfl (PT gY kW rfl (Pf gY rfl (aO gu rfl (Cd rfl ?_ ?_))))))) <;> clear H gu
   ·intro gX a H
    try have p60:=dT gX
    refine aS (fun _ iN=>?_)
    have e3:fV (aP st li rv) h.marks=21:=by unfold fV;rw [ah hno,av (by first|(simp_all;done)|(simp_all;omega)|omega)]
    have hE:=(rJ (C:=aP st li rv) (e:=e) (h:=h) e1 e2 (by rw [e3];decide)).trans e3;exact kP H (SC (aO iN rfl (LR results29 rfl fun H=>H.rt (by rw [hE]))))
   intro gX a H
   try have p60:=dF gX
   refine aS (fun _ kJ=>?_)
   have hn2:¬ (¬ (0≤h.marks.move∧h.marks.move≤1073741824)∨(h.marks.move≠0∧h.marks.ins=0)):=by first|(simp_all;done)|(simp_all;omega)|omega
   refine kP H (SC (Rf mJ rfl (Rg mP rfl q2 (Rl kS rfl (Rc rfl (aO kJ rfl (Cd rfl ?_ ?_))))))) <;> clear H kJ
   ·intro jd a H
    refine aS (fun _ kK=>?_)
    have e3:fV (aP st li rv) h.marks=9:=by unfold fV;rw [ah hno,ah hn2,av (by simpa using jd)]
    have hE:=(rJ (C:=aP st li rv) (e:=e) (h:=h) e1 e2 (by rw [e3];decide)).trans e3;exact kP H (SC (aO kK rfl (LR results29 rfl fun H=>H.rt (by rw [hE]))))
   intro jd a H
   have e3:fV (aP st li rv) h.marks=0:=by unfold fV;rw [ah hno,ah hn2,ah (by simpa using jd)]
   refine fu ?_;refine ⟨(),by exact (H).sub ⟨rfl,rfl,rfl,aC⟩,?_⟩;exact e3
  intro kW a H
  try have p73:=dF kW
  refine kH H (aQ kW rfl (PF gY kW rfl (Pf gY rfl (aO gu rfl (Cf rfl rfl (SQ fun _ jA=>?_))))));clear H gu;intro a H
  have hn2:¬ (¬ (0≤h.marks.move∧h.marks.move≤1073741824)∨(h.marks.move≠0∧h.marks.ins=0)):=by first|(simp_all;done)|(simp_all;omega)|omega
  refine kP H (SC (Rf mJ rfl (Rg mP rfl q2 (Rl kS rfl (Rc rfl (aO jA rfl (Cd rfl ?_ ?_))))))) <;> clear H jA
  ·intro jd a H
   refine aS (fun _ kT=>?_)
   have e3:fV (aP st li rv) h.marks=9:=by unfold fV;rw [ah hno,ah hn2,av (by simpa using jd)]
   have hE:=(rJ (C:=aP st li rv) (e:=e) (h:=h) e1 e2 (by rw [e3];decide)).trans e3;exact kP H (SC (aO kT rfl (LR results29 rfl fun H=>H.rt (by rw [hE]))))
  intro jd a H
  have e3:fV (aP st li rv) h.marks=0:=by unfold fV;rw [ah hno,ah hn2,ah (by simpa using jd)]
  refine fu ?_;refine ⟨(),by exact (H).sub ⟨rfl,rfl,rfl,aC⟩,?_⟩;exact e3
 clear H;intro gh a w hI H;obtain ⟨un,hgh⟩:∃ x,x=gh:=⟨_,rfl⟩;subst hgh;have e3:=hI;dsimp only [lca,aV] at H;refine kP H (SQ fun _ kU=>SR fun _ lM=>aj lM rfl (SB ?_));clear H lM;intro a H;skip;refine eH (ι:=Nat × GH) (Tc:=[(0,_),(1,_),(10,_)]) (Lc:=[]) (fun gh=>[(11,vi gh.1)]) (fun gh=>[]) (fun gh=>gh.2) (fun gh=>gh.1≤h.marks.bR.length∧bT (((List.range h.marks.bR.length).map (uG (aP st li rv) h.marks.bR)).drop gh.1)=iI (uG (aP st li rv) h.marks.bR) h.marks.bR.length∧(∀ b o,Gb b=some o→gh.2 b=some o)) (fun gh=>h.marks.bR.length - gh.1) ((0,Gb)) (by exact (H).sub ⟨rfl,rfl,rfl,rfl,aC⟩) ?_ ?_
 ·exact ⟨iF _,rfl,fun _ _ h=>h⟩
 clear H;intro gh a w hI H;obtain ⟨k,g2⟩:=gh;dsimp only at hI H;obtain ⟨hk,heq,hgm⟩:=hI;have q2':=ay hgm q2;dsimp only [lca,aV] at H;refine kP H (SQ fun _ lN=>SR fun _ lQ=>Rm rfl (Rf mJ rfl (Rg mP rfl q2' (Rl kS rfl (Rc rfl (Kz lQ (Cd rfl ?_ ?_))))))) <;> clear H lQ
 ·intro vK a H
  try have MI:=dT vK
  have hk2:k < h.marks.bR.length:=by omega
  have hd2:=hh.bR.mono hgm;obtain ⟨xb,xo,rfl,hrow⟩:=NI hd2 hk2
  have hk1:k - 1 < h.marks.bR.length:=by omega
  obtain ⟨b',o',he',hrow'⟩:=NI hd2 hk1
  injection he' with he'
  injection he' with KQ e2'
  subst KQ;subst e2'
  have hde:uG (aP st li rv) h.marks.bR k=pR (aP st li rv) k h.marks.bR[k] h.marks.bR[k - 1].rev:=by unfold uG;rw [fT hk2,fT hk1];rfl
  have hX:∀ v,pR (aP st li rv) k h.marks.bR[k] h.marks.bR[k - 1].rev=v→v≠0→fP (aP st li rv) e h=v:=fun v h1 h2=>by
   have h4:iI (uG (aP st li rv) h.marks.bR) h.marks.bR.length=v:=by rw [← heq,qJ hk2,hde,h1,av h2]
   exact (YZ e1 e2 e3 (by rw [h4];exact h2)).trans h4
  have hp:=hrow' 0 _ rfl;have r0:=hrow 0 _ rfl;have r1:=hrow 1 _ rfl;refine fu ?_;refine lN _ _ ?_;clear lN;refine aS (fun _ mo=>?_);(iterate 2 refine vC ?_);refine kP H (SR fun _ rz=>Rm rfl (Rf mJ rfl (Rg mP rfl q2' (Rm rfl (Ri kS qE rfl rfl (Rf Cy rfl (Rg aD rfl r0 ?_)))))));clear H;intro a H;refine s_call Ry H wn rfl (Uw _ _ H.ro D st li rv b v n (hck.mono hgm) hmz (hgm _ _ hb) h.marks.bR[k].rev) rfl ?_;clear H;rintro v99 _ a w ⟨rfl,rfl⟩ - H;refine kH H (Rn rfl (aj rz rfl (Cd rfl ?_ ?_))) <;> clear H rz
  ·intro Am a H
   refine aS (fun _ wm=>?_);have hE:=hX 22 (by unfold pR;rw [av (by simpa using Am)]) (by decide);exact kP H (SC (aO wm rfl (LR results29 rfl fun H=>H.rt (by rw [hE]))))
  intro Am a H
  try have zQ:=dF Am
  have H7:¬ (h.marks.bR[k].rev∉(aP st li rv).Dg):=by simpa using Am
  refine aS (fun _ lS=>?_)
  by_cases c3:0 < (k:Int)
  ·skip
   by_cases c4:h.marks.bR[k].rev≤h.marks.bR[k - 1].rev
   ·skip;refine dI hmx [[],[0],[0,1],[0,1,2],(ra 0 4),[0,1,2],(ra 0 6),(ra 0 7),(ra 0 8),[0,1,2],[0,1,2,9],[0,1,2],[0,1,2,11],([0,1,2]++ra 9 4),([0,1,2]++ra 9 5),([0,1,2]++ra 9 6),(ra 0 16),(ra 0 17),(ra 0 18)] [18] (by kernel_rfl) [_,_,_,_,_,_,_,_,_,_,_,_,vi ((k - 1:Nat):Int),_,_,_,_,_] H (aG (Z0 rfl (Rm rfl)) (Z1 0 102 rfl (Rc rfl)) (Z1 1 103 rfl (Rm rfl)) (Z1 2 104 rfl (YF mJ (aI c3) rfl)) (aG (X2 3 105 2 104 rfl fun hG=>YR mP (aI c3) rfl (ay hG q2')) (Z1 2 104 rfl (YM (aI c3) rfl)) (Z3 4 106 5 107 2 104 rfl (YI kS qE (aI c3) rfl rfl)) (Z2 6 108 2 104 rfl (YF Cy (aI c3) rfl)) (aG (X2 7 109 2 104 rfl fun hG=>YR aD (aI c3) rfl (ay hG r0)) (Z1 2 104 rfl (YF mJ (aI c3) rfl)) (X2 9 111 2 104 rfl fun hG=>YR mP (aI c3) rfl (ay hG q2')) (Z1 2 104 rfl (YM (aI c3) rfl)) (aG ?_ (Z3 10 112 12 114 2 104 rfl (YI kS qE (aI c3) rfl rfl)) (Z2 13 115 2 104 rfl (YF Cy (aI c3) rfl)) (X2 14 116 2 104 rfl fun hG=>YR aD (aI c3) rfl (ay hG hp)) (bq (Z3 8 110 15 117 2 104 rfl (YC (aI c3) rfl)) (bq (Z2 2 104 16 118 rfl (Pt (aI c3) rfl)) (bq (bY rfl) dD))))))) ?_
    ·refine eu 11 113 2 104 rfl rfl fun _ a w G1 hG HT H fin=>?_;refine nU _ H (wg H rfl rfl (aI c3)) rfl rfl rfl (by omega) (by omega) rfl ?_;clear H;intro a H;exact fin H iJ (by show _=_;first|rfl|exact aB vi (by omega))
    clear H;intro a w G xW H hv;have H:=H.aZ (hv 17 119 rfl rfl) rfl;clear hv;refine kH H (Ra rfl ?_);clear H;intro a H;refine aH ⟨rfl,?_⟩;refine lS _ _ ?_;clear lS;refine yV H rfl (aI c4) ?_;refine aS (fun _ yQ=>?_);have hz:0 < k∧h.marks.bR[k].rev≤h.marks.bR[k - 1].rev:=⟨by omega,c4⟩;have hE:=hX 6 (by unfold pR;rw [ah H7,av hz]) (by decide);exact kP H (SC (aO yQ rfl (LR results29 rfl fun H=>H.rt (by rw [hE]))))
   skip;refine dI hmx [[],[0],[0,1],[0,1,2],(ra 0 4),[0,1,2],(ra 0 6),(ra 0 7),(ra 0 8),[0,1,2],[0,1,2,9],[0,1,2],[0,1,2,11],([0,1,2]++ra 9 4),([0,1,2]++ra 9 5),([0,1,2]++ra 9 6),(ra 0 16),(ra 0 17),(ra 0 18)] [18] (by kernel_rfl) [_,_,_,_,_,_,_,_,_,_,_,_,vi ((k - 1:Nat):Int),_,_,_,_,_] H (aG (Z0 rfl (Rm rfl)) (Z1 0 102 rfl (Rc rfl)) (Z1 1 103 rfl (Rm rfl)) (Z1 2 104 rfl (YF mJ (aI c3) rfl)) (aG (X2 3 105 2 104 rfl fun hG=>YR mP (aI c3) rfl (ay hG q2')) (Z1 2 104 rfl (YM (aI c3) rfl)) (Z3 4 106 5 107 2 104 rfl (YI kS qE (aI c3) rfl rfl)) (Z2 6 108 2 104 rfl (YF Cy (aI c3) rfl)) (aG (X2 7 109 2 104 rfl fun hG=>YR aD (aI c3) rfl (ay hG r0)) (Z1 2 104 rfl (YF mJ (aI c3) rfl)) (X2 9 111 2 104 rfl fun hG=>YR mP (aI c3) rfl (ay hG q2')) (Z1 2 104 rfl (YM (aI c3) rfl)) (aG ?_ (Z3 10 112 12 114 2 104 rfl (YI kS qE (aI c3) rfl rfl)) (Z2 13 115 2 104 rfl (YF Cy (aI c3) rfl)) (X2 14 116 2 104 rfl fun hG=>YR aD (aI c3) rfl (ay hG hp)) (bq (Z3 8 110 15 117 2 104 rfl (YC (aI c3) rfl)) (bq (Z2 2 104 16 118 rfl (Pt (aI c3) rfl)) (bq (bY rfl) dD))))))) ?_
   ·refine eu 11 113 2 104 rfl rfl fun _ a w G1 hG HT H fin=>?_;refine nU _ H (wg H rfl rfl (aI c3)) rfl rfl rfl (by omega) (by omega) rfl ?_;clear H;intro a H;exact fin H iJ (by show _=_;first|rfl|exact aB vi (by omega))
   clear H;intro a w G xW H hv;have H:=H.aZ (hv 17 119 rfl rfl) rfl;clear hv;refine kH H (Ra rfl ?_);clear H;intro a H;refine aH ⟨rfl,?_⟩;refine lS _ _ ?_;clear lS;refine om H rfl (aR c4) ?_;refine aS (fun _ wo=>?_)
   have hz:¬ (0 < k∧h.marks.bR[k].rev≤h.marks.bR[k - 1].rev):=by first|exact fun h=>c4 h.2|exact fun h=>c3 (by omega)
   replace q2':=ay xW q2';replace r1:=ay xW r1;refine kP H (SC (Rf mJ rfl (Rg mP rfl q2' (Rm rfl (Ri kS qE rfl rfl (Rf Jp rfl (Rg aD rfl r1 (Rc rfl (Rm rfl (Sp 128 rfl ?_ ?_)))))))))) <;> clear H
   ·intro h128 a H
    try have Ei:=dT h128
    refine kH H (aQ h128 rfl (aN h128 rfl (aN h128 rfl (Pt h128 rfl (aO wo rfl (Ct rfl rfl (SQ fun _ EC=>?_)))))));clear H wo;intro a H;have hE:=hX 21 (by unfold pR;rw [ah H7,ah hz,av (by first|omega|(simp_all;omega))]) (by decide);exact kP H (SC (aO EC rfl (LR results29 rfl fun H=>H.rt (by rw [hE]))))
   intro h128 a H
   try have Ei:=dF h128
   refine kH H (YF mJ h128 rfl (YR mP h128 rfl q2' (YM h128 rfl (YI kS qE h128 rfl rfl (YF Jp h128 rfl (YR aD h128 rfl r1 (YC h128 rfl (Pf h128 rfl (aO wo rfl (Cd rfl ?_ ?_)))))))))) <;> clear H wo
   ·intro nI a H
    try have Fy:=dT nI
    refine aS (fun _ Ch=>?_);have hE:=hX 21 (by unfold pR;rw [ah H7,ah hz,av (by first|omega|(simp_all;omega))]) (by decide);exact kP H (SC (aO Ch rfl (LR results29 rfl fun H=>H.rt (by rw [hE]))))
   intro nI a H
   try have Fy:=dF nI
   have Hy:pR (aP st li rv) k h.marks.bR[k] h.marks.bR[k - 1].rev=0:=by unfold pR;rw [ah H7,ah hz,ah (by first|omega|(simp_all;omega))]
   refine kP H (Kc mo (SC (Rm rfl (Rd rfl (Ra rfl ?_)))));clear H mo;intro a H;refine aH ?_;refine dK ((k+1,G)) (by exact (H).sub ⟨rfl,rfl,rfl,rfl,aC⟩) ?_ ?_
   ·(try dsimp only);exact ⟨by omega,by rw [qJ hk2,ah (by rw [hde];simpa using Hy)] at heq;exact heq,fun b o h=>xW b o (hgm b o h)⟩
   first|omega|(dsimp only;omega)
  skip;refine dI hmx [[],[0],[0,1],[0,1,2],(ra 0 4),[0,1,2],(ra 0 6),(ra 0 7),(ra 0 8),[0,1,2],[0,1,2,9],[0,1,2],[0,1,2,11],([0,1,2]++ra 9 4),([0,1,2]++ra 9 5),([0,1,2]++ra 9 6),(ra 0 16),(ra 0 17),(ra 0 18)] [18] (by kernel_rfl) [_,_,_,undef,undef,undef,undef,undef,undef,undef,undef,undef,undef,undef,undef,undef,undef,_] H (aG (Z0 rfl (Rm rfl)) (Z1 0 102 rfl (Rc rfl)) (Z1 1 103 rfl (Rm rfl)) (aX (j:=2) (by kernel_rfl) (fun _ _ _ _ _ h=>h) rfl rfl rfl rfl rfl (fun _ _ h=>aY h (aL (aR c3))) rfl (fun _=>rfl)) (aG (aX (j:=2) (by kernel_rfl) (fun _ _ _ _ _ h=>h) rfl rfl rfl rfl rfl (fun _ _ h=>aY h (aL (aR c3))) rfl (fun _=>rfl)) (aX (j:=2) (by kernel_rfl) (fun _ _ _ _ _ h=>h) rfl rfl rfl rfl rfl (fun _ _ h=>aY h (aL (aR c3))) rfl (fun _=>rfl)) (aX (j:=2) (by kernel_rfl) (fun _ _ _ _ _ h=>h) rfl rfl rfl rfl rfl (fun _ _ h=>aY h (aL (aR c3))) rfl (fun _=>rfl)) (aX (j:=2) (by kernel_rfl) (fun _ _ _ _ _ h=>h) rfl rfl rfl rfl rfl (fun _ _ h=>aY h (aL (aR c3))) rfl (fun _=>rfl)) (aG (aX (j:=2) (by kernel_rfl) (fun _ _ _ _ _ h=>h) rfl rfl rfl rfl rfl (fun _ _ h=>aY h (aL (aR c3))) rfl (fun _=>rfl)) (aX (j:=2) (by kernel_rfl) (fun _ _ _ _ _ h=>h) rfl rfl rfl rfl rfl (fun _ _ h=>aY h (aL (aR c3))) rfl (fun _=>rfl)) (aX (j:=2) (by kernel_rfl) (fun _ _ _ _ _ h=>h) rfl rfl rfl rfl rfl (fun _ _ h=>aY h (aL (aR c3))) rfl (fun _=>rfl)) (aX (j:=2) (by kernel_rfl) (fun _ _ _ _ _ h=>h) rfl rfl rfl rfl rfl (fun _ _ h=>aY h (aL (aR c3))) rfl (fun _=>rfl)) (aG (aX (j:=2) (by kernel_rfl) (fun _ _ _ _ _ h=>h) rfl rfl rfl rfl rfl (fun _ _ h=>aY h (aL (aR c3))) rfl (fun _=>rfl)) (aX (j:=2) (by kernel_rfl) (fun _ _ _ _ _ h=>h) rfl rfl rfl rfl rfl (fun _ _ h=>aY h (aL (aR c3))) rfl (fun _=>rfl)) (aX (j:=2) (by kernel_rfl) (fun _ _ _ _ _ h=>h) rfl rfl rfl rfl rfl (fun _ _ h=>aY h (aL (aR c3))) rfl (fun _=>rfl)) (aX (j:=2) (by kernel_rfl) (fun _ _ _ _ _ h=>h) rfl rfl rfl rfl rfl (fun _ _ h=>aY h (aL (aR c3))) rfl (fun _=>rfl)) (bq (aX (j:=2) (by kernel_rfl) (fun _ _ _ _ _ h=>h) rfl rfl rfl rfl rfl (fun _ _ h=>aY h (aL (aR c3))) rfl (fun _=>rfl)) (bq (Z2 2 104 16 118 rfl (Pf (aR c3) rfl)) (bq (bY rfl) dD))))))) ?_
  clear H;intro a w G xW H hv;have H:=H.aZ (hv 17 119 rfl rfl) rfl;clear hv;refine kH H (Ra rfl ?_);clear H;intro a H;refine aH ⟨rfl,?_⟩;refine lS _ _ ?_;clear lS;refine om H rfl rfl ?_;refine aS (fun _ AX=>?_)
  have hz:¬ (0 < k∧h.marks.bR[k].rev≤h.marks.bR[k - 1].rev):=by first|exact fun h=>c4 h.2|exact fun h=>c3 (by omega)
  replace q2':=ay xW q2';replace r1:=ay xW r1;refine kP H (SC (Rf mJ rfl (Rg mP rfl q2' (Rm rfl (Ri kS qE rfl rfl (Rf Jp rfl (Rg aD rfl r1 (Rc rfl (Rm rfl (Sp 128 rfl ?_ ?_)))))))))) <;> clear H
  ·intro h128 a H
   try have Ei:=dT h128
   refine kH H (aQ h128 rfl (aN h128 rfl (aN h128 rfl (Pt h128 rfl (aO AX rfl (Ct rfl rfl (SQ fun _ Ac=>?_)))))));clear H AX;intro a H;have hE:=hX 21 (by unfold pR;rw [ah H7,ah hz,av (by first|omega|(simp_all;omega))]) (by decide);exact kP H (SC (aO Ac rfl (LR results29 rfl fun H=>H.rt (by rw [hE]))))
  intro h128 a H
  try have Ei:=dF h128
  refine kH H (YF mJ h128 rfl (YR mP h128 rfl q2' (YM h128 rfl (YI kS qE h128 rfl rfl (YF Jp h128 rfl (YR aD h128 rfl r1 (YC h128 rfl (Pf h128 rfl (aO AX rfl (Cd rfl ?_ ?_)))))))))) <;> clear H AX
  ·intro nI a H
   try have Fy:=dT nI
   refine aS (fun _ Dt=>?_);have hE:=hX 21 (by unfold pR;rw [ah H7,ah hz,av (by first|omega|(simp_all;omega))]) (by decide);exact kP H (SC (aO Dt rfl (LR results29 rfl fun H=>H.rt (by rw [hE]))))
  intro nI a H
  try have Fy:=dF nI
  have Hy:pR (aP st li rv) k h.marks.bR[k] h.marks.bR[k - 1].rev=0:=by unfold pR;rw [ah H7,ah hz,ah (by first|omega|(simp_all;omega))]
  refine kP H (Kc mo (SC (Rm rfl (Rd rfl (Ra rfl ?_)))));clear H mo;intro a H;refine aH ?_;refine dK ((k+1,G)) (by exact (H).sub ⟨rfl,rfl,rfl,rfl,aC⟩) ?_ ?_
  ·(try dsimp only);exact ⟨by omega,by rw [qJ hk2,ah (by rw [hde];simpa using Hy)] at heq;exact heq,fun b o h=>xW b o (hgm b o h)⟩
  first|omega|(dsimp only;omega)
 intro vK a H
 try have MI:=dF vK
 refine dW ?_;refine kU _ _ ?_;clear kU;refine aS (fun _ Du=>?_);refine aS (fun _ Ci=>?_)
 have e4:iI (uG (aP st li rv) h.marks.bR) h.marks.bR.length=0:=by rw [← heq,iw (by simp;omega)];rfl
 replace hck:=hck.mono hgm;replace hb:=hgm _ _ hb;replace hh:=hh.mono hgm;replace q3:=ay hgm q3;refine kP H (SC (Rf vG rfl (Rg vZ rfl q3 (Rl qg rfl (Rc rfl (Kn Ci (Cd rfl ?_ ?_))))))) <;> clear H Ci
 ·intro R9 a H
  try have UN:=dT R9
  refine aS (fun _ F5=>?_);have hE:=Y0 (C:=aP st li rv) (e:=e) (h:=h) e1 e2 e3 e4 UN;exact kP H (SC (aO F5 rfl (LR results29 rfl fun H=>H.rt (by rw [hE]))))
 intro R9 a H
 try have UN:=dF R9
 refine kP H (Kc Du (SQ fun _ F6=>SQ fun _ uZ=>?_));clear H Du;intro a H;have hE:=Y1 (C:=aP st li rv) (e:=e) (h:=h) e1 e2 e3 e4 UN;refine kP H (SC (aO uZ rfl (SB ?_)));clear H uZ;intro a H;skip;refine eH (ι:=Nat × GH) (Tc:=[(0,_),(1,_),(10,_)]) (Lc:=[]) (fun gh=>[(12,vi gh.1)]) (fun gh=>[]) (fun gh=>gh.2) (fun gh=>gh.1≤h.marks.layers.length∧bT (((List.range h.marks.layers.length).map (BN (aP st li rv) e h.marks.layers)).drop gh.1)=iI (BN (aP st li rv) e h.marks.layers) h.marks.layers.length∧(∀ b o,g2 b=some o→gh.2 b=some o)) (fun gh=>h.marks.layers.length - gh.1) ((0,g2)) (by exact (H).sub ⟨rfl,rfl,rfl,rfl,aC⟩) ?_ ?_
 ·exact ⟨iF _,rfl,fun _ _ h=>h⟩
 clear H;intro gh a w hI H;obtain ⟨k,g3⟩:=gh;dsimp only at hI H;obtain ⟨hk,tO,rO⟩:=hI;have q3':=ay rO q3;dsimp only [lca,aV] at H;refine kP H (SQ fun _ ED=>SR fun _ F7=>Rm rfl (Rf vG rfl (Rg vZ rfl q3' (Rl qg rfl (Rc rfl (Kz F7 (Cd rfl ?_ ?_))))))) <;> clear H F7
 ·intro Sc a H
  try have alz:=dT Sc
  have hk2:k < h.marks.layers.length:=by omega
  have hl2:=hh.layers.mono rO;obtain ⟨xb,xo,rfl,hrow⟩:=Pg hl2 hk2
  have hk1:k - 1 < h.marks.layers.length:=by omega
  obtain ⟨b',o',he',hrow'⟩:=Pg hl2 hk1
  injection he' with he'
  injection he' with KQ e2'
  subst KQ;subst e2'
  have Ea:BN (aP st li rv) e h.marks.layers k=mG (aP st li rv) e k h.marks.layers[k] h.marks.layers[k - 1].key:=by unfold BN;rw [fT hk2,fT hk1];rfl
  have hX:∀ v,mG (aP st li rv) e k h.marks.layers[k] h.marks.layers[k - 1].key=v→v≠0→fP (aP st li rv) e h=v:=fun v h1 h2=>by rw [hE,← tO,qJ hk2,Ea,h1,av h2]
  have hp:=hrow' 1 _ rfl;refine kP H (Kc ED (SQ fun _ qj=>SB (SR fun _ EF=>Rf vG rfl (Rg vZ rfl q3' (Rm rfl (Ri qg sV rfl rfl ?_))))));clear H ED;intro a H;refine aW sV (cs:=h.marks.layers[k].cells) H wn rfl rfl (fun j v hj=>H.hp.aF (hrow j v hj)) rfl ?_;clear H;intro a H;refine dU sV H wn rfl ?_;clear H;intro b13 a w Jw H;refine bN sV 0 (vs:=[_,_,_,_]) _ H wn rfl rfl rfl rfl rfl rfl rfl rfl ?_;clear H;intro w H;dsimp only [List.set,setRow] at H;obtain ⟨Gc,hmc,Jy,H⟩:=H.eG;have hgc:∀ b o,g2 b=some o→Gc b=some o:=fun b o h=>hmc b o (rO b o h);replace hp:=ay hmc hp;replace q3':=ay hmc q3'
  have y0:aF Gc b13 0=some (vi h.marks.layers[k].rev):=by unfold aF;rw [Jy];rfl
  have y1:aF Gc b13 1=some (vi h.marks.layers[k].key):=by unfold aF;rw [Jy];rfl
  have y2:aF Gc b13 2=some (vi h.marks.layers[k].before):=by unfold aF;rw [Jy];rfl
  have y3:aF Gc b13 3=some (.bool h.marks.layers[k].had):=by unfold aF;rw [Jy];rfl
  refine EF _ _ ?_;clear EF;refine kP H (SQ fun _ xE=>SB (SR fun _ EG=>Rm rfl (Rf X6 rfl (Rg aD rfl y0 ?_))));clear H;intro a H;refine s_call Ry H wn rfl (Uw _ _ H.ro D st li rv b v n (hck.mono hgc) hmz (hgc _ _ hb) h.marks.layers[k].rev) rfl ?_;clear H;rintro v157 _ a w ⟨rfl,rfl⟩ - H;refine kH H (Rn rfl (aj EG rfl (Cd rfl ?_ ?_))) <;> clear H EG
  ·intro Oh a H
   refine aS (fun _ F8=>?_);have hE:=hX 22 (by unfold mG;rw [av (by simpa using Oh)]) (by decide);exact kP H (SC (aO F8 rfl (LR results29 rfl fun H=>H.rt (by rw [hE]))))
  intro Oh a H
  try have apz:=dF Oh
  have Ar:¬ (h.marks.layers[k].rev∉(aP st li rv).Dg):=by simpa using Oh
  refine kP H (SR fun _ EH=>Rm rfl (Rf qp rfl (Rg aD rfl y1 ?_)));clear H;intro a H;refine s_call Rz H wn rfl (EO (RL _ _ H.ro e h.marks.layers[k].key)) rfl ?_;clear H;rintro apQ _ a w ⟨⟨_,rfl⟩,rfl⟩ - H;refine kH H (Rn rfl (aj EH rfl (Cd rfl ?_ ?_))) <;> clear H EH
  ·intro Oi a H
   refine aS (fun _ F9=>?_);have hE:=hX 4 (by unfold mG;rw [ah Ar,av (by simpa using Oi)]) (by decide);exact kP H (SC (aO F9 rfl (LR results29 rfl fun H=>H.rt (by rw [hE]))))
  intro Oi a H
  try have apB:=dF Oi
  have BD:¬ (Bh e h.marks.layers[k].key=false):=by simpa using Oi
  refine aS (fun _ AY=>?_)
  by_cases c3:0 < (k:Int)
  ·skip
   by_cases c4:h.marks.layers[k].key < h.marks.layers[k - 1].key
   ·skip;refine dI hmx [[],[0],[0,1],[0,1,2],(ra 0 4),[0,1,2],[0,1,2,5],[0,1,2],[0,1,2,7],[0,1,2,5,6,7,8],[0,1,2,5,6,7,8,9],([0,1,2]++ra 5 6),(ra 0 12),(ra 0 13),(ra 0 14)] [14] (by kernel_rfl) [_,_,_,_,_,_,_,_,vi ((k - 1:Nat):Int),_,_,_,_,_] H (aG (Z0 rfl (Rm rfl)) (Z1 0 166 rfl (Rc rfl)) (Z1 1 167 rfl (Rm rfl)) (Z1 2 168 rfl (YF qp (aI c3) rfl)) (aG (X2 3 169 2 168 rfl fun hG=>YR aD (aI c3) rfl (ay hG y1)) (Z1 2 168 rfl (YF vG (aI c3) rfl)) (X2 5 171 2 168 rfl fun hG=>YR vZ (aI c3) rfl (ay hG q3')) (Z1 2 168 rfl (YM (aI c3) rfl)) (aG ?_ (Z3 6 172 8 174 2 168 rfl (YI qg sV (aI c3) rfl rfl)) (Z2 9 175 2 168 rfl (YF qp (aI c3) rfl)) (X2 10 176 2 168 rfl fun hG=>YR aD (aI c3) rfl (ay hG hp)) (bq (Z3 4 170 11 177 2 168 rfl (YC (aI c3) rfl)) (bq (Z2 2 168 12 178 rfl (Pt (aI c3) rfl)) (bq (bY rfl) dD)))))) ?_
    ·refine eu 7 173 2 168 rfl rfl fun _ a w G1 hG HT H fin=>?_;refine nU _ H (wg H rfl rfl (aI c3)) rfl rfl rfl (by omega) (by omega) rfl ?_;clear H;intro a H;exact fin H iJ (by show _=_;first|rfl|exact aB vi (by omega))
    clear H;intro a w G Ao H hv;have H:=H.aZ (hv 13 179 rfl rfl) rfl;clear hv;refine kH H (Ra rfl ?_);clear H;intro a H;refine aH ⟨rfl,?_⟩;refine AY _ _ ?_;clear AY;refine yV H rfl (aI c4) ?_;refine aS (fun _ uh=>?_);have hz:0 < k∧h.marks.layers[k].key < h.marks.layers[k - 1].key:=⟨by omega,c4⟩;have hE:=hX 6 (by unfold mG;rw [ah Ar,ah BD,av hz]) (by decide);exact kP H (SC (aO uh rfl (LR results29 rfl fun H=>H.rt (by rw [hE]))))
   skip;refine dI hmx [[],[0],[0,1],[0,1,2],(ra 0 4),[0,1,2],[0,1,2,5],[0,1,2],[0,1,2,7],[0,1,2,5,6,7,8],[0,1,2,5,6,7,8,9],([0,1,2]++ra 5 6),(ra 0 12),(ra 0 13),(ra 0 14)] [14] (by kernel_rfl) [_,_,_,_,_,_,_,_,vi ((k - 1:Nat):Int),_,_,_,_,_] H (aG (Z0 rfl (Rm rfl)) (Z1 0 166 rfl (Rc rfl)) (Z1 1 167 rfl (Rm rfl)) (Z1 2 168 rfl (YF qp (aI c3) rfl)) (aG (X2 3 169 2 168 rfl fun hG=>YR aD (aI c3) rfl (ay hG y1)) (Z1 2 168 rfl (YF vG (aI c3) rfl)) (X2 5 171 2 168 rfl fun hG=>YR vZ (aI c3) rfl (ay hG q3')) (Z1 2 168 rfl (YM (aI c3) rfl)) (aG ?_ (Z3 6 172 8 174 2 168 rfl (YI qg sV (aI c3) rfl rfl)) (Z2 9 175 2 168 rfl (YF qp (aI c3) rfl)) (X2 10 176 2 168 rfl fun hG=>YR aD (aI c3) rfl (ay hG hp)) (bq (Z3 4 170 11 177 2 168 rfl (YC (aI c3) rfl)) (bq (Z2 2 168 12 178 rfl (Pt (aI c3) rfl)) (bq (bY rfl) dD)))))) ?_
   ·refine eu 7 173 2 168 rfl rfl fun _ a w G1 hG HT H fin=>?_;refine nU _ H (wg H rfl rfl (aI c3)) rfl rfl rfl (by omega) (by omega) rfl ?_;clear H;intro a H;exact fin H iJ (by show _=_;first|rfl|exact aB vi (by omega))
   clear H;intro a w G Ao H hv;have H:=H.aZ (hv 13 179 rfl rfl) rfl;clear hv;refine kH H (Ra rfl ?_);clear H;intro a H;refine aH ⟨rfl,?_⟩;refine AY _ _ ?_;clear AY;refine om H rfl (aR c4) ?_;refine aS (fun _ Dw=>?_)
   have hz:¬ (0 < k∧h.marks.layers[k].key < h.marks.layers[k - 1].key):=by first|exact fun h=>c4 h.2|exact fun h=>c3 (by omega)
   replace y1:=ay Ao y1;replace y2:=ay Ao y2;replace y3:=ay Ao y3;have hge:=fun b o h=>Ao b o (hgc b o h);refine kP H (SC (Rf EY rfl (Rg uf rfl y3 (Rn rfl (Rm rfl (Sp 184 rfl ?_ ?_)))))) <;> clear H
   ·intro sG a H
    try have UQ:=dT sG
    refine kH H (YF vE sG rfl (YR aD sG rfl y2 (YC sG rfl (Pt sG rfl (aO Dw rfl (Cd rfl ?_ ?_)))))) <;> clear H Dw
    ·intro He a H
     try have UO:=dT He
     refine aS (fun _ Gd=>?_);have hE:=hX 21 (by unfold mG;rw [ah Ar,ah BD,ah hz];simp_all [bQ]) (by decide);exact kP H (SC (aO Gd rfl (LR results29 rfl fun H=>H.rt (by rw [hE]))))
    intro He a H
    try have UO:=dF He
    refine kP H (Kc xE (SR fun _ Gf=>Rf EY rfl (Rg uf rfl y3 (Kz Gf (Cd rfl ?_ ?_))))) <;> clear H xE Gf
    ·intro wP a H
     try have Iu:=dT wP
     have sN:mG (aP st li rv) e k h.marks.layers[k] h.marks.layers[k - 1].key=bT [tH h.marks.layers[k].key h.marks.layers[k].before,lq st (li.map dH.id) h.marks.layers[k].key h.marks.layers[k].before]:=by unfold mG;rw [ah Ar,ah BD,ah hz,ah (by simp_all)]
     refine kP H (SQ fun _ EI=>SR fun _ EJ=>Rf qp rfl (Rg aD rfl y1 (Rf vE rfl (Rg aD rfl y2 ?_))));clear H;intro a H;refine s_call GN H wn rfl (EO (GK _ _ H.ro h.marks.layers[k].key h.marks.layers[k].before)) rfl ?_;clear H;rintro Vw _ a w ⟨⟨_,rfl⟩,rfl⟩ - H;refine kH H (aj EJ rfl (SR fun _ EK=>Rm rfl (Rc rfl (Kz EK (Cd rfl ?_ ?_))))) <;> clear H EJ EK
     ·intro wQ a H
      try have sQ:=dT wQ
      refine aS (fun _ IY=>?_);have hE:=hX _ (sN.trans (wM sQ)) sQ;exact kP H (SC (Rm rfl (aO IY rfl (LR results29 rfl fun H=>H.rt (by rw [hE])))))
     intro wQ a H
     try have sQ:=dF wQ
     rw [jc (gH.1 sQ),CF] at sN;refine kP H (Kc EI (SR fun _ Gg=>Rm rfl (Rf qp rfl (Rg aD rfl y1 (Rf vE rfl (Rg aD rfl y2 ?_))))));clear H EI;intro a H;refine s_call KU H wn rfl (Mt _ _ H.ro D st li rv b v n (hck.mono hge) hmz (hge _ _ hb) h.marks.layers[k].key h.marks.layers[k].before) rfl ?_;clear H;rintro Vx _ a w ⟨rfl,rfl⟩ - H;refine kH H (aj Gg rfl (SR fun _ Kq=>Rm rfl (Rc rfl (Kz Kq (Cd rfl ?_ ?_))))) <;> clear H Gg Kq
     ·intro wR a H
      try have xg:=dT wR
      refine aS (fun _ Ni=>?_);have hE:=hX _ sN xg;exact kP H (SC (Rm rfl (aO Ni rfl (LR results29 rfl fun H=>H.rt (by rw [hE])))))
     intro wR a H
     try have xg:=dF wR
     have wT:=sN.trans (gH.1 xg);have sK:=hge;refine kP H (Kc qj (SC (Rm rfl (Rd rfl (Ra rfl ?_)))));clear H qj;intro a H;refine aH ?_;refine dK ((k+1,G)) (by exact (H).sub ⟨rfl,rfl,rfl,rfl,aC⟩) ?_ ?_
     ·(try dsimp only);exact ⟨by omega,by rw [qJ hk2,ah (by rw [Ea];simpa using wT)] at tO;exact tO,sK⟩
     first|omega|(dsimp only;omega)
    intro wP a H
    try have Iu:=dF wP
    have wT:mG (aP st li rv) e k h.marks.layers[k] h.marks.layers[k - 1].key=0:=by unfold mG;rw [ah Ar,ah BD,ah hz];simp_all [bQ]
    have sK:=hge;refine kP H (Kc qj (SC (Rm rfl (Rd rfl (Ra rfl ?_)))));clear H qj;intro a H;refine aH ?_;refine dK ((k+1,G)) (by exact (H).sub ⟨rfl,rfl,rfl,rfl,aC⟩) ?_ ?_
    ·(try dsimp only);exact ⟨by omega,by rw [qJ hk2,ah (by rw [Ea];simpa using wT)] at tO;exact tO,sK⟩
    first|omega|(dsimp only;omega)
   intro sG a H
   try have UQ:=dF sG
   refine kH H (aQ sG rfl (Pf sG rfl (aO Dw rfl (Cf rfl rfl (Kc xE (SR fun _ V6=>Rf EY rfl (Rg uf rfl y3 (Kz V6 (Cd rfl ?_ ?_))))))))) <;> clear H Dw xE V6
   ·intro wP a H
    try have Iu:=dT wP
    have sN:mG (aP st li rv) e k h.marks.layers[k] h.marks.layers[k - 1].key=bT [tH h.marks.layers[k].key h.marks.layers[k].before,lq st (li.map dH.id) h.marks.layers[k].key h.marks.layers[k].before]:=by unfold mG;rw [ah Ar,ah BD,ah hz,ah (by simp_all)]
    refine kP H (SQ fun _ V7=>SR fun _ V8=>Rf qp rfl (Rg aD rfl y1 (Rf vE rfl (Rg aD rfl y2 ?_))));clear H;intro a H;refine s_call GN H wn rfl (EO (GK _ _ H.ro h.marks.layers[k].key h.marks.layers[k].before)) rfl ?_;clear H;rintro Vw _ a w ⟨⟨_,rfl⟩,rfl⟩ - H;refine kH H (aj V8 rfl (SR fun _ V9=>Rm rfl (Rc rfl (Kz V9 (Cd rfl ?_ ?_))))) <;> clear H V8 V9
    ·intro wQ a H
     try have sQ:=dT wQ
     refine aS (fun _ K78=>?_);have hE:=hX _ (sN.trans (wM sQ)) sQ;exact kP H (SC (Rm rfl (aO K78 rfl (LR results29 rfl fun H=>H.rt (by rw [hE])))))
    intro wQ a H
    try have sQ:=dF wQ
    rw [jc (gH.1 sQ),CF] at sN;refine kP H (Kc V7 (SR fun _ Wd=>Rm rfl (Rf qp rfl (Rg aD rfl y1 (Rf vE rfl (Rg aD rfl y2 ?_))))));clear H V7;intro a H;refine s_call KU H wn rfl (Mt _ _ H.ro D st li rv b v n (hck.mono hge) hmz (hge _ _ hb) h.marks.layers[k].key h.marks.layers[k].before) rfl ?_;clear H;rintro Vx _ a w ⟨rfl,rfl⟩ - H;refine kH H (aj Wd rfl (SR fun _ Wh=>Rm rfl (Rc rfl (Kz Wh (Cd rfl ?_ ?_))))) <;> clear H Wd Wh
    ·intro wR a H
     try have xg:=dT wR
     refine aS (fun _ K81=>?_);have hE:=hX _ sN xg;exact kP H (SC (Rm rfl (aO K81 rfl (LR results29 rfl fun H=>H.rt (by rw [hE])))))
    intro wR a H
    try have xg:=dF wR
    have wT:=sN.trans (gH.1 xg);have sK:=hge;refine kP H (Kc qj (SC (Rm rfl (Rd rfl (Ra rfl ?_)))));clear H qj;intro a H;refine aH ?_;refine dK ((k+1,G)) (by exact (H).sub ⟨rfl,rfl,rfl,rfl,aC⟩) ?_ ?_
    ·(try dsimp only);exact ⟨by omega,by rw [qJ hk2,ah (by rw [Ea];simpa using wT)] at tO;exact tO,sK⟩
    first|omega|(dsimp only;omega)
   intro wP a H
   try have Iu:=dF wP
   have wT:mG (aP st li rv) e k h.marks.layers[k] h.marks.layers[k - 1].key=0:=by unfold mG;rw [ah Ar,ah BD,ah hz];simp_all [bQ]
   have sK:=hge;refine kP H (Kc qj (SC (Rm rfl (Rd rfl (Ra rfl ?_)))));clear H qj;intro a H;refine aH ?_;refine dK ((k+1,G)) (by exact (H).sub ⟨rfl,rfl,rfl,rfl,aC⟩) ?_ ?_
   ·(try dsimp only);exact ⟨by omega,by rw [qJ hk2,ah (by rw [Ea];simpa using wT)] at tO;exact tO,sK⟩
   first|omega|(dsimp only;omega)
  skip;refine dI hmx [[],[0],[0,1],[0,1,2],(ra 0 4),[0,1,2],[0,1,2,5],[0,1,2],[0,1,2,7],[0,1,2,5,6,7,8],[0,1,2,5,6,7,8,9],([0,1,2]++ra 5 6),(ra 0 12),(ra 0 13),(ra 0 14)] [14] (by kernel_rfl) [_,_,_,undef,undef,undef,undef,undef,undef,undef,undef,undef,undef,_] H (aG (Z0 rfl (Rm rfl)) (Z1 0 166 rfl (Rc rfl)) (Z1 1 167 rfl (Rm rfl)) (aX (j:=2) (by kernel_rfl) (fun _ _ _ _ _ h=>h) rfl rfl rfl rfl rfl (fun _ _ h=>aY h (aL (aR c3))) rfl (fun _=>rfl)) (aG (aX (j:=2) (by kernel_rfl) (fun _ _ _ _ _ h=>h) rfl rfl rfl rfl rfl (fun _ _ h=>aY h (aL (aR c3))) rfl (fun _=>rfl)) (aX (j:=2) (by kernel_rfl) (fun _ _ _ _ _ h=>h) rfl rfl rfl rfl rfl (fun _ _ h=>aY h (aL (aR c3))) rfl (fun _=>rfl)) (aX (j:=2) (by kernel_rfl) (fun _ _ _ _ _ h=>h) rfl rfl rfl rfl rfl (fun _ _ h=>aY h (aL (aR c3))) rfl (fun _=>rfl)) (aX (j:=2) (by kernel_rfl) (fun _ _ _ _ _ h=>h) rfl rfl rfl rfl rfl (fun _ _ h=>aY h (aL (aR c3))) rfl (fun _=>rfl)) (aG (aX (j:=2) (by kernel_rfl) (fun _ _ _ _ _ h=>h) rfl rfl rfl rfl rfl (fun _ _ h=>aY h (aL (aR c3))) rfl (fun _=>rfl)) (aX (j:=2) (by kernel_rfl) (fun _ _ _ _ _ h=>h) rfl rfl rfl rfl rfl (fun _ _ h=>aY h (aL (aR c3))) rfl (fun _=>rfl)) (aX (j:=2) (by kernel_rfl) (fun _ _ _ _ _ h=>h) rfl rfl rfl rfl rfl (fun _ _ h=>aY h (aL (aR c3))) rfl (fun _=>rfl)) (aX (j:=2) (by kernel_rfl) (fun _ _ _ _ _ h=>h) rfl rfl rfl rfl rfl (fun _ _ h=>aY h (aL (aR c3))) rfl (fun _=>rfl)) (bq (aX (j:=2) (by kernel_rfl) (fun _ _ _ _ _ h=>h) rfl rfl rfl rfl rfl (fun _ _ h=>aY h (aL (aR c3))) rfl (fun _=>rfl)) (bq (Z2 2 168 12 178 rfl (Pf (aR c3) rfl)) (bq (bY rfl) dD)))))) ?_
  clear H;intro a w G Ao H hv;have H:=H.aZ (hv 13 179 rfl rfl) rfl;clear hv;refine kH H (Ra rfl ?_);clear H;intro a H;refine aH ⟨rfl,?_⟩;refine AY _ _ ?_;clear AY;refine om H rfl rfl ?_;refine aS (fun _ Nj=>?_)
  have hz:¬ (0 < k∧h.marks.layers[k].key < h.marks.layers[k - 1].key):=by first|exact fun h=>c4 h.2|exact fun h=>c3 (by omega)
  replace y1:=ay Ao y1;replace y2:=ay Ao y2;replace y3:=ay Ao y3;have hge:=fun b o h=>Ao b o (hgc b o h);refine kP H (SC (Rf EY rfl (Rg uf rfl y3 (Rn rfl (Rm rfl (Sp 184 rfl ?_ ?_)))))) <;> clear H
  ·intro sG a H
   try have UQ:=dT sG
   refine kH H (YF vE sG rfl (YR aD sG rfl y2 (YC sG rfl (Pt sG rfl (aO Nj rfl (Cd rfl ?_ ?_)))))) <;> clear H Nj
   ·intro He a H
    try have UO:=dT He
    refine aS (fun _ K83=>?_);have hE:=hX 21 (by unfold mG;rw [ah Ar,ah BD,ah hz];simp_all [bQ]) (by decide);exact kP H (SC (aO K83 rfl (LR results29 rfl fun H=>H.rt (by rw [hE]))))
   intro He a H
   try have UO:=dF He
   refine kP H (Kc xE (SR fun _ Wi=>Rf EY rfl (Rg uf rfl y3 (Kz Wi (Cd rfl ?_ ?_))))) <;> clear H xE Wi
   ·intro wP a H
    try have Iu:=dT wP
    have sN:mG (aP st li rv) e k h.marks.layers[k] h.marks.layers[k - 1].key=bT [tH h.marks.layers[k].key h.marks.layers[k].before,lq st (li.map dH.id) h.marks.layers[k].key h.marks.layers[k].before]:=by unfold mG;rw [ah Ar,ah BD,ah hz,ah (by simp_all)]
    refine kP H (SQ fun _ Wj=>SR fun _ Wm=>Rf qp rfl (Rg aD rfl y1 (Rf vE rfl (Rg aD rfl y2 ?_))));clear H;intro a H;refine s_call GN H wn rfl (EO (GK _ _ H.ro h.marks.layers[k].key h.marks.layers[k].before)) rfl ?_;clear H;rintro Vw _ a w ⟨⟨_,rfl⟩,rfl⟩ - H;refine kH H (aj Wm rfl (SR fun _ Wn=>Rm rfl (Rc rfl (Kz Wn (Cd rfl ?_ ?_))))) <;> clear H Wm Wn
    ·intro wQ a H
     try have sQ:=dT wQ
     refine aS (fun _ K88=>?_);have hE:=hX _ (sN.trans (wM sQ)) sQ;exact kP H (SC (Rm rfl (aO K88 rfl (LR results29 rfl fun H=>H.rt (by rw [hE])))))
    intro wQ a H
    try have sQ:=dF wQ
    rw [jc (gH.1 sQ),CF] at sN;refine kP H (Kc Wj (SR fun _ Wo=>Rm rfl (Rf qp rfl (Rg aD rfl y1 (Rf vE rfl (Rg aD rfl y2 ?_))))));clear H Wj;intro a H;refine s_call KU H wn rfl (Mt _ _ H.ro D st li rv b v n (hck.mono hge) hmz (hge _ _ hb) h.marks.layers[k].key h.marks.layers[k].before) rfl ?_;clear H;rintro Vx _ a w ⟨rfl,rfl⟩ - H;refine kH H (aj Wo rfl (SR fun _ Wp=>Rm rfl (Rc rfl (Kz Wp (Cd rfl ?_ ?_))))) <;> clear H Wo Wp
    ·intro wR a H
     try have xg:=dT wR
     refine aS (fun _ K91=>?_);have hE:=hX _ sN xg;exact kP H (SC (Rm rfl (aO K91 rfl (LR results29 rfl fun H=>H.rt (by rw [hE])))))
    intro wR a H
    try have xg:=dF wR
    have wT:=sN.trans (gH.1 xg);have sK:=hge;refine kP H (Kc qj (SC (Rm rfl (Rd rfl (Ra rfl ?_)))));clear H qj;intro a H;refine aH ?_;refine dK ((k+1,G)) (by exact (H).sub ⟨rfl,rfl,rfl,rfl,aC⟩) ?_ ?_
    ·(try dsimp only);exact ⟨by omega,by rw [qJ hk2,ah (by rw [Ea];simpa using wT)] at tO;exact tO,sK⟩
    first|omega|(dsimp only;omega)
   intro wP a H
   try have Iu:=dF wP
   have wT:mG (aP st li rv) e k h.marks.layers[k] h.marks.layers[k - 1].key=0:=by unfold mG;rw [ah Ar,ah BD,ah hz];simp_all [bQ]
   have sK:=hge;refine kP H (Kc qj (SC (Rm rfl (Rd rfl (Ra rfl ?_)))));clear H qj;intro a H;refine aH ?_;refine dK ((k+1,G)) (by exact (H).sub ⟨rfl,rfl,rfl,rfl,aC⟩) ?_ ?_
   ·(try dsimp only);exact ⟨by omega,by rw [qJ hk2,ah (by rw [Ea];simpa using wT)] at tO;exact tO,sK⟩
   first|omega|(dsimp only;omega)
  intro sG a H
  try have UQ:=dF sG
  refine kH H (aQ sG rfl (Pf sG rfl (aO Nj rfl (Cf rfl rfl (Kc xE (SR fun _ Wq=>Rf EY rfl (Rg uf rfl y3 (Kz Wq (Cd rfl ?_ ?_))))))))) <;> clear H Nj xE Wq
  ·intro wP a H
   try have Iu:=dT wP
   have sN:mG (aP st li rv) e k h.marks.layers[k] h.marks.layers[k - 1].key=bT [tH h.marks.layers[k].key h.marks.layers[k].before,lq st (li.map dH.id) h.marks.layers[k].key h.marks.layers[k].before]:=by unfold mG;rw [ah Ar,ah BD,ah hz,ah (by simp_all)]
   refine kP H (SQ fun _ Ws=>SR fun _ Wt=>Rf qp rfl (Rg aD rfl y1 (Rf vE rfl (Rg aD rfl y2 ?_))));clear H;intro a H;refine s_call GN H wn rfl (EO (GK _ _ H.ro h.marks.layers[k].key h.marks.layers[k].before)) rfl ?_;clear H;rintro Vw _ a w ⟨⟨_,rfl⟩,rfl⟩ - H;refine kH H (aj Wt rfl (SR fun _ Wu=>Rm rfl (Rc rfl (Kz Wu (Cd rfl ?_ ?_))))) <;> clear H Wt Wu
   ·intro wQ a H
    try have sQ:=dT wQ
    refine aS (fun _ K96=>?_);have hE:=hX _ (sN.trans (wM sQ)) sQ;exact kP H (SC (Rm rfl (aO K96 rfl (LR results29 rfl fun H=>H.rt (by rw [hE])))))
   intro wQ a H
   try have sQ:=dF wQ
   rw [jc (gH.1 sQ),CF] at sN;refine kP H (Kc Ws (SR fun _ Wv=>Rm rfl (Rf qp rfl (Rg aD rfl y1 (Rf vE rfl (Rg aD rfl y2 ?_))))));clear H Ws;intro a H;refine s_call KU H wn rfl (Mt _ _ H.ro D st li rv b v n (hck.mono hge) hmz (hge _ _ hb) h.marks.layers[k].key h.marks.layers[k].before) rfl ?_;clear H;rintro Vx _ a w ⟨rfl,rfl⟩ - H;refine kH H (aj Wv rfl (SR fun _ Ww=>Rm rfl (Rc rfl (Kz Ww (Cd rfl ?_ ?_))))) <;> clear H Wv Ww
   ·intro wR a H
    try have xg:=dT wR
    refine aS (fun _ K99=>?_);have hE:=hX _ sN xg;exact kP H (SC (Rm rfl (aO K99 rfl (LR results29 rfl fun H=>H.rt (by rw [hE])))))
   intro wR a H
   try have xg:=dF wR
   have wT:=sN.trans (gH.1 xg);have sK:=hge;refine kP H (Kc qj (SC (Rm rfl (Rd rfl (Ra rfl ?_)))));clear H qj;intro a H;refine aH ?_;refine dK ((k+1,G)) (by exact (H).sub ⟨rfl,rfl,rfl,rfl,aC⟩) ?_ ?_
   ·(try dsimp only);exact ⟨by omega,by rw [qJ hk2,ah (by rw [Ea];simpa using wT)] at tO;exact tO,sK⟩
   first|omega|(dsimp only;omega)
  intro wP a H
  try have Iu:=dF wP
  have wT:mG (aP st li rv) e k h.marks.layers[k] h.marks.layers[k - 1].key=0:=by unfold mG;rw [ah Ar,ah BD,ah hz];simp_all [bQ]
  have sK:=hge;refine kP H (Kc qj (SC (Rm rfl (Rd rfl (Ra rfl ?_)))));clear H qj;intro a H;refine aH ?_;refine dK ((k+1,G)) (by exact (H).sub ⟨rfl,rfl,rfl,rfl,aC⟩) ?_ ?_
  ·(try dsimp only);exact ⟨by omega,by rw [qJ hk2,ah (by rw [Ea];simpa using wT)] at tO;exact tO,sK⟩
  first|omega|(dsimp only;omega)
 intro Sc a H
 try have alz:=dF Sc
 refine dW ?_;refine F6 _ _ ?_;clear F6;refine aS (fun _ acv=>?_)
 replace hE:fP (aP st li rv) e h=0:=by rw [hE,← tO,iw (by simp;omega)];rfl
 exact kP H (SC (aO acv rfl (LR results29 rfl fun H=>H.rt (by rw [hE]))))
end
section
open Go.RowKit
def Cv (x:aJ):Int:=if x.kind=4 then 3 else if x.kind=6 then 2 else if x.kind=8 then 4 else 0
theorem Xg (x:aJ):decide (Cv x=0)=!Bb x:=by
 unfold Cv Bb
 by_cases h4:x.kind=4
 ·simp [h4]
 by_cases h6:x.kind=6
 ·simp [h6]
 by_cases h8:x.kind=8 <;> simp [h4,h6,h8]
theorem NA (x:aJ):(decide (0 < Cv x) && (decide (x.code < 1) || decide (Cv x < x.code)))=!codeOk x:=by
 unfold Cv codeOk
 by_cases h4:x.kind=4
 ·simp only [h4,av];by_cases a:x.code < 1 <;> by_cases b:3 < x.code <;> simp [a,b] <;> omega
 by_cases h6:x.kind=6
 ·simp only [h6,av];by_cases a:x.code < 1 <;> by_cases b:2 < x.code <;> simp [a,b] <;> omega
 by_cases h8:x.kind=8
 ·simp only [h8,av];by_cases a:x.code < 1 <;> by_cases b:4 < x.code <;> simp [a,b] <;> omega
 simp [h4,h6,h8]
set_option maxHeartbeats 8000000 in
theorem akW (G:GH) (w0:World) (hG:Hold G w0) (x:aJ) (p d l:ak) (fA rA:Option Addr) (fc rc:Nat) (hs:x.text.size < 4611686018427387904) :
  Calls prog 83 #[.agg #[vi x.kind,vi x.code,vi x.id,.string x.text,p,vi x.head.marks.ins,vi x.head.marks.move,d,l,.slice fA x.flow.length fc,.slice rA x.rows.length rc]] w0 (bJ w0 G fun u G'=>u=vi (jN x)∧G=G'):=by
 refine eN [(0,_)] func83 rfl ntmps83 rfl rfl hG ?_;intro a H;refine dw (fun _ K1=>?_);refine eD (cs:=[_,_,_,_,_,_,_,_,_,_,_]) H wn rfl rfl rfl ?_;clear H;intro b1 a w hb1 H;refine kH H (aj K1 rfl (SR fun _ K2=>aj K2 rfl ?_));clear H K1 K2;intro a H;refine qL (ι:=Int) (Tc:=[(1,_)]) (Lc:=[(_,_)]) (fun gh=>[(3,vi gh)]) (fun gh=>[]) (fun gh=>G) (fun gh=>gh=Cv x) (by exact (H).sub ⟨rfl,aC⟩) ?_ ?_
 ·skip;refine kP H (SR fun _ K3=>bg gJ aD 0 rfl rfl (Kz K3 (SB (SR fun _ K4=>Rc rfl (aj K4 rfl (Cd rfl ?_ ?_)))))) <;> clear H K3 K4
  ·intro h9 a H
   try have p9:=dT h9
   refine kP H (SC (Ra rfl ?_));clear H;intro a H;refine aH ?_;refine ⟨_,by exact (H).sub ⟨rfl,rfl,aC⟩,?_⟩
   unfold Cv;first|(simp_all;done)
  intro h9 a H
  try have p9:=dF h9
  refine kP H (SR fun _ K5=>Rc rfl (aj K5 rfl (Cd rfl ?_ ?_))) <;> clear H K5
  ·intro h11 a H
   try have rQ:=dT h11
   refine kP H (SC (Ra rfl ?_));clear H;intro a H;refine aH ?_;refine ⟨_,by exact (H).sub ⟨rfl,rfl,aC⟩,?_⟩
   unfold Cv;first|(simp_all;done)
  intro h11 a H
  try have rQ:=dF h11
  refine kP H (SR fun _ K6=>Rc rfl (aj K6 rfl (Cd rfl ?_ ?_))) <;> clear H K6
  ·intro gG a H
   try have rR:=dT gG
   refine kP H (SC (Ra rfl ?_));clear H;intro a H;refine aH ?_;refine ⟨_,by exact (H).sub ⟨rfl,rfl,aC⟩,?_⟩
   unfold Cv;first|(simp_all;done)
  intro gG a H
  try have rR:=dF gG
  refine fu ?_;refine ⟨_,by exact (H).sub ⟨rfl,rfl,aC⟩,?_⟩
  unfold Cv;first|(simp_all;done)
 clear H;intro gh a w hI H;obtain ⟨cs,hgh⟩:∃ x,x=gh:=⟨_,rfl⟩;subst hgh;have hcs:=hI;dsimp only [lca,aV] at H;refine dw (fun _ K7=>?_);refine oz (ι:=Bool) (Tc:=[(1,_),(3,_)]) 8 (fun (st:Bool)=>[(22,.bool st)]) (fun (st:Bool)=>st=AO x) (by exact H.sub ⟨rfl,rfl,aC⟩) ?_ ?_
 ·intro Yy;refine kH H (bg gJ aD 0 rfl rfl (Rc rfl (Rm rfl (Sp 18 rfl ?_ ?_)))) <;> clear H
  ·intro h18 a H
   try have pG:=dT h18
   refine kH H (YF Bf h18 rfl (YO aD 0 h18 rfl (YC h18 rfl (Pt h18 rfl ?_))));clear H;intro a H;refine Yy (_) _ _ ?_ (by exact H.sub ⟨rfl,rfl,rfl,aC⟩)
   unfold AO;clear hcs;simp_all
  intro h18 a H
  try have pG:=dF h18
  refine kH H (aQ h18 rfl (Pf h18 rfl ?_));clear H;intro a H;refine Yy (_) _ _ ?_ (by exact H.sub ⟨rfl,rfl,rfl,aC⟩)
  unfold AO;clear hcs;simp_all
 clear H;intro st a w hI H;dsimp only [lca,aV] at H;simp only [nZ,mQ];have hst:=hI;refine kH H (aj K7 rfl (SR fun _ K8=>?_));clear H K7;intro a H;refine oz (ι:=Bool) (Tc:=[(1,_),(3,_),(4,_)]) 8 (fun (FM:Bool)=>[(30,.bool FM)]) (fun (FM:Bool)=>FM=decide (x.kind=1∨x.kind=5)) (by exact H.sub ⟨rfl,rfl,rfl,aC⟩) ?_ ?_
 ·intro Yq;refine kH H (bg gJ aD 0 rfl rfl (Rc rfl (Rm rfl (Sp 26 rfl ?_ ?_)))) <;> clear H
  ·intro fI a H
   try have p26:=dT fI
   refine kH H (aQ fI rfl (Pt fI rfl ?_));clear H;intro a H;refine Yq (_) _ _ ?_ (by exact H.sub ⟨rfl,rfl,rfl,rfl,aC⟩);clear hst hcs;simp_all
  intro fI a H
  try have p26:=dF fI
  refine kH H (YF gJ fI rfl (YO aD 0 fI rfl (YC fI rfl (Pf fI rfl ?_))));clear H;intro a H;refine Yq (_) _ _ ?_ (by exact H.sub ⟨rfl,rfl,rfl,rfl,aC⟩);clear hst hcs;simp_all
 clear H;intro FM a w hI H;dsimp only [lca,aV] at H;simp only [nZ,mQ];have lV:=hI;refine kH H (aj K8 rfl (SR fun _ K9=>?_));clear H K8;intro a H;refine oz (ι:=Bool) (Tc:=[(1,_),(3,_),(4,_),(5,_)]) 13 (fun (nm:Bool)=>[(43,.bool nm)]) (fun (nm:Bool)=>nm=zN x) (by exact H.sub ⟨rfl,rfl,rfl,rfl,aC⟩) ?_ ?_
 ·intro Sy;refine kH H (bg gJ aD 0 rfl rfl (Rc rfl (Rm rfl (Sp 34 rfl ?_ ?_)))) <;> clear H
  ·intro fD a H
   try have p34:=dT fD
   refine kH H (aQ fD rfl (Pt fD rfl (Rm rfl (aQ rfl rfl (Pt rfl rfl ?_)))));clear H;intro a H;refine Sy (_) _ _ ?_ (by exact H.sub ⟨rfl,rfl,rfl,rfl,rfl,aC⟩)
   unfold zN;clear hst hcs;(try clear lV);simp_all
  intro fD a H
  try have p34:=dF fD
  refine kH H (YF gJ fD rfl (YO aD 0 fD rfl (YC fD rfl (Pf fD rfl (Rm rfl (Sp 39 rfl ?_ ?_)))))) <;> clear H
  ·intro lT a H
   try have p39:=dT lT
   refine kH H (aQ lT rfl (Pt lT rfl ?_));clear H;intro a H;refine Sy (_) _ _ ?_ (by exact H.sub ⟨rfl,rfl,rfl,rfl,rfl,aC⟩)
   unfold zN;clear hst hcs;(try clear lV);simp_all
  intro lT a H
  try have p39:=dF lT
  refine kH H (YF gJ lT rfl (YO aD 0 lT rfl (YC lT rfl (Pf lT rfl ?_))));clear H;intro a H;refine Sy (_) _ _ ?_ (by exact H.sub ⟨rfl,rfl,rfl,rfl,rfl,aC⟩)
  unfold zN;clear hst hcs;(try clear lV);simp_all
 clear H;intro nm a w hI H;dsimp only [lca,aV] at H;simp only [nZ,mQ];have hnm:=hI;refine kH H (aj K9 rfl (SQ fun _ aT=>SB (SR fun _ bB=>?_)));clear H K9;intro a H;refine oz (ι:=Bool) (Tc:=[(1,_),(3,_),(4,_),(5,_),(6,_)]) 8 (fun (qa:Bool)=>[(52,.bool qa)]) (fun (qa:Bool)=>qa=!decide (1≤x.kind∧x.kind≤8)) (by exact H.sub ⟨rfl,rfl,rfl,rfl,rfl,aC⟩) ?_ ?_
 ·intro Fb;refine kH H (bg gJ aD 0 rfl rfl (Rc rfl (Rm rfl (Sp 48 rfl ?_ ?_)))) <;> clear H
  ·intro h48 a H
   try have p48:=dT h48
   refine kH H (aQ h48 rfl (Pt h48 rfl ?_));clear H;intro a H;refine Fb (_) _ _ ?_ (by exact H.sub ⟨rfl,rfl,rfl,rfl,rfl,rfl,aC⟩);rw [mE];simp only [qI,uy,vk,true_iff,eq_self_iff_true];omega
  intro h48 a H
  try have p48:=dF h48
  refine kH H (YF gJ h48 rfl (YO aD 0 h48 rfl (YC h48 rfl (Pf h48 rfl ?_))));clear H;intro a H;refine Fb (_) _ _ ?_ (by exact H.sub ⟨rfl,rfl,rfl,rfl,rfl,rfl,aC⟩);rw [mE];simp only [qI,uy,vk,true_iff,eq_self_iff_true];omega
 clear H;intro qa a w hI H;dsimp only [lca,aV] at H;simp only [nZ,mQ];have ng:=hI;refine oz (ι:=Bool) (Tc:=[(1,_),(3,_),(4,_),(5,_),(6,_)]) 15 (fun (q0:Bool)=>[(67,.bool q0)]) (fun (q0:Bool)=>q0=(!decide (1≤x.kind∧x.kind≤8) || !codeOk x)) (by exact H.sub ⟨rfl,rfl,rfl,rfl,rfl,aC⟩) ?_ ?_
 ·intro Ol;refine kH H (Rm rfl (Sp 53 rfl ?_ ?_)) <;> clear H
  ·intro fC a H
   try have p53:=dT fC
   refine kH H (aQ fC rfl (Ku rfl (Ku rfl (Ku rfl (Ku rfl (Ku rfl (Ku rfl (Ku rfl (Ku rfl (Ku rfl (Ks fC rfl (Pt fC rfl ?_))))))))))));clear H;intro a H;refine Ol (_) _ _ ?_ (by exact H.sub ⟨rfl,rfl,rfl,rfl,rfl,rfl,aC⟩)
   rw [← NA,← hcs,← ng];clear hst lV hnm hcs;(try clear hq1);(try clear hq2);(try clear hq3);(try clear hq0);(try clear ng);(try clear hq4);(try clear iy);(try clear iL);(try clear iM);first|(simp_all;done)|(simp_all;omega)
  intro fC a H
  try have p53:=dF fC
  refine kH H (YM fC rfl (YC fC rfl (YM fC rfl (Sp 56 rfl ?_ ?_)))) <;> clear H
  ·intro qy a H
   try have p56:=dT qy
   refine kH H (YF Bf qy rfl (YO aD 0 qy rfl (YC qy rfl (YM qy rfl (Sp 60 rfl ?_ ?_))))) <;> clear H
   ·intro gX a H
    try have p60:=dT gX
    refine kH H (aN gX rfl (aN gX rfl (PT qy gX rfl (PT fC qy rfl (Pf fC rfl ?_)))));clear H;intro a H;refine Ol (_) _ _ ?_ (by exact H.sub ⟨rfl,rfl,rfl,rfl,rfl,rfl,aC⟩)
    rw [← NA,← hcs,← ng];clear hst lV hnm hcs;(try clear hq1);(try clear hq2);(try clear hq3);(try clear hq0);(try clear ng);(try clear hq4);(try clear iy);(try clear iL);(try clear iM);first|(simp_all;done)|(simp_all;omega)
   intro gX a H
   try have p60:=dF gX
   refine kH H (YF Bf gX rfl (YO aD 0 gX rfl (YM gX rfl (YC gX rfl (PF qy gX rfl (PT fC qy rfl (Pf fC rfl ?_)))))));clear H;intro a H;refine Ol (_) _ _ ?_ (by exact H.sub ⟨rfl,rfl,rfl,rfl,rfl,rfl,aC⟩)
   rw [← NA,← hcs,← ng];clear hst lV hnm hcs;(try clear hq1);(try clear hq2);(try clear hq3);(try clear hq0);(try clear ng);(try clear hq4);(try clear iy);(try clear iL);(try clear iM);first|(simp_all;done)|(simp_all;omega)
  intro qy a H
  try have p56:=dF qy
  refine kH H (aN qy rfl (aN qy rfl (Ku rfl (Ku rfl (Ku rfl (Ku rfl (Ks qy rfl (PF fC qy rfl (Pf fC rfl ?_)))))))));clear H;intro a H;refine Ol (_) _ _ ?_ (by exact H.sub ⟨rfl,rfl,rfl,rfl,rfl,rfl,aC⟩)
  rw [← NA,← hcs,← ng];clear hst lV hnm hcs;(try clear hq1);(try clear hq2);(try clear hq3);(try clear hq0);(try clear ng);(try clear hq4);(try clear iy);(try clear iL);(try clear iM);first|(simp_all;done)|(simp_all;omega)
 clear H;intro q0 a w hI H;dsimp only [lca,aV] at H;simp only [nZ,mQ];have hq0:=hI;refine kH H (aj bB rfl (Cd rfl ?_ ?_)) <;> clear H bB
 ·intro lH a H
  refine aS (fun _ bC=>?_)
  have e:jN x=3:=by unfold jN;rw [av (by rw [← hq0];exact lH)]
  exact kP H (SC (aO bC rfl (LR results83 rfl fun H=>H.rt ⟨by rw [e],rfl⟩)))
 intro lH a H
 try have p44:=dF lH
 have f0:¬ (!decide (1≤x.kind∧x.kind≤8) || !codeOk x)=true:=by rw [← hq0,lH];decide
 refine dw (fun _ bK=>?_);refine oz (ι:=Bool) (Tc:=[(1,_),(4,_),(5,_),(6,_)]) 7 (fun (q1:Bool)=>[(75,.bool q1)]) (fun (q1:Bool)=>q1=(!Bb x && decide (x.code≠0))) (by exact H.sub ⟨rfl,rfl,rfl,rfl,aC⟩) ?_ ?_
 ·intro LD;refine kH H (Rm rfl (Rc rfl (Rm rfl (Sp 71 rfl ?_ ?_)))) <;> clear H
  ·intro uN a H
   try have p71:=dT uN
   refine kH H (YF Bf uN rfl (YO aD 0 uN rfl (YC uN rfl (Pt uN rfl ?_))));clear H;intro a H;refine LD (_) _ _ ?_ (by exact H.sub ⟨rfl,rfl,rfl,rfl,rfl,aC⟩);rw [← Xg,← hcs];clear hst lV hnm hcs;(try clear hq1);(try clear hq2);(try clear hq3);(try clear hq0);(try clear ng);(try clear hq4);(try clear iy);(try clear iL);(try clear iM);simp_all
  intro uN a H
  try have p71:=dF uN
  refine kH H (aQ uN rfl (Pf uN rfl ?_));clear H;intro a H;refine LD (_) _ _ ?_ (by exact H.sub ⟨rfl,rfl,rfl,rfl,rfl,aC⟩);rw [← Xg,← hcs];clear hst lV hnm hcs;(try clear hq1);(try clear hq2);(try clear hq3);(try clear hq0);(try clear ng);(try clear hq4);(try clear iy);(try clear iL);(try clear iM);simp_all
 clear H;intro q1 a w hI H;dsimp only [lca,aV] at H;simp only [nZ,mQ];have hq1:=hI;refine oz (ι:=Bool) (Tc:=[(1,_),(4,_),(5,_)]) 9 (fun (q2:Bool)=>[(84,.bool q2)]) (fun (q2:Bool)=>q2=(q1 || !zN x && decide (x.id≠0))) (by exact H.sub ⟨rfl,rfl,rfl,aC⟩) ?_ ?_
 ·intro SE;refine kH H (Rm rfl (Sp 76 rfl ?_ ?_)) <;> clear H
  ·intro sJ a H
   try have UR:=dT sJ
   refine kH H (aQ sJ rfl (Ku rfl (Ku rfl (Ku rfl (Ks sJ rfl (Pt sJ rfl ?_))))));clear H;intro a H;refine SE (_) _ _ ?_ (by exact H.sub ⟨rfl,rfl,rfl,rfl,aC⟩);rw [← hnm];clear hst lV hnm hcs;(try clear hq1);(try clear hq2);(try clear hq3);(try clear hq0);(try clear ng);(try clear hq4);(try clear iy);(try clear iL);(try clear iM);simp_all
  intro sJ a H
  try have UR:=dF sJ
  refine kH H (YM sJ rfl (YN sJ rfl (YM sJ rfl (Sp 79 rfl ?_ ?_)))) <;> clear H
  ·intro jd a H
   try have zO:=dT jd
   refine kH H (YF wL jd rfl (YO aD 0 jd rfl (YC jd rfl (PT sJ jd rfl (Pf sJ rfl ?_)))));clear H;intro a H;refine SE (_) _ _ ?_ (by exact H.sub ⟨rfl,rfl,rfl,rfl,aC⟩);rw [← hnm];clear hst lV hnm hcs;(try clear hq1);(try clear hq2);(try clear hq3);(try clear hq0);(try clear ng);(try clear hq4);(try clear iy);(try clear iL);(try clear iM);simp_all
  intro jd a H
  try have zO:=dF jd
  refine kH H (aQ jd rfl (PF sJ jd rfl (Pf sJ rfl ?_)));clear H;intro a H;refine SE (_) _ _ ?_ (by exact H.sub ⟨rfl,rfl,rfl,rfl,aC⟩);rw [← hnm];clear hst lV hnm hcs;(try clear hq1);(try clear hq2);(try clear hq3);(try clear hq0);(try clear ng);(try clear hq4);(try clear iy);(try clear iL);(try clear iM);simp_all
 clear H;intro q2 a w hI H;dsimp only [lca,aV] at H;simp only [nZ,mQ];have hq2:=hI;refine oz (ι:=Bool) (Tc:=[(1,_),(4,_),(5,_)]) 13 (fun (q3:Bool)=>[(97,.bool q3)]) (fun (q3:Bool)=>q3=(q2 || !zY x && !qo x.text)) (by exact H.sub ⟨rfl,rfl,rfl,aC⟩) ?_ ?_
 ·intro Om;refine kH H (Rm rfl (Sp 85 rfl ?_ ?_)) <;> clear H
  ·intro lU a H
   try have PE:=dT lU
   refine kH H (aQ lU rfl (Ku rfl (Ku rfl (aN lU rfl (Ku rfl (Ku rfl (Ku rfl (Ks lU rfl (Pt lU rfl ?_)))))))));clear H;intro a H;refine Om (_) _ _ ?_ (by exact H.sub ⟨rfl,rfl,rfl,rfl,aC⟩);rw [show zY x=(FM || st) by rw [lV,hst];rfl];clear hst lV hnm hcs;(try clear hq1);(try clear hq2);(try clear hq3);(try clear hq0);(try clear ng);(try clear hq4);(try clear iy);(try clear iL);(try clear iM);simp_all [qo]
  intro lU a H
  try have PE:=dF lU
  refine kH H (YM lU rfl (YN lU rfl (YM lU rfl (Sp 88 rfl ?_ ?_)))) <;> clear H
  ·intro vK a H
   try have MI:=dT vK
   refine kH H (YM vK rfl (YN vK rfl (PT lU vK rfl (YM lU rfl (Sp 92 rfl ?_ ?_))))) <;> clear H
   ·intro zx a H
    try have JQ:=dT zx
    refine kH H (YF tJ zx rfl (YO gD 0 zx rfl ?_));clear H;intro a H;refine aaR H (wg H rfl rfl zx) rfl rfl rfl ?_;clear H;intro a H;refine kH H (PT lU zx rfl (Pf lU rfl ?_));clear H;intro a H;refine Om (_) _ _ ?_ (by exact H.sub ⟨rfl,rfl,rfl,rfl,aC⟩);rw [show zY x=(FM || st) by rw [lV,hst];rfl];clear hst lV hnm hcs;(try clear hq1);(try clear hq2);(try clear hq3);(try clear hq0);(try clear ng);(try clear hq4);(try clear iy);(try clear iL);(try clear iM);simp_all [qo]
   intro zx a H
   try have JQ:=dF zx
   refine kH H (aQ zx rfl (PF lU zx rfl (Pf lU rfl ?_)));clear H;intro a H;refine Om (_) _ _ ?_ (by exact H.sub ⟨rfl,rfl,rfl,rfl,aC⟩);rw [show zY x=(FM || st) by rw [lV,hst];rfl];clear hst lV hnm hcs;(try clear hq1);(try clear hq2);(try clear hq3);(try clear hq0);(try clear ng);(try clear hq4);(try clear iy);(try clear iL);(try clear iM);simp_all [qo]
  intro vK a H
  try have MI:=dF vK
  refine kH H (aN vK rfl (PF lU vK rfl (YM lU rfl (aQ rfl rfl (PF lU rfl rfl (Pf lU rfl ?_))))));clear H;intro a H;refine Om (_) _ _ ?_ (by exact H.sub ⟨rfl,rfl,rfl,rfl,aC⟩);rw [show zY x=(FM || st) by rw [lV,hst];rfl];clear hst lV hnm hcs;(try clear hq1);(try clear hq2);(try clear hq3);(try clear hq0);(try clear ng);(try clear hq4);(try clear iy);(try clear iL);(try clear iM);simp_all [qo]
 clear H;intro q3 a w hI H;dsimp only [lca,aV] at H;simp only [nZ,mQ];have hq3:=hI;refine oz (ι:=Bool) (Tc:=[(1,_),(4,_),(5,_)]) 11 (fun (q4:Bool)=>[(108,.bool q4)]) (fun (q4:Bool)=>q4=(q3 || decide (x.kind≠6) && decide (0 < (x.flow.length:Int)))) (by exact H.sub ⟨rfl,rfl,rfl,aC⟩) ?_ ?_
 ·intro Sz;refine kH H (Rm rfl (Sp 98 rfl ?_ ?_)) <;> clear H
  ·intro oI a H
   try have MK:=dT oI
   refine kH H (aN oI rfl (aN oI rfl (Ku rfl (Ku rfl (Ku rfl (Ku rfl (Ks oI rfl (Pt oI rfl ?_))))))));clear H;intro a H;refine Sz (_) _ _ ?_ (by exact H.sub ⟨rfl,rfl,rfl,rfl,aC⟩);clear hst lV hnm hcs;(try clear hq1);(try clear hq2);(try clear hq3);(try clear hq0);(try clear ng);(try clear hq4);(try clear iy);(try clear iL);(try clear iM);simp_all
  intro oI a H
  try have MK:=dF oI
  refine kH H (YF gJ oI rfl (YO aD 0 oI rfl (YC oI rfl (YM oI rfl (Sp 102 rfl ?_ ?_))))) <;> clear H
  ·intro Bn a H
   try have alp:=dT Bn
   refine kH H (YF Al Bn rfl (YO jy 0 Bn rfl (YL lu Bn rfl (YC Bn rfl (PT oI Bn rfl (Pf oI rfl ?_))))));clear H;intro a H;refine Sz (_) _ _ ?_ (by exact H.sub ⟨rfl,rfl,rfl,rfl,aC⟩);clear hst lV hnm hcs;(try clear hq1);(try clear hq2);(try clear hq3);(try clear hq0);(try clear ng);(try clear hq4);(try clear iy);(try clear iL);(try clear iM);simp_all
  intro Bn a H
  try have alp:=dF Bn
  refine kH H (aN Bn rfl (aN Bn rfl (PF oI Bn rfl (Pf oI rfl ?_))));clear H;intro a H;refine Sz (_) _ _ ?_ (by exact H.sub ⟨rfl,rfl,rfl,rfl,aC⟩);clear hst lV hnm hcs;(try clear hq1);(try clear hq2);(try clear hq3);(try clear hq0);(try clear ng);(try clear hq4);(try clear iy);(try clear iL);(try clear iM);simp_all
 clear H;intro q4 a w hI H;dsimp only [lca,aV] at H;simp only [nZ,mQ];have hq4:=hI;refine oz (ι:=Bool) (Tc:=[(1,_),(4,_),(5,_)]) 11 (fun (q5:Bool)=>[(119,.bool q5)]) (fun (q5:Bool)=>q5=zo x) (by exact H.sub ⟨rfl,rfl,rfl,aC⟩) ?_ ?_
 ·intro SA;refine kH H (Rm rfl (Sp 109 rfl ?_ ?_)) <;> clear H
  ·intro nO a H
   try have UJ:=dT nO
   refine kH H (aN nO rfl (aN nO rfl (Ku rfl (Ku rfl (Ku rfl (Ku rfl (Ks nO rfl (Pt nO rfl ?_))))))));clear H;intro a H;refine SA (_) _ _ ?_ (by exact H.sub ⟨rfl,rfl,rfl,rfl,aC⟩);rw [show zo x=(q4 || decide (x.kind≠7) && decide (0 < (x.rows.length:Int))) by rw [hq4,hq3,hq2,hq1];rfl];clear hst lV hnm hcs;(try clear hq1);(try clear hq2);(try clear hq3);(try clear hq0);(try clear ng);(try clear hq4);(try clear iy);(try clear iL);(try clear iM);simp_all
  intro nO a H
  try have UJ:=dF nO
  refine kH H (YF gJ nO rfl (YO aD 0 nO rfl (YC nO rfl (YM nO rfl (Sp 113 rfl ?_ ?_))))) <;> clear H
  ·intro oZ a H
   try have Db:=dT oZ
   refine kH H (YF zk oZ rfl (YO zV 0 oZ rfl (YL kr oZ rfl (YC oZ rfl (PT nO oZ rfl (Pf nO rfl ?_))))));clear H;intro a H;refine SA (_) _ _ ?_ (by exact H.sub ⟨rfl,rfl,rfl,rfl,aC⟩);rw [show zo x=(q4 || decide (x.kind≠7) && decide (0 < (x.rows.length:Int))) by rw [hq4,hq3,hq2,hq1];rfl];clear hst lV hnm hcs;(try clear hq1);(try clear hq2);(try clear hq3);(try clear hq0);(try clear ng);(try clear hq4);(try clear iy);(try clear iL);(try clear iM);simp_all
  intro oZ a H
  try have Db:=dF oZ
  refine kH H (aN oZ rfl (aN oZ rfl (PF nO oZ rfl (Pf nO rfl ?_))));clear H;intro a H;refine SA (_) _ _ ?_ (by exact H.sub ⟨rfl,rfl,rfl,rfl,aC⟩);rw [show zo x=(q4 || decide (x.kind≠7) && decide (0 < (x.rows.length:Int))) by rw [hq4,hq3,hq2,hq1];rfl];clear hst lV hnm hcs;(try clear hq1);(try clear hq2);(try clear hq3);(try clear hq0);(try clear ng);(try clear hq4);(try clear iy);(try clear iL);(try clear iM);simp_all
 clear H;intro q5 a w hI H;dsimp only [lca,aV] at H;simp only [nZ,mQ];have iy:=hI;refine kH H (aj bK rfl (Cd rfl ?_ ?_)) <;> clear H bK
 ·intro h68 a H
  refine aS (fun _ bP=>?_)
  have e:jN x=15:=by unfold jN;rw [ah f0,av (by rw [← iy];exact h68)]
  exact kP H (SC (aO bP rfl (LR results83 rfl fun H=>H.rt ⟨by rw [e],rfl⟩)))
 intro h68 a H
 try have p68:=dF h68
 have f1:¬ zo x=true:=by rw [← iy,h68];decide
 refine kP H (SR fun _ dx=>bg tJ gD 0 rfl rfl ?_);clear H;intro a H;refine s_call EU H wn rfl (FL _ _ H.ro x.text hs) rfl ?_;clear H;rintro apK _ a w ⟨rfl,rfl⟩ - H;refine kH H (Rn rfl (aj dx rfl (Cd rfl ?_ ?_))) <;> clear H dx
 ·intro nI a H
  refine aS (fun _ dP=>?_)
  have e:jN x=12:=by unfold jN;rw [ah f0,ah f1,av (by simpa using nI)]
  exact kP H (SC (aO dP rfl (LR results83 rfl fun H=>H.rt ⟨by rw [e],rfl⟩)))
 intro nI a H
 try have Fy:=dF nI
 have f2:¬ sW x.text=false:=by simpa using nI
 refine dw (fun _ dB=>?_);refine oz (ι:=Bool) (Tc:=[(1,_),(4,_)]) 6 (fun (q6:Bool)=>[(131,.bool q6)]) (fun (q6:Bool)=>q6=(decide (x.kind=1∨x.kind=5) && qo x.text)) (by exact H.sub ⟨rfl,rfl,aC⟩) ?_ ?_
 ·intro LG;refine kH H (Rm rfl (Rm rfl (Sp 127 rfl ?_ ?_))) <;> clear H
  ·intro h127 a H
   try have aav:=dT h127
   refine kH H (YF tJ h127 rfl (YO gD 0 h127 rfl ?_));clear H;intro a H;refine Eo H (wg H rfl rfl h127) rfl rfl rfl ?_;clear H;intro a H;refine kH H (Pt h127 rfl ?_);clear H;intro a H;refine LG (_) _ _ ?_ (by exact H.sub ⟨rfl,rfl,rfl,aC⟩);rw [← lV];clear hst lV hnm hcs;(try clear hq1);(try clear hq2);(try clear hq3);(try clear hq0);(try clear ng);(try clear hq4);(try clear iy);(try clear iL);(try clear iM);simp_all [qo]
  intro h127 a H
  try have aav:=dF h127
  refine kH H (aQ h127 rfl (Pf h127 rfl ?_));clear H;intro a H;refine LG (_) _ _ ?_ (by exact H.sub ⟨rfl,rfl,rfl,aC⟩);rw [← lV];clear hst lV hnm hcs;(try clear hq1);(try clear hq2);(try clear hq3);(try clear hq0);(try clear ng);(try clear hq4);(try clear iy);(try clear iL);(try clear iM);simp_all [qo]
 clear H;intro q6 a w hI H;dsimp only [lca,aV] at H;simp only [nZ,mQ];have iL:=hI;refine kH H (aj dB rfl (Cd rfl ?_ ?_)) <;> clear H dB
 ·intro xS a H
  refine aS (fun _ dY=>?_)
  have e:jN x=11:=by unfold jN;rw [ah f0,ah f1,ah f2,av (by rw [← iL];exact xS)]
  exact kP H (SC (aO dY rfl (LR results83 rfl fun H=>H.rt ⟨by rw [e],rfl⟩)))
 intro xS a H
 try have aau:=dF xS
 have f3:¬ (decide (x.kind=1∨x.kind=5) && qo x.text)=true:=by rw [← iL,xS];decide
 refine dw (fun _ eP=>?_);refine oz (ι:=Bool) (Tc:=[(1,_),(4,_)]) 9 (fun (q7:Bool)=>[(141,.bool q7)]) (fun (q7:Bool)=>q7=(decide (x.kind=5) && decide (1024 < (x.text.size:Int)))) (by exact H.sub ⟨rfl,rfl,aC⟩) ?_ ?_
 ·intro Yu;refine kH H (bg gJ aD 0 rfl rfl (Rc rfl (Rm rfl (Sp 136 rfl ?_ ?_)))) <;> clear H
  ·intro qN a H
   try have UM:=dT qN
   refine kH H (YF tJ qN rfl (YO gD 0 qN rfl ?_));clear H;intro a H;refine BU iD H (wg H rfl rfl qN) rfl rfl ?_;clear H;intro a H;refine kH H (YC qN rfl (Pt qN rfl ?_));clear H;intro a H;refine Yu (_) _ _ ?_ (by exact H.sub ⟨rfl,rfl,rfl,aC⟩);clear hst lV hnm hcs;(try clear hq1);(try clear hq2);(try clear hq3);(try clear hq0);(try clear ng);(try clear hq4);(try clear iy);(try clear iL);(try clear iM);simp_all
  intro qN a H
  try have UM:=dF qN
  refine kH H (aN qN rfl (aN qN rfl (Pf qN rfl ?_)));clear H;intro a H;refine Yu (_) _ _ ?_ (by exact H.sub ⟨rfl,rfl,rfl,aC⟩);clear hst lV hnm hcs;(try clear hq1);(try clear hq2);(try clear hq3);(try clear hq0);(try clear ng);(try clear hq4);(try clear iy);(try clear iL);(try clear iM);simp_all
 clear H;intro q7 a w hI H;dsimp only [lca,aV] at H;simp only [nZ,mQ];have iM:=hI;refine kH H (aj eP rfl (Cd rfl ?_ ?_)) <;> clear H eP
 ·intro DR a H
  refine aS (fun _ dZ=>?_)
  have e:jN x=10:=by unfold jN;rw [ah f0,ah f1,ah f2,ah f3,av (by rw [← iM];exact DR)]
  exact kP H (SC (aO dZ rfl (LR results83 rfl fun H=>H.rt ⟨by rw [e],rfl⟩)))
 intro DR a H
 try have alv:=dF DR
 have f4:¬ (decide (x.kind=5) && decide (1024 < (x.text.size:Int)))=true:=by rw [← iM,DR];decide
 refine dw (fun _ eU=>?_);refine oz (ι:=Bool) (Tc:=[]) 7 (fun (q8:Bool)=>[(149,.bool q8)]) (fun (q8:Bool)=>q8=(AO x && !pO x.text)) (by exact H.sub trivial) ?_ ?_
 ·intro Yw;refine kH H (Rm rfl (Rm rfl (Sp 144 rfl ?_ ?_))) <;> clear H
  ·intro mR a H
   try have MF:=dT mR
   refine kH H (YF tJ mR rfl (YO gD 0 mR rfl ?_));clear H;intro a H;refine s_call KT H (wg H rfl rfl mR) rfl (KL _ _ H.ro x.text hs) rfl ?_;clear H;rintro apN _ a w ⟨rfl,rfl⟩ - H;refine kH H (YN mR rfl (Pt mR rfl ?_));clear H;intro a H;refine Yw (_) _ _ ?_ (by exact H.sub ⟨rfl,aC⟩);rw [← hst];clear hst lV hnm hcs;(try clear hq1);(try clear hq2);(try clear hq3);(try clear hq0);(try clear ng);(try clear hq4);(try clear iy);(try clear iL);(try clear iM);simp_all
  intro mR a H
  try have MF:=dF mR
  refine kH H (aN mR rfl (aN mR rfl (Pf mR rfl ?_)));clear H;intro a H;refine Yw (_) _ _ ?_ (by exact H.sub ⟨rfl,aC⟩);rw [← hst];clear hst lV hnm hcs;(try clear hq1);(try clear hq2);(try clear hq3);(try clear hq0);(try clear ng);(try clear hq4);(try clear iy);(try clear iL);(try clear iM);simp_all
 clear H;intro q8 a w hI H;dsimp only [lca,aV] at H;simp only [nZ,mQ];have hq8:=hI;refine kH H (aj eU rfl (Cd rfl ?_ ?_)) <;> clear H eU
 ·intro Sb a H
  refine aS (fun _ fK=>?_)
  have e:jN x=13:=by unfold jN;rw [ah f0,ah f1,ah f2,ah f3,ah f4,av (by rw [← hq8];exact Sb)]
  exact kP H (SC (aO fK rfl (LR results83 rfl fun H=>H.rt ⟨by rw [e],rfl⟩)))
 intro Sb a H
 refine fu ?_;refine aT _ _ ?_;clear aT;refine aS (fun _ gM=>?_)
 have e:jN x=0:=by unfold jN;rw [ah f0,ah f1,ah f2,ah f3,ah f4,ah (by rw [← hq8,Sb];decide)]
 exact kP H (SC (aO gM rfl (LR results83 rfl fun H=>H.rt ⟨by rw [e],rfl⟩)))
end
section
open Go.RowKit
def lC (s:CS) (z:Nat) (r:CR):Prop:=r.2.bG.length≤s.bG.length+z
theorem lC.and {s:CS} {z y q:Nat} {r:CR} {f:CS→CR} (h:lC s z r) (hq:z+y≤q) (hf:∀ s,lC s y (f s)):lC s q (gF r f):=by
 unfold lC at *
 unfold gF
 split
 ·omega
 have:=hf r.2
 omega
theorem lC.zero (s:CS) (e:Int) (q:Nat):lC s q (e,s):=by unfold lC;dsimp only;omega
theorem lC.le {s:CS} {z y:Nat} {r:CR} (h:lC s z r) (hq:z≤y):lC s y r:=by unfold lC at *;omega
theorem akj (l:List Int) (x:Int):(jU l x).length≤l.length+1:=by
 unfold jU
 split
 ·simp
 omega
theorem Qd (s:CS) (x:Int):lC s 1 (jZ s x):=akj _ _
theorem anH (body note:Bool) (t k i:Int) (s:CS):lC s 1 (lg body note t k i s):=by
 unfold lg
 (repeat' split) <;> first|exact lC.zero _ _ _|exact (lC.zero _ _ 0).and (y:=1) (by omega) fun s=>Qd _ _
mutual
theorem abB (C:iT) (body note:Bool) (t:Int):∀ (x:aJ) (s:CS),lC s (dQ x.dat) (fJ C body note t x s)
 | .mk k c i tx h f r,s=>by
  have hz:=uX (.mk k c i tx h f r);have hf:=Vu C false true t f;have hr:=abC C note (t+1) r;rw [fJ];dsimp only [aJ.text,aJ.flow,aJ.rows,aJ.head] at hz;refine (lC.zero s _ 0).and (Nat.le_of_eq (lD _)) fun s=>?_;refine lC.and (z:=1) (s:=s) (anH body note t k i ⟨_,s.bG⟩) (y:=bU f+fQ r) (by omega) fun s=>(lC.zero s _ 0).and (Nat.le_of_eq (lD _)) fun s=>?_
  by_cases h6:k=6
  ·rw [av h6];exact (hf s).le (by omega)
  rw [ah h6]
  by_cases h7:k=7
  ·rw [av h7]
   unfold lI
   by_cases c1:r.length=0
   ·rw [av c1];exact lC.zero _ _ _
   rw [ah c1]
   by_cases c2:256 < r.length
   ·rw [av c2];exact lC.zero _ _ _
   rw [ah c2];exact (hr s).le (by omega)
  rw [ah h7];exact lC.zero _ _ _
theorem anI (C:iT) (note:Bool) (t:Int):∀ (x:bS) (s:CS),lC s (dQ x.dat) (JV C note t x s)
 | .mk h cs,s=>by
  have hz:=Aa (.mk h cs);have hc:=abA C note t cs;rw [MP];dsimp only [bS.cells,bS.head] at hz ⊢;exact (lC.zero s _ 0).and (y:=jr cs) (by omega) fun s=>hc s
theorem abz (C:iT) (note:Bool) (t:Int):∀ (x:bO) (s:CS),lC s (dQ x.dat) (cellC C note t x s)
 | .mk i h f,s=>by
  have hz:=zZ (.mk i h f);have hf:=Vu C false note t f;rw [Cu];dsimp only [bO.flow,bO.head,bO.id] at hz ⊢;exact (Qd s _).and (y:=bU f) (by omega) fun s=>(lC.zero s _ 0).and (Nat.le_of_eq (lD _)) fun s=>hf s
theorem Vu (C:iT) (body note:Bool) (t:Int):∀ (l:List aJ) (s:CS),lC s (bU l) (jg C body note t l s)
 | [],s=>by rw [jg];exact lC.zero _ _ _
 | x :: r,s=>by
  rw [jg];exact (abB C body note t x s).and (y:=bU r) (by simp only [bU,iq,fE];omega) fun s=>Vu C body note t r s
theorem abC (C:iT) (note:Bool) (t:Int):∀ (l:List bS) (s:CS),lC s (fQ l) (iO C note t l s)
 | [],s=>by rw [iO];exact lC.zero _ _ _
 | x :: r,s=>by
  rw [iO];exact (anI C note t x s).and (y:=fQ r) (by simp only [fQ,iq,fE];omega) fun s=>abC C note t r s
theorem abA (C:iT) (note:Bool) (t:Int):∀ (l:List bO) (s:CS),lC s (jr l) (pK C note t l s)
 | [],s=>by rw [pK];exact lC.zero _ _ _
 | x :: r,s=>by
  rw [pK];exact (abz C note t x s).and (y:=jr r) (by simp only [jr,iq,fE];omega) fun s=>abA C note t r s
end
theorem Ja {C:iT} {body note:Bool} {t:Int} {x:aJ} {s s':CS} {e:Int} (h:fJ C body note t x s=(e,s')):s.n≤s'.n∧s'.n≤s.n+dQ x.dat∧s'.bG.length≤s.bG.length+dQ x.dat:=by
 have h1:=Vv C body note t x s;have h2:=abB C body note t x s;rw [h] at h1 h2;exact ⟨h1.1,h1.2,h2⟩
theorem acM {C:iT} {note:Bool} {t:Int} {x:bO} {s s':CS} {e:Int} (h:cellC C note t x s=(e,s')):s.n≤s'.n∧s'.n≤s.n+dQ x.dat∧s'.bG.length≤s.bG.length+dQ x.dat:=by
 have h1:=abI C note t x s;have h2:=abz C note t x s;rw [h] at h1 h2;exact ⟨h1.1,h1.2,h2⟩
theorem akz {C:iT} {body note:Bool} {t:Int} {l:List aJ} {k:Nat} (hk:k < l.length) (s:CS):jg C body note t (l.drop k) s=gF (fJ C body note t l[k] s) fun s=>jg C body note t (l.drop (k+1)) s:=by rw [nD hk,jg]
theorem amh {C:iT} {note:Bool} {t:Int} {l:List bS} {k:Nat} (hk:k < l.length) (s:CS):iO C note t (l.drop k) s=gF (JV C note t l[k] s) fun s=>iO C note t (l.drop (k+1)) s:=by rw [nD hk,iO]
theorem acX {C:iT} {note:Bool} {t:Int} {l:List bO} {k:Nat} (hk:k < l.length) (s:CS):pK C note t (l.drop k) s=gF (cellC C note t l[k] s) fun s=>pK C note t (l.drop (k+1)) s:=by rw [nD hk,pK]
theorem aos {l:List aJ} {k:Nat} (hk:k < l.length):bU (l.drop k)=1+dQ l[k].dat+bU (l.drop (k+1)):=by
 simp only [bU];rw [nD hk,iq,fE]
theorem aou {l:List bS} {k:Nat} (hk:k < l.length):fQ (l.drop k)=1+dQ l[k].dat+fQ (l.drop (k+1)):=by
 simp only [fQ];rw [nD hk,iq,fE]
theorem aop {l:List bO} {k:Nat} (hk:k < l.length):jr (l.drop k)=1+dQ l[k].dat+jr (l.drop (k+1)):=by
 simp only [jr];rw [nD hk,iq,fE]
end
section
open Go.RowKit
theorem NT:∀ args w,(callFunc 29 args).run prog w=.ok (.enter 29 args) w:=enters func29 rfl (by kernel_rfl)
theorem XL:∀ args w,(callFunc 85 args).run prog w=.ok (.enter 85 args) w:=enters func85 rfl (by kernel_rfl)
theorem Rq:∀ args w,(callFunc 30 args).run prog w=.ok (.enter 30 args) w:=enters func30 rfl (by kernel_rfl)
abbrev WA (D:jS) (b:Nat) (L0:OL) (r:CR):ak→OL→Prop:=fun u L'=>∃ v' L1 s',u=vi r.1∧L'=iZ D b v' s'.n :: L1∧xD v' s'.bG L1 L0∧(r.1=0→s'=r.2)
def Ng (m:Nat):Prop:=∀ (G:GH) (L L0:OL) (w0:World) (D:jS) (st:List bL) (li:List dH) (rv:List dh) (b:Nat) (v:ak) (s:CS) (l:List aJ) (u:ak) (body note:Bool) (t:Int),
 Cj G D st li rv→Gy st li rv→xD v s.bG L L0→ig G (iZ D b v s.n :: L) w0→au G (.sl 11 (l.map aJ.dat)) u→bU l < m→0≤t→t≤4→0≤s.n→s.n+(bU l:Nat)≤1099511627776→s.bG.length+bU l < 1099511627776 →
 Calls prog 30 #[(aM b 0),u,.bool body,.bool note,vi t] w0 (gy w0 G (iZ D b v s.n :: L) fun u G' L'=>G=G'∧WA D b L0 (jg (aP st li rv) body note t l s) u L')
theorem Pv (G:GH) (L:OL) (w0:World) (D:jS) (st:List bL) (li:List dH) (rv:List dh) (b:Nat) (v:ak) (n:Int) (hck:Cj G D st li rv) (hmz:Gy st li rv) (hO:ig G (iZ D b v n :: L) w0)
  (e:Int) (h:jm) (p d l:ak) (hh:ku G h p d l) (hz:pJ h≤4294967296) :
  Calls prog 29 #[(aM b 0),vi e,zD h p d l] w0 (gy w0 G (iZ D b v n :: L) fun u G' L'=>G=G'∧L'=iZ D b v n :: L∧u=vi (fP (aP st li rv) e h)):=by
 have hm:=GH.GD G (o:=(iZ D b v n).2) (hO.sep _ lW);exact (akV (G.add b (iZ D b v n).2) w0 hO.add D st li rv b v n (hck.mono hm) hmz (GH.I6 _ _ _) e h p d l (hh.mono hm) hz).mono fun _ _=>U5 (b:=b) (o:=(iZ D b v n).2) (R':=fun u=>u=vi (fP (aP st li rv) e h)) hO fun _ _ h=>h
theorem amd {C:iT} {h:jm} {n:Nat} (e:fP C 9 h≠0):sS C h n=fP C 9 h:=by simp [sS,bT,e]
theorem ame {C:iT} {h:jm} {n:Nat} (e:fP C 9 h=0) (h0:n=0):sS C h n=11:=by simp [sS,bT,e,h0,bQ]
theorem amf {C:iT} {h:jm} {n:Nat} (e:fP C 9 h=0) (h0:n≠0) (h1:32 < n):sS C h n=9:=by
 have h2:¬ (n:Int)=0:=by omega
 have h3:(32:Int) < n:=by omega
 simp only [sS,bT,e,bQ,fZ h2,gW h3];decide
theorem amg {C:iT} {h:jm} {n:Nat} (e:fP C 9 h=0) (h0:n≠0) (h1:¬ 32 < n):sS C h n=0:=by
 have h2:¬ (n:Int)=0:=by omega
 have h3:¬ (32:Int) < n:=by omega
 simp only [sS,bT,e,bQ,fZ h2,fZ h3];decide
set_option maxHeartbeats 4000000 in
theorem akX {m:Nat} (ih:Ng m) (hm:m≤4294967296) (G:GH) (L L0:OL) (w0:World) (D:jS) (st:List bL) (li:List dH) (rv:List dh) (b:Nat) (v:ak) (s:CS) (l:List bS) (u:ak) (note:Bool) (t:Int)
  (hck:Cj G D st li rv) (hmz:Gy st li rv) (hi:xD v s.bG L L0) (hO:ig G (iZ D b v s.n :: L) w0) (hv:au G (.sl 6 (l.map bS.dat)) u) (hz:fQ l < m) (ht0:0≤t) (BJ:t≤4) (hs0:0≤s.n) (hs1:s.n+(fQ l:Nat)≤1099511627776) (hs2:s.bG.length+fQ l < 1099511627776) :
  Calls prog 86 #[(aM b 0),u,.bool note,vi t] w0 (gy w0 G (iZ D b v s.n :: L) fun u G' L'=>G=G'∧WA D b L0 (lI l.length (fun s=>iO (aP st li rv) note t l s) s) u L'):=by
 obtain ⟨A,c,rfl,hc1,hc2,hg⟩:=hv.slice;rw [bV] at *;have hll:=IK l;obtain ⟨R,hR⟩:∃ R,R=lI l.length (fun s=>iO (aP st li rv) note t l s) s:=⟨_,rfl⟩;rw [← hR];refine jB (N:=97) (T:=[(0,_),(1,_),(2,_),(3,_)]) func86 rfl ntmps86 rfl rfl hO ?_;intro a H;refine kP H (SR fun _ K1=>aj K1 rfl (SQ fun _ K2=>SB (SR fun _ K3=>Rm rfl (Rl kr rfl (Rc rfl (aj K3 rfl (Cd rfl ?_ ?_))))))) <;> clear H K1 K3
 ·intro h16 a H
  try have p16:=dT h16
  refine aS (fun _ K4=>?_)
  have hF:R.1=11:=by rw [hR,lI,av (by omega)]
  exact kP H (SC (aO K4 rfl (LR results86 rfl fun H=>H.hp.cK (L':=iZ D b v s.n :: L) (by repeat (first|exact cO _|apply List.Sublist.cons)) ⟨rfl,v,L,s,aB vi hF.symm,rfl,hi,fun h=>absurd (hF.symm.trans h) (by decide)⟩)))
 intro h16 a H
 try have p16:=dF h16
 refine kP H (SR fun _ K5=>Rm rfl (Rl kr rfl (Rc rfl (aj K5 rfl (Cd rfl ?_ ?_))))) <;> clear H K5
 ·intro h20 a H
  try have qW:=dT h20
  refine aS (fun _ K6=>?_)
  have hF:R.1=9:=by rw [hR,lI,ah (by omega),av (by omega)]
  exact kP H (SC (aO K6 rfl (LR results86 rfl fun H=>H.hp.cK (L':=iZ D b v s.n :: L) (by repeat (first|exact cO _|apply List.Sublist.cons)) ⟨rfl,v,L,s,aB vi hF.symm,rfl,hi,fun h=>absurd (hF.symm.trans h) (by decide)⟩)))
 intro h20 a H
 try have qW:=dF h20
 rw [lI,ah (by omega),ah (by omega)] at hR;refine kP H (Kc K2 (SQ fun _ K7=>SR fun _ K8=>aj K8 rfl (SB ?_)));clear H K2 K8;intro a H;skip;refine eH (ι:=Nat × CS × ak × OL) (Tc:=[(0,_),(1,_),(2,_),(3,_)]) (Lc:=[]) (fun gh=>[(9,vi gh.1)]) (fun gh=>[iZ D b gh.2.2.1 gh.2.1.n]++gh.2.2.2) (fun gh=>G) (fun gh=>gh.1≤l.length∧iO (aP st li rv) note t (l.drop gh.1) gh.2.1=R∧xD gh.2.2.1 gh.2.1.bG gh.2.2.2 L0∧0≤gh.2.1.n∧gh.2.1.n+(fQ (l.drop gh.1):Nat)≤1099511627776∧gh.2.1.bG.length+fQ (l.drop gh.1) < 1099511627776) (fun gh=>l.length - gh.1) ((0,s,v,L)) (by exact (H).sub ⟨rfl,rfl,rfl,rfl,rfl,aC⟩) ?_ ?_
 ·exact ⟨iF _,hR.symm,hi,hs0,hs1,hs2⟩
 clear H;intro gh a w hI H;obtain ⟨k,s1,v1,L1⟩:=gh;dsimp only at hI H;obtain ⟨hk,hX,hv1,hn0,hn1,hn2⟩:=hI;dsimp only [lca,aV] at H;refine kP H (SQ fun _ K9=>SR fun _ aT=>Rm rfl (Rm rfl (Rl kr rfl (Rc rfl (Kz aT (Cd rfl ?_ ?_)))))) <;> clear H aT
 ·intro h27 a H
  try have p27:=dT h27
  have hk2:k < l.length:=by omega
  obtain ⟨o,xo,pA,pn,pc,dA,dn,dc,yA,yn,yc,cA,cn,cc,rfl,hrow,hhd,hcl⟩:=JW hk2 hg;have hcn:=hcl.len;rw [bV] at hcn;subst hcn;obtain ⟨_,cc',hce,aiU,aoY,hcg⟩:=hcl.slice
  injection hce with e1 e2 e3
  subst e1;subst e3;rw [bV] at aiU;have hzs:=aou hk2;have hzi:=Aa l[k];have Uh:=VF (jW hk2);have aiX:=IJ l[k].cells;rw [amh hk2,MP] at hX
  have rh:∀ (j:Nat) (u:ak),[.slice pA pn pc,vi l[k].head.marks.ins,vi l[k].head.marks.move,.slice dA dn dc,.slice yA yn yc][j]?=some u→aF G o (xo+k*6+0+j)=some u:=by
   intro j u hj;refine hrow j u ?_
   match j,hj with
   | 0,hj=>exact hj
   | 1,hj=>exact hj
   | 2,hj=>exact hj
   | 3,hj=>exact hj
   | 4,hj=>exact hj
   | n+5,hj=>simp at hj
  have rc:aF G o (xo+k*6+5)=some (.slice cA l[k].cells.length cc):=hrow 5 _ rfl
  have hEr:∀ e,e≠0→sS (aP st li rv) l[k].head l[k].cells.length=e→R.1=e:=fun e h1 h2=>by
   rw [← hX,uz (r:=(sS (aP st li rv) l[k].head l[k].cells.length,s1)) (by dsimp only;rw [h2];exact h1)];rw [uz (by dsimp only;rw [h2];exact h1)];exact h2
  refine kP H (Kc K9 (SQ fun _ bB=>SB (SQ fun _ bC=>SR fun _ bK=>Rm rfl (Rm rfl (Rm rfl (Ri kr iV rfl rfl (Rf EW rfl ?_)))))));clear H K9;intro a H;refine aW lJ (cs:=[.slice pA pn pc,vi l[k].head.marks.ins,vi l[k].head.marks.move,.slice dA dn dc,.slice yA yn yc]) H wn rfl rfl (fun j v hj=>H.hp.aF (rh j v hj)) rfl ?_;clear H;intro a H;refine gB NT (Li:=[]) (L:=iZ D b v1 s1.n :: L1) H wn rfl (Pv _ _ _ D st li rv b v1 s1.n hck hmz (Hp.owns (Li:=[]) H.hp) 9 l[k].head _ _ _ hhd (by omega)) rfl ?_;clear H;rintro v36 _ _ a w ⟨rfl,rfl,rfl⟩ - H;dsimp only [List.nil_append] at H;refine kH H (aj bK rfl (SR fun _ bP=>Rm rfl (Rc rfl (Kz bP (Cd rfl ?_ ?_))))) <;> clear H bK bP
  ·intro jC a H
   try have p38:=dT jC
   refine aS (fun _ dx=>?_);have hF:=hEr _ p38 (amd p38);exact kP H (SC (Rm rfl (aO dx rfl (LR results86 rfl fun H=>H.hp.cK (L':=iZ D b v1 s1.n :: L1) (by repeat (first|exact cO _|apply List.Sublist.cons)) ⟨rfl,v1,L1,s1,aB vi hF.symm,rfl,hv1,fun h=>absurd (hF.symm.trans h) p38⟩))))
  intro jC a H
  try have p38:=dF jC
  have e1:fP (aP st li rv) 9 l[k].head=0:=gH.1 p38;refine kP H (Kc bC (SQ fun _ dP=>SB (SR fun _ dB=>Rm rfl (Rm rfl (Ri kr iV rfl rfl (Rf uJ rfl (Rg uW rfl rc (Rl mh rfl (Rc rfl (aj dB rfl (Cd rfl ?_ ?_))))))))))) <;> clear H bC dB
  ·intro qO a H
   try have p40:=dT qO
   refine aS (fun _ dY=>?_);have hF:=hEr 11 (by decide) (ame e1 (by omega));exact kP H (SC (aO dY rfl (LR results86 rfl fun H=>H.hp.cK (L':=iZ D b v1 s1.n :: L1) (by repeat (first|exact cO _|apply List.Sublist.cons)) ⟨rfl,v1,L1,s1,aB vi hF.symm,rfl,hv1,fun h=>absurd (hF.symm.trans h) (by decide)⟩)))
  intro qO a H
  try have p40:=dF qO
  refine kP H (SR fun _ eP=>Rm rfl (Rm rfl (Ri kr iV rfl rfl (Rf uJ rfl (Rg uW rfl rc (Rl mh rfl (Rc rfl (aj eP rfl (Cd rfl ?_ ?_))))))))) <;> clear H eP
  ·intro h48 a H
   try have p48:=dT h48
   refine aS (fun _ dZ=>?_);have hF:=hEr 9 (by decide) (amf e1 (by omega) (by omega));exact kP H (SC (aO dZ rfl (LR results86 rfl fun H=>H.hp.cK (L':=iZ D b v1 s1.n :: L1) (by repeat (first|exact cO _|apply List.Sublist.cons)) ⟨rfl,v1,L1,s1,aB vi hF.symm,rfl,hv1,fun h=>absurd (hF.symm.trans h) (by decide)⟩)))
  intro h48 a H
  try have p48:=dF h48
  rw [tF (r:=(sS (aP st li rv) l[k].head l[k].cells.length,s1)) (amg e1 (by omega) (by omega))] at hX;dsimp only at hX;refine kP H (Kc dP (SR fun _ eU=>aj eU rfl (SB ?_)));clear H dP eU;intro a H;skip;refine eH (ι:=Nat × CS × ak × OL) (Tc:=[(0,_),(1,_),(2,_),(3,_),(9,_)]) (Lc:=[]) (fun gh=>[(11,vi gh.1)]) (fun gh=>[iZ D b gh.2.2.1 gh.2.1.n]++gh.2.2.2) (fun gh=>G) (fun gh=>gh.1≤l[k].cells.length∧pK (aP st li rv) note t (l[k].cells.drop gh.1) gh.2.1=pK (aP st li rv) note t l[k].cells s1∧xD gh.2.2.1 gh.2.1.bG gh.2.2.2 L0∧0≤gh.2.1.n∧gh.2.1.n+(jr (l[k].cells.drop gh.1):Nat)≤s1.n+(jr l[k].cells:Nat)∧gh.2.1.bG.length+jr (l[k].cells.drop gh.1)≤s1.bG.length+jr l[k].cells) (fun gh=>l[k].cells.length - gh.1) ((0,s1,v1,L1)) (by exact (H).sub ⟨rfl,rfl,rfl,rfl,rfl,rfl,aC⟩) ?_ ?_
  ·exact ⟨iF _,rfl,hv1,hn0,Int.le_refl _,dJ _⟩
  clear H;intro gh a w hI H;obtain ⟨j,s2,v2,L2⟩:=gh;dsimp only at hI H;obtain ⟨hj,hY,hv2,hm0,hm1,hm2⟩:=hI;dsimp only [lca,aV] at H;refine kP H (SQ fun _ fK=>SR fun _ gM=>Rm rfl (Rm rfl (Rm rfl (Ri kr iV rfl rfl (Rf uJ rfl (Rg uW rfl rc (Rl mh rfl (Rc rfl (Kz gM (Cd rfl ?_ ?_)))))))))) <;> clear H gM
  ·intro h63 a H
   try have p63:=dT h63
   have hj2:j < l[k].cells.length:=by omega
   obtain ⟨o2,xo2,El,FB,pc2,DF,ET,DI,FP,FR,FQ,GQ,GY,GR,rfl,hrow2,LV,Tp⟩:=GJ hj2 hcg;have aki:=aop hj2;have akh:=zZ l[k].cells[j];have apv:=VD (jW hj2);rw [acX hj2,Cu] at hY
   have pz:∀ e s9,e≠0→cellC (aP st li rv) note t l[k].cells[j] s2=(e,s9)→R.1=e:=fun e s9 h1 h2=>by
    rw [Cu] at h2;rw [h2,uz (by exact h1)] at hY;rw [← hX,← hY,uz (by exact h1)]
   refine kP H (Kc fK (SQ fun _ iC=>SB (SR fun _ gu=>Rm rfl (Rm rfl (Ri kr iV rfl rfl (Rf uJ rfl (Rg uW rfl rc (Rm rfl (Ri mh iQ rfl rfl ?_)))))))));clear H fK;intro a H;refine aW iQ (cs:=[vi l[k].cells[j].id,.slice El FB pc2,vi l[k].cells[j].head.marks.ins,vi l[k].cells[j].head.marks.move,.slice DF ET DI,.slice FP FR FQ,.slice GQ GY GR]) H wn rfl rfl (fun j v hj=>H.hp.aF (hrow2 j v hj)) rfl ?_;clear H;intro a H;refine dU iQ H wn rfl ?_;clear H;intro b12 a w Fg H;refine bN iQ 0 (vs:=[_,_,_,_,_,_,_]) _ H wn rfl rfl rfl rfl rfl rfl rfl rfl ?_;clear H;intro w H;dsimp only [List.set,setRow] at H;refine gu _ _ ?_;clear gu;refine kP H (SQ fun _ iX=>SR fun _ jo=>Rm rfl (bg Cw aD 0 rfl rfl ?_));clear H;intro a H;refine gB XL (Li:=[_]) (L:=iZ D b v2 s2.n :: L2) H wn rfl (aaf _ _ L0 _ D b v2 s2 l[k].cells[j].id hv2 (Hp.owns (Li:=[_]) H.hp) (by omega)) rfl ?_;clear H;rintro v77 _ _ a w ⟨rfl,v3,L3,rfl,rfl,hv3⟩ - H;dsimp only [lca,aV] at H;refine kH H (aj jo rfl (SR fun _ iN=>Rm rfl (Rc rfl (Kz iN (Cd rfl ?_ ?_))))) <;> clear H jo iN
   ·intro jd a H
    try have zO:=dT jd
    refine aS (fun _ kJ=>?_);have hF:=pz (jZ s2 l[k].cells[j].id).1 _ zO (by rw [Cu,uz zO]);exact kP H (SC (Rm rfl (aO kJ rfl (LR results86 rfl fun H=>H.hp.cK (L':=iZ D b v3 s2.n :: L3) (by repeat (first|exact cO _|apply List.Sublist.cons)) ⟨rfl,v3,L3,⟨s2.n,(jZ s2 l[k].cells[j].id).2.bG⟩,aB vi hF.symm,rfl,hv3,fun h=>absurd (hF.symm.trans h) zO⟩))))
   intro jd a H
   try have zO:=dF jd
   have NQ:(jZ s2 l[k].cells[j].id).1=0:=gH.1 zO;have hub:=Qd s2 l[k].cells[j].id
   unfold lC at hub
   obtain ⟨s3,hs3⟩:∃ s3,s3=(jZ s2 l[k].cells[j].id).2:=⟨_,rfl⟩
   have JJ:s3.n=s2.n:=by rw [hs3];rfl
   rw [← hs3] at hv3 hub;rw [← JJ] at H;refine kP H (Kc iX (SQ fun _ kK=>SR fun _ jA=>Rm rfl (Rf Jm rfl ?_)));clear H iX;intro a H;refine aW lJ (cs:=[.slice El FB pc2,vi l[k].cells[j].head.marks.ins,vi l[k].cells[j].head.marks.move,.slice DF ET DI,.slice FP FR FQ]) H wn rfl rfl (H.hp.dX 0 rfl rfl) rfl ?_;clear H;intro a H;refine gB NT (Li:=[_]) (L:=iZ D b v3 s3.n :: L3) H wn rfl (Pv _ _ _ D st li rv b v3 s3.n hck hmz (Hp.owns (Li:=[_]) H.hp) 10 l[k].cells[j].head _ _ _ LV (by omega)) rfl ?_;clear H;rintro v84 _ _ a w ⟨rfl,rfl,rfl⟩ - H;dsimp only [lca,aV] at H;refine kH H (aj jA rfl (SR fun _ kT=>Rm rfl (Rc rfl (Kz kT (Cd rfl ?_ ?_))))) <;> clear H jA kT
   ·intro Sj a H
    try have MG:=dT Sj
    refine aS (fun _ kU=>?_);have hF:=pz (fP (aP st li rv) 10 l[k].cells[j].head) s3 MG (by rw [Cu,tF NQ,← hs3,uz (by exact MG)]);exact kP H (SC (Rm rfl (aO kU rfl (LR results86 rfl fun H=>H.hp.cK (L':=iZ D b v3 s3.n :: L3) (by repeat (first|exact cO _|apply List.Sublist.cons)) ⟨rfl,v3,L3,s3,aB vi hF.symm,rfl,hv3,fun h=>absurd (hF.symm.trans h) MG⟩))))
   intro Sj a H
   try have MG:=dF Sj
   have e86:fP (aP st li rv) 10 l[k].cells[j].head=0:=gH.1 MG;refine kP H (Kc kK (SR fun _ lM=>Rm rfl (bg Cx jy 0 rfl rfl (Rm rfl (Rm rfl ?_)))));clear H kK;intro a H;refine gB Rq (Li:=[_]) (L:=iZ D b v3 s3.n :: L3) H wn rfl (ih _ _ L0 _ D st li rv b v3 s3 l[k].cells[j].flow _ false note t hck hmz hv3 (Hp.owns (Li:=[_]) H.hp) Tp (by omega) ht0 BJ (by omega) (by omega) (by omega)) rfl ?_;clear H;rintro v93 _ _ a w ⟨rfl,v5,L5,s5,rfl,rfl,hv5,h5⟩ - H;dsimp only [lca,aV] at H
   have YP:cellC (aP st li rv) note t l[k].cells[j] s2=jg (aP st li rv) false note t l[k].cells[j].flow s3:=by rw [Cu,tF NQ,← hs3,tF (r:=(fP (aP st li rv) 10 l[k].cells[j].head,s3)) e86]
   refine kH H (aj lM rfl (SR fun _ lN=>Rm rfl (Rc rfl (Kz lN (Cd rfl ?_ ?_))))) <;> clear H lM lN
   ·intro Hf a H
    try have Ej:=dT Hf
    refine aS (fun _ lQ=>?_);have hF:=pz _ _ Ej YP;exact kP H (SC (Rm rfl (aO lQ rfl (LR results86 rfl fun H=>H.hp.cK (L':=iZ D b v5 s5.n :: L5) (by repeat (first|exact cO _|apply List.Sublist.cons)) ⟨rfl,v5,L5,s5,aB vi hF.symm,rfl,hv5,fun h=>absurd (hF.symm.trans h) Ej⟩))))
   intro Hf a H
   try have Ej:=dF Hf
   have Xo:=gH.1 Ej;have hs5:=h5 Xo
   have hcell:cellC (aP st li rv) note t l[k].cells[j] s2=(0,s5):=by rw [YP,hs5,← Xo]
   obtain ⟨z1,z2,z3⟩:=acM hcell
   have hC:pK (aP st li rv) note t (l[k].cells.drop (j+1)) s5=pK (aP st li rv) note t l[k].cells s1:=by
    rw [Cu] at hcell;rw [hcell,tF rfl] at hY;exact hY
   refine kP H (Kc iC (SC (Rm rfl (Rd rfl (Ra rfl ?_)))));clear H iC;intro a H;refine aH ?_;refine dK ((j+1,s5,v5,L5)) (by exact (H.dS (Pl:=[_,_]) (dL:=[_]) [1] (by decide) rfl).sub ⟨rfl,rfl,rfl,rfl,rfl,rfl,aC⟩) ?_ ?_
   ·(try dsimp only);exact ⟨by omega,hC,hv5,by omega,by omega,by omega⟩
   first|omega|(dsimp only;omega)
  intro h63 a H
  try have p63:=dF h63
  have hj3:l[k].cells.drop j=[]:=iw (by omega);rw [hj3,pK] at hY;rw [← hY,tF rfl] at hX;have hB:iO (aP st li rv) note t (l.drop (k+1)) s2=iO (aP st li rv) note t (l.drop (k+1)) s2:=rfl;rw [hj3] at hm1 hm2;have hz0:jr []=0:=rfl;refine dW ?_;refine bB _ _ ?_;clear bB;refine kP H (SC (Rm rfl (Rd rfl (Ra rfl ?_))));clear H;intro a H;refine aH ?_;refine dK ((k+1,s2,v2,L2)) (by exact (H).sub ⟨rfl,rfl,rfl,rfl,rfl,aC⟩) ?_ ?_
  ·(try dsimp only);exact ⟨by omega,by rw [hB];exact hX,hv2,by omega,by omega,by omega⟩
  first|omega|(dsimp only;omega)
 intro h27 a H
 try have p27:=dF h27
 have hk3:l.drop k=[]:=iw (by omega);rw [hk3,iO] at hX;refine dW ?_;refine K7 _ _ ?_;clear K7;exact kP H (SR fun _ mo=>aj mo rfl (LR results86 rfl fun H=>H.hp.eB ⟨rfl,v1,L1,s1,aB vi (by rw [← hX]),rfl,hv1,fun _=>by rw [← hX]⟩))
end
section
open Go.RowKit
theorem agu:∀ args w,(callFunc 86 args).run prog w=.ok (.enter 86 args) w:=enters func86 rfl (by kernel_rfl)
theorem agt:∀ args w,(callFunc 83 args).run prog w=.ok (.enter 83 args) w:=enters func83 rfl (by kernel_rfl)
theorem RF:dV prog 75 3 13:=⟨by kernel_rfl⟩
theorem alN {body note:Bool} {t k i:Int} {s:CS} {q:Bool} (hq:q=(decide (k=3) && !body || decide (k=6) && note)) (h:q=true):lg body note t k i s=(19,s):=by
 subst hq
 unfold lg
 rcases Bool.or_eq_true_iff.1 h with h|h
 ·obtain ⟨h1,h2⟩:=Bool.and_eq_true_iff.1 h;rw [av (tC h1),h2];rfl
 obtain ⟨h1,h2⟩:=Bool.and_eq_true_iff.1 h;have h3:=tC h1;subst h3;rw [ah (by decide),av rfl,h2];rfl
theorem alO {body note:Bool} {t k i:Int} {s:CS} (h:¬ (decide (k=3) && !body || decide (k=6) && note)=true) (h7:k=7→¬ 4≤t) (h8:k=8→1≤i∧i≤1073741824):lg body note t k i s=if k=6∨k=7 then jZ s i else (0,s):=by
 unfold lg
 by_cases k3:k=3
 ·subst k3;rw [av rfl,ah (by decide)]
  cases body
  ·exact absurd rfl h
  rfl
 rw [ah k3]
 by_cases k6:k=6
 ·subst k6;rw [av rfl,av (by decide)]
  cases note
  ·exact tF rfl
  exact absurd (by simp) h
 rw [ah k6]
 by_cases k7:k=7
 ·subst k7;rw [av rfl,av (by decide),show bQ (decide (4≤t)) 17=0 by rw [bQ,ah (by simpa using h7 rfl)]];exact tF rfl
 rw [ah k7,ah (show ¬ (k=6∨k=7) by omega)]
 by_cases k8:k=8
 ·rw [av k8,gW (h8 k8)];rfl
 rw [ah k8]
theorem alL {body note:Bool} {t i:Int} {s:CS} (h:4≤t):lg body note t 7 i s=(17,s):=by
 unfold lg
 rw [ah (by decide),ah (by decide),av rfl,gW h];rfl
theorem alM {body note:Bool} {t i:Int} {s:CS} (h:¬ (1≤i∧i≤1073741824)):lg body note t 8 i s=(18,s):=by
 unfold lg
 rw [ah (by decide),ah (by decide),ah (by decide),av rfl,fZ h];rfl
set_option maxHeartbeats 8000000 in
theorem akU {m:Nat} (ih:Ng m) (hm:m≤4294967296):Ng (m+1):=by
 intro G L L0 w0 D st li rv b v s l u body note t hck hmz hi hO hv hz ht0 BJ hs0 hs1 hs2;obtain ⟨A,c,rfl,hc1,hc2,hg⟩:=hv.slice;rw [bV] at *;have hll:=FT l;obtain ⟨R,hR⟩:∃ R,R=jg (aP st li rv) body note t l s:=⟨_,rfl⟩;rw [← hR];refine jB (N:=139) (T:=[(0,_),(1,_),(2,_),(3,_),(4,_)]) func30 rfl ntmps30 rfl rfl hO ?_;intro a H;refine kP H (SR fun _ K1=>aj K1 rfl (SQ fun _ K2=>SR fun _ K3=>aj K3 rfl (SB ?_)));clear H K1 K3;intro a H;skip;refine eH (ι:=Nat × CS × ak × OL) (Tc:=[(0,_),(1,_),(2,_),(3,_),(4,_)]) (Lc:=[]) (fun gh=>[(11,vi gh.1)]) (fun gh=>[iZ D b gh.2.2.1 gh.2.1.n]++gh.2.2.2) (fun gh=>G) (fun gh=>gh.1≤l.length∧jg (aP st li rv) body note t (l.drop gh.1) gh.2.1=R∧xD gh.2.2.1 gh.2.1.bG gh.2.2.2 L0∧0≤gh.2.1.n∧gh.2.1.n+(bU (l.drop gh.1):Nat)≤1099511627776∧gh.2.1.bG.length+bU (l.drop gh.1) < 1099511627776) (fun gh=>l.length - gh.1) ((0,s,v,L)) (by exact (H).sub ⟨rfl,rfl,rfl,rfl,rfl,rfl,aC⟩) ?_ ?_
 ·exact ⟨iF _,hR.symm,hi,hs0,hs1,hs2⟩
 clear H;intro gh a w hI H;obtain ⟨k,s1,v1,L1⟩:=gh;dsimp only at hI H;obtain ⟨hk,hX,hv1,hn0,hn1,hn2⟩:=hI;dsimp only [lca,aV] at H;refine kP H (SQ fun _ K4=>SR fun _ K5=>Rm rfl (Rm rfl (Rl lu rfl (Rc rfl (Kz K5 (Cd rfl ?_ ?_)))))) <;> clear H K5
 ·intro h23 a H
  try have AA:=dT h23
  have hk2:k < l.length:=by omega
  obtain ⟨o,xo,pA,pn,pc,dA,dn,dc,yA,yn,yc,fA,fn,fc,rA,rn,rc,rfl,hrow,hhd,hfl,hrw⟩:=GX hk2 hg;have hfn:=hfl.len;rw [bV] at hfn;subst hfn;have hrn:=hrw.len;rw [bV] at hrn;subst hrn;have hzs:=aos hk2;have hzi:=uX l[k];have Uh:=M9 (jW hk2);rw [akz hk2] at hX;obtain ⟨x,hx⟩:∃ x,x=l[k]:=⟨_,rfl⟩;rw [← hx] at hX hrow hhd hfl hrw hzs hzi Uh;have hcl:=Jf x.text
  have Uc:gU x≤x.text.size+1:=by unfold gU;split <;> omega
  have pz:∀ e s9,e≠0→fJ (aP st li rv) body note t x s1=(e,s9)→R.1=e:=fun e s9 h1 h2=>by rw [← hX,h2,uz (by exact h1)]
  have hN:∀ {s9},fJ (aP st li rv) body note t x s1=(0,s9)→jg (aP st li rv) body note t (l.drop (k+1)) s9=R:=fun {s9} h2=>by rw [h2,tF rfl] at hX;exact hX
  have jf:=O8 (aP st li rv) body note t x s1;refine kP H (Kc K4 (SQ fun _ K6=>SB (SR fun _ K7=>Rm rfl (Rm rfl (Ri lu eZ rfl rfl ?_)))));clear H K4;intro a H;refine aW eZ (cs:=[vi x.kind,vi x.code,vi x.id,.string x.text,.slice pA pn pc,vi x.head.marks.ins,vi x.head.marks.move,.slice dA dn dc,.slice yA yn yc,.slice fA x.flow.length fc,.slice rA x.rows.length rc]) H wn rfl rfl (fun j v hj=>H.hp.aF (hrow j v hj)) rfl ?_;clear H;intro a H;refine dU eZ H wn rfl ?_;clear H;intro b12 a w Fg H;refine bN eZ 0 (vs:=[_,_,_,_,_,_,_,_,_,_,_]) _ H wn rfl rfl rfl rfl rfl rfl rfl rfl ?_;clear H;intro w H;dsimp only [List.set,setRow] at H;refine K7 _ _ ?_;clear K7;refine aS (fun _ K8=>?_);refine dw (fun _ K9=>?_);refine aW eZ (cs:=[vi x.kind,vi x.code,vi x.id,.string x.text,.slice pA pn pc,vi x.head.marks.ins,vi x.head.marks.move,.slice dA dn dc,.slice yA yn yc,.slice fA x.flow.length fc,.slice rA x.rows.length rc]) H wn rfl rfl (H.hp.dX 0 rfl rfl) rfl ?_;clear H;intro a H;refine s_call agt H wn rfl (akW _ _ H.ro x _ _ _ _ _ _ _ (by omega)) rfl ?_;clear H;rintro v31 _ a w ⟨rfl,rfl⟩ - H;refine kH H (aj K9 rfl (SR fun _ aT=>Rm rfl (Rc rfl (Kz aT (Cd rfl ?_ ?_))))) <;> clear H K9 aT
  ·intro lG a H
   try have p33:=dT lG
   refine aS (fun _ bB=>?_);have hF:=pz (jN x) s1 p33 (by rw [jf,uz (by exact p33)]);exact kP H (SC (Rm rfl (aO bB rfl (LR results30 rfl fun H=>H.hp.cK (L':=iZ D b v1 s1.n :: L1) (by repeat (first|exact cO _|apply List.Sublist.cons)) ⟨rfl,v1,L1,s1,aB vi hF.symm,rfl,hv1,fun h=>absurd (hF.symm.trans h) p33⟩))))
  intro lG a H
  try have p33:=dF lG
  have e1:jN x=0:=gH.1 p33;rw [tF (r:=(jN x,s1)) e1] at jf;dsimp only at jf;refine kP H (Kc K8 (SR fun _ bC=>bg tJ gD 0 rfl rfl ?_));clear H K8;intro a H;refine s_call NZ H wn rfl (NC _ _ H.ro x.text (by omega)) rfl ?_;clear H;rintro v38 _ a w ⟨rfl,rfl⟩ - H;refine kH H (Rm rfl ?_);clear H;intro a H;(iterate 2 refine uT H wn rfl rfl rfl ?_;clear H;intro a H);refine kH H (Ra rfl (aj bC rfl ?_));clear H bC;intro a H;refine qL (ι:=Int) (Tc:=[(0,_),(1,_),(2,_),(3,_),(4,_),(11,_),(12,_)]) (Lc:=[(_,_),(_,_)]) (fun gh=>[(14,vi gh)]) (fun gh=>[]++L1) (fun gh=>G) (fun gh=>gh=(gU x:Nat)) (by exact (H).sub ⟨rfl,rfl,rfl,rfl,rfl,rfl,rfl,aC⟩) ?_ ?_
  ·skip;refine kP H (SR fun _ bK=>bg gJ aD 0 rfl rfl (Rc rfl (Kz bK (Cd rfl ?_ ?_)))) <;> clear H bK
   ·intro h43 a H
    try have p43:=dT h43
    refine kP H (SC (Ra rfl ?_));clear H;intro a H;refine aH ?_;refine ⟨_,by exact (H).sub ⟨rfl,rfl,rfl,rfl,rfl,rfl,rfl,rfl,aC⟩,?_⟩
    unfold gU;first|rw [av (by simpa using p43)]|(rw [ah (by simpa using p43)];rfl)
   intro h43 a H
   try have p43:=dF h43
   refine fu ?_;refine ⟨_,by exact (H).sub ⟨rfl,rfl,rfl,rfl,rfl,rfl,rfl,rfl,aC⟩,?_⟩
   unfold gU;first|rw [av (by simpa using p43)]|(rw [ah (by simpa using p43)];rfl)
  clear H;intro gh a w hI H;obtain ⟨un,hgh⟩:∃ x,x=gh:=⟨_,rfl⟩;subst hgh;have hun:=hI;dsimp only [lca,aV] at H;refine kP H (SR fun _ bP=>Rm rfl (Rm rfl (Rk rfl (bg RF aD 1 rfl rfl (Rm rfl (Rd rfl (Rk rfl (Rf RF rfl ?_))))))));clear H;intro a H;refine bN aD 1 (vs:=[_]) _ H wn rfl rfl rfl rfl rfl rfl rfl rfl ?_;clear H;intro w H;dsimp only [List.set,setRow] at H;refine bP _ _ ?_;clear bP;refine kP H (SQ fun _ dx=>SB (SQ fun _ dP=>?_));clear H;intro a H
  have hsn:s1.n+un=s1.n+(gU x:Nat):=by omega
  rw [hsn] at H;obtain ⟨s2,hs2⟩:∃ s2:CS,s2=⟨s1.n+(gU x:Nat),s1.bG⟩:=⟨_,rfl⟩;rw [← hs2] at jf
  have Zr:s2.n=s1.n+(gU x:Nat):=by rw [hs2]
  have OV:s2.bG=s1.bG:=by rw [hs2]
  rw [← Zr] at H;rw [← OV] at hv1;refine nG ?_;refine oz (ι:=Bool) (Tc:=[(0,_),(1,_),(2,_),(3,_),(4,_),(11,_),(12,_)]) 15 (fun (q1:Bool)=>[(68,.bool q1)]) (fun (q1:Bool)=>q1=(decide (x.kind=3) && !body || decide (x.kind=6) && note)) (by exact H.sub ⟨rfl,rfl,rfl,rfl,rfl,rfl,rfl,aC⟩) ?_ ?_
  ·intro Fb;refine kH H (bg gJ aD 0 rfl rfl (Rc rfl (Rm rfl (Sp 57 rfl ?_ ?_)))) <;> clear H
   ·intro h57 a H
    try have p57:=dT h57
    refine kH H (YM h57 rfl (YN h57 rfl (Pt h57 rfl (Rm rfl (Sp 61 rfl ?_ ?_))))) <;> clear H
    ·intro pV a H
     try have p61:=dT pV
     refine kH H (aN pV rfl (aN pV rfl (Ku rfl (Ks pV rfl (Pt pV rfl ?_)))));clear H;intro a H;refine Fb (_) _ _ ?_ (by exact H.sub ⟨rfl,rfl,rfl,rfl,rfl,rfl,rfl,rfl,aC⟩)
     clear jf pz hN hX;first|(simp_all;done)|(simp_all;omega)
    intro pV a H
    try have p61:=dF pV
    refine kH H (YF gJ pV rfl (YO aD 0 pV rfl (YC pV rfl (YM pV rfl (Sp 65 rfl ?_ ?_))))) <;> clear H
    ·intro lZ a H
     try have p65:=dT lZ
     refine kH H (YM lZ rfl (PT pV lZ rfl (Pf pV rfl ?_)));clear H;intro a H;refine Fb (_) _ _ ?_ (by exact H.sub ⟨rfl,rfl,rfl,rfl,rfl,rfl,rfl,rfl,aC⟩)
     clear jf pz hN hX;first|(simp_all;done)|(simp_all;omega)
    intro lZ a H
    try have p65:=dF lZ
    refine kH H (Ks lZ rfl (PF pV lZ rfl (Pf pV rfl ?_)));clear H;intro a H;refine Fb (_) _ _ ?_ (by exact H.sub ⟨rfl,rfl,rfl,rfl,rfl,rfl,rfl,rfl,aC⟩)
    clear jf pz hN hX;first|(simp_all;done)|(simp_all;omega)
   intro h57 a H
   try have p57:=dF h57
   refine kH H (aN h57 rfl (Pf h57 rfl (Rm rfl ?_)));clear H;intro a H;refine J2 gJ H (wg H rfl rfl rfl) rfl rfl ?_;clear H;intro a H;refine zT aD H (wg H rfl rfl rfl) rfl (H.hp.tV 0 rfl rfl) rfl ?_;clear H;intro a H;refine MR H (wg H rfl rfl rfl) rfl rfl rfl rfl ?_;clear H;intro a H;refine J4 H (wg H rfl rfl rfl) rfl rfl ?_;clear H;intro a H;refine Vb H 65 rfl ?_ ?_
   ·intro lZ
    try have p65:=dT lZ
    refine kH H (YM lZ rfl ?_);clear H;intro a H;refine MU H (wg H rfl rfl rfl) rfl lZ rfl rfl ?_;clear H;intro a H;refine kH H (Pf rfl rfl ?_);clear H;intro a H;refine Fb (_) _ _ ?_ (by exact H.sub ⟨rfl,rfl,rfl,rfl,rfl,rfl,rfl,rfl,aC⟩)
    clear jf pz hN hX;first|(simp_all;done)|(simp_all;omega)
   intro lZ
   try have p65:=dF lZ
   refine kH H (Ks lZ rfl ?_);clear H;intro a H;refine P5 H (wg H rfl rfl rfl) rfl lZ rfl rfl ?_;clear H;intro a H;refine kH H (Pf rfl rfl ?_);clear H;intro a H;refine Fb (_) _ _ ?_ (by exact H.sub ⟨rfl,rfl,rfl,rfl,rfl,rfl,rfl,rfl,aC⟩)
   clear jf pz hN hX;first|(simp_all;done)|(simp_all;omega)
  clear H;intro q1 a w hI H;dsimp only [lca,aV] at H;simp only [nZ,mQ];have hq1:=hI;refine kH H (aO dP rfl (Cd rfl ?_ ?_)) <;> clear H dP
  ·intro fC a H
   try have p53:=dT fC
   refine aS (fun _ dB=>?_);have hF:=pz 19 s2 (by decide) (by rw [jf,alN hq1 fC,uz (r:=(19,s2)) (show (19:Int)≠0 by decide)]);exact kP H (SC (aO dB rfl (LR results30 rfl fun H=>H.hp.cK (L':=iZ D b v1 s2.n :: L1) (by repeat (first|exact cO _|apply List.Sublist.cons)) ⟨rfl,v1,L1,s2,aB vi hF.symm,rfl,hv1,fun h=>absurd (hF.symm.trans h) (by decide)⟩)))
  intro fC a H
  try have p53:=dF fC
  have TQ:¬ (decide (x.kind=3) && !body || decide (x.kind=6) && note)=true:=by rw [← hq1,fC];decide
  refine dw (fun _ dY=>?_);refine oz (ι:=Bool) (Tc:=[(0,_),(1,_),(2,_),(3,_),(4,_),(11,_),(12,_)]) 7 (fun (q2:Bool)=>[(76,.bool q2)]) (fun (q2:Bool)=>q2=(decide (x.kind=7) && decide (4≤t))) (by exact H.sub ⟨rfl,rfl,rfl,rfl,rfl,rfl,rfl,aC⟩) ?_ ?_
  ·intro LD;refine kH H (bg gJ aD 0 rfl rfl (Rc rfl (Rm rfl (Sp 73 rfl ?_ ?_)))) <;> clear H
   ·intro kW a H
    try have p73:=dT kW
    refine kH H (YM kW rfl (YC kW rfl (Pt kW rfl ?_)));clear H;intro a H;refine LD (_) _ _ ?_ (by exact H.sub ⟨rfl,rfl,rfl,rfl,rfl,rfl,rfl,rfl,aC⟩)
    clear jf pz hN hX;first|(simp_all;done)|(simp_all;omega)
   intro kW a H
   try have p73:=dF kW
   refine kH H (aN kW rfl (Pf kW rfl ?_));clear H;intro a H;refine LD (_) _ _ ?_ (by exact H.sub ⟨rfl,rfl,rfl,rfl,rfl,rfl,rfl,rfl,aC⟩)
   clear jf pz hN hX;first|(simp_all;done)|(simp_all;omega)
  clear H;intro q2 a w hI H;dsimp only [lca,aV] at H;simp only [nZ,mQ];have hq2:=hI;refine kH H (aj dY rfl (Cd rfl ?_ ?_)) <;> clear H dY
  ·intro gY a H
   try have p69:=dT gY
   refine aS (fun _ eP=>?_);rw [gY] at hq2;have hq3:=Bool.and_eq_true_iff.1 hq2.symm;have hF:=pz 17 s2 (by decide) (by rw [jf,tC hq3.1,alL (tC hq3.2),uz (r:=(17,s2)) (show (17:Int)≠0 by decide)]);exact kP H (SC (aO eP rfl (LR results30 rfl fun H=>H.hp.cK (L':=iZ D b v1 s2.n :: L1) (by repeat (first|exact cO _|apply List.Sublist.cons)) ⟨rfl,v1,L1,s2,aB vi hF.symm,rfl,hv1,fun h=>absurd (hF.symm.trans h) (by decide)⟩)))
  intro gY a H
  try have p69:=dF gY
  have OQ:x.kind=7→¬ 4≤t:=fun h1 h2=>by rw [gY,gW h1,gW h2] at hq2;cases hq2
  refine dw (fun _ dZ=>?_);refine oz (ι:=Bool) (Tc:=[(0,_),(1,_),(2,_),(3,_),(4,_),(11,_),(12,_)]) 13 (fun (q3:Bool)=>[(90,.bool q3)]) (fun (q3:Bool)=>q3=(decide (x.kind=8) && !decide (1≤x.id∧x.id≤1073741824))) (by exact H.sub ⟨rfl,rfl,rfl,rfl,rfl,rfl,rfl,aC⟩) ?_ ?_
  ·intro SK;refine kH H (bg gJ aD 0 rfl rfl (Rc rfl (Rm rfl (Sp 81 rfl ?_ ?_)))) <;> clear H
   ·intro nQ a H
    try have zP:=dT nQ
    refine kH H (YF wL nQ rfl (YO aD 0 nQ rfl (YC nQ rfl (YM nQ rfl (Sp 85 rfl ?_ ?_))))) <;> clear H
    ·intro lU a H
     try have PE:=dT lU
     refine kH H (aQ lU rfl (PT nQ lU rfl (Pt nQ rfl ?_)));clear H;intro a H;refine SK (_) _ _ ?_ (by exact H.sub ⟨rfl,rfl,rfl,rfl,rfl,rfl,rfl,rfl,aC⟩)
     clear jf pz hN hX;first|(rw [fZ zP];rfl)|(rw [gW zP,fZ (by omega)];rfl)|(rw [gW zP,vg,← decide_not];exact decide_eq_decide.2 (by omega))
    intro lU a H
    try have PE:=dF lU
    refine kH H (YF wL lU rfl (YO aD 0 lU rfl (YC lU rfl (PF nQ lU rfl (Pt nQ rfl ?_)))));clear H;intro a H;refine SK (_) _ _ ?_ (by exact H.sub ⟨rfl,rfl,rfl,rfl,rfl,rfl,rfl,rfl,aC⟩)
    clear jf pz hN hX;first|(rw [fZ zP];rfl)|(rw [gW zP,fZ (by omega)];rfl)|(rw [gW zP,vg,← decide_not];exact decide_eq_decide.2 (by omega))
   intro nQ a H
   try have zP:=dF nQ
   refine kH H (aN nQ rfl (aN nQ rfl (Ku rfl (Ku rfl (Ku rfl (Ks nQ rfl (Pf nQ rfl ?_)))))));clear H;intro a H;refine SK (_) _ _ ?_ (by exact H.sub ⟨rfl,rfl,rfl,rfl,rfl,rfl,rfl,rfl,aC⟩)
   clear jf pz hN hX;first|(rw [fZ zP];rfl)|(rw [gW zP,fZ (by omega)];rfl)|(rw [gW zP,vg,← decide_not];exact decide_eq_decide.2 (by omega))
  clear H;intro q3 a w hI H;dsimp only [lca,aV] at H;simp only [nZ,mQ];have hq3:=hI;refine kH H (aj dZ rfl (Cd rfl ?_ ?_)) <;> clear H dZ
  ·intro zw a H
   try have Fz:=dT zw
   refine aS (fun _ eU=>?_);rw [zw] at hq3;have hq4:=Bool.and_eq_true_iff.1 hq3.symm
   have iy:¬ (1≤x.id∧x.id≤1073741824):=by have:=hq4.2;simp at this;omega
   have hF:=pz 18 s2 (by decide) (by rw [jf,tC hq4.1,alM iy,uz (r:=(18,s2)) (show (18:Int)≠0 by decide)]);exact kP H (SC (aO eU rfl (LR results30 rfl fun H=>H.hp.cK (L':=iZ D b v1 s2.n :: L1) (by repeat (first|exact cO _|apply List.Sublist.cons)) ⟨rfl,v1,L1,s2,aB vi hF.symm,rfl,hv1,fun h=>absurd (hF.symm.trans h) (by decide)⟩)))
  intro zw a H
  try have Fz:=dF zw
  have TR:x.kind=8→1≤x.id∧x.id≤1073741824:=fun h1=>by rw [zw,gW h1] at hq3;simpa using hq3
  rw [alO TQ OQ TR] at jf;refine fu ?_;refine dx _ _ ?_;clear dx;refine qL (ι:=CS × ak × OL) (Tc:=[(0,_),(1,_),(2,_),(3,_),(4,_),(11,_),(12,_)]) (Lc:=[(_,_)]) (fun gh=>[]) (fun gh=>[iZ D b gh.2.1 gh.1.n]++gh.2.2) (fun gh=>G) (fun gh=>(fJ (aP st li rv) body note t x s1=gF (fP (aP st li rv) x.kind x.head,gh.1) fun s=>if x.kind=6 then jg (aP st li rv) false true t x.flow s else if x.kind=7 then lI x.rows.length (fun s=>iO (aP st li rv) note (t+1) x.rows s) s else (0,s))∧xD gh.2.1 gh.1.bG gh.2.2 L0∧gh.1.n=s1.n+(gU x:Nat)∧gh.1.bG.length≤s1.bG.length+1) (by exact (H).sub ⟨rfl,rfl,rfl,rfl,rfl,rfl,rfl,aC⟩) ?_ ?_
  ·skip;refine dw (fun _ fK=>?_);refine oz (ι:=Bool) (Tc:=[(0,_),(1,_),(2,_),(3,_),(4,_),(11,_),(12,_)]) 8 (fun (q4:Bool)=>[(98,.bool q4)]) (fun (q4:Bool)=>q4=decide (x.kind=6∨x.kind=7)) (by exact H.sub ⟨rfl,rfl,rfl,rfl,rfl,rfl,rfl,aC⟩) ?_ ?_
   ·intro LG;refine kH H (bg gJ aD 0 rfl rfl (Rc rfl (Rm rfl (Sp 94 rfl ?_ ?_)))) <;> clear H
    ·intro DV a H
     try have p94:=dT DV
     refine kH H (aQ DV rfl (Pt DV rfl ?_));clear H;intro a H;refine LG (_) _ _ ?_ (by exact H.sub ⟨rfl,rfl,rfl,rfl,rfl,rfl,rfl,rfl,aC⟩)
     clear jf pz hN hX TQ OQ TR;first|(simp_all;done)|(simp_all;omega)
    intro DV a H
    try have p94:=dF DV
    refine kH H (YF gJ DV rfl (YO aD 0 DV rfl (YC DV rfl (Pf DV rfl ?_))));clear H;intro a H;refine LG (_) _ _ ?_ (by exact H.sub ⟨rfl,rfl,rfl,rfl,rfl,rfl,rfl,rfl,aC⟩)
    clear jf pz hN hX TQ OQ TR;first|(simp_all;done)|(simp_all;omega)
   clear H;intro q4 a w hI H;dsimp only [lca,aV] at H;simp only [nZ,mQ];have hq4:=hI;refine fK _ _ ?_;clear fK;refine jX H rfl ?_ ?_
   ·intro oI
    try have MK:=dT oI
    have Bt:x.kind=6∨x.kind=7:=by rw [oI] at hq4;exact tC hq4.symm
    rw [av Bt] at jf;refine kP H (SR fun _ gM=>Rm rfl (bg wL aD 0 rfl rfl ?_));clear H;intro a H;refine gB XL (Li:=[_]) (L:=iZ D b v1 s2.n :: L1) H wn rfl (aaf _ _ L0 _ D b v1 s2 x.id hv1 (Hp.owns (Li:=[_]) H.hp) (by rw [OV];omega)) rfl ?_;clear H;rintro apD _ _ a w ⟨rfl,v2,L2,rfl,rfl,hv2⟩ - H;dsimp only [lca,aV] at H;refine kH H (aj gM rfl (SR fun _ iC=>Rm rfl (Rc rfl (Kz iC (Cd rfl ?_ ?_))))) <;> clear H gM iC
    ·intro RX a H
     try have MC:=dT RX
     refine aS (fun _ gu=>?_);have hF:=pz (jZ s2 x.id).1 _ MC (by rw [jf,uz MC]);exact kP H (SC (Rm rfl (aO gu rfl (LR results30 rfl fun H=>H.hp.cK (L':=iZ D b v2 s2.n :: L2) (by repeat (first|exact cO _|apply List.Sublist.cons)) ⟨rfl,v2,L2,⟨s2.n,(jZ s2 x.id).2.bG⟩,aB vi hF.symm,rfl,hv2,fun h=>absurd (hF.symm.trans h) MC⟩))))
    intro RX a H
    try have MC:=dF RX
    have NQ:(jZ s2 x.id).1=0:=gH.1 MC;rw [tF NQ] at jf;have hub:=Qd s2 x.id
    unfold lC at hub
    obtain ⟨s3,hs3⟩:∃ s3,s3=(jZ s2 x.id).2:=⟨_,rfl⟩
    have JJ:s3.n=s2.n:=by rw [hs3];rfl
    rw [← hs3] at hv2 hub jf;rw [← JJ] at H
    have hsb:s3.bG.length≤s1.bG.length+1:=by rw [← OV];omega
    refine fu ?_;refine ⟨(s3,v2,L2),by exact (H).sub ⟨rfl,rfl,rfl,rfl,rfl,rfl,rfl,aC⟩,?_⟩;(try dsimp only);exact ⟨jf,hv2,by omega,hsb⟩
   intro oI
   try have MK:=dF oI
   have Bt:¬ (x.kind=6∨x.kind=7):=by rw [oI] at hq4;exact of_decide_eq_false hq4.symm
   rw [ah Bt,tF rfl] at jf;dsimp only at jf;have hw2:=hv1
   have hsb:s2.bG.length≤s1.bG.length+1:=by rw [OV];omega
   refine fu ?_;refine ⟨(s2,v1,L1),by exact (H).sub ⟨rfl,rfl,rfl,rfl,rfl,rfl,rfl,aC⟩,?_⟩;(try dsimp only);exact ⟨jf,hv1,Zr,hsb⟩
  clear H;intro gh a w hI H;obtain ⟨s3,v3,L3⟩:=gh;dsimp only at hI H;clear jf hv1;obtain ⟨jf,hv3,JJ,hsb⟩:=hI;dsimp only [lca,aV] at H;refine kP H (SQ fun _ iX=>SR fun _ jo=>Rm rfl (bg gJ aD 0 rfl rfl (Rf DL rfl ?_)));clear H;intro a H;refine aW lJ (cs:=[.slice pA pn pc,vi x.head.marks.ins,vi x.head.marks.move,.slice dA dn dc,.slice yA yn yc]) H wn rfl rfl (H.hp.dX 0 rfl rfl) rfl ?_;clear H;intro a H;refine gB NT (Li:=[_]) (L:=iZ D b v3 s3.n :: L3) H wn rfl (Pv _ _ _ D st li rv b v3 s3.n hck hmz (Hp.owns (Li:=[_]) H.hp) x.kind x.head _ _ _ hhd (by omega)) rfl ?_;clear H;rintro anU _ _ a w ⟨rfl,rfl,rfl⟩ - H;dsimp only [lca,aV] at H;refine kH H (aj jo rfl (SR fun _ iN=>Rm rfl (Rc rfl (Kz iN (Cd rfl ?_ ?_))))) <;> clear H jo iN
  ·intro oZ a H
   try have Db:=dT oZ
   refine aS (fun _ kJ=>?_);have hF:=pz (fP (aP st li rv) x.kind x.head) s3 Db (by rw [jf,uz (by exact Db)]);exact kP H (SC (Rm rfl (aO kJ rfl (LR results30 rfl fun H=>H.hp.cK (L':=iZ D b v3 s3.n :: L3) (by repeat (first|exact cO _|apply List.Sublist.cons)) ⟨rfl,v3,L3,s3,aB vi hF.symm,rfl,hv3,fun h=>absurd (hF.symm.trans h) Db⟩))))
  intro oZ a H
  try have Db:=dF oZ
  rw [tF (r:=(fP (aP st li rv) x.kind x.head,s3)) (gH.1 Db)] at jf;dsimp only at jf;refine fu ?_;refine iX _ _ ?_;clear iX;refine qL (ι:=CS × ak × OL) (Tc:=[(0,_),(1,_),(2,_),(3,_),(4,_),(11,_),(12,_)]) (Lc:=[(_,_)]) (fun gh=>[]) (fun gh=>[iZ D b gh.2.1 gh.1.n]++gh.2.2) (fun gh=>G) (fun gh=>(fJ (aP st li rv) body note t x s1=if x.kind=7 then lI x.rows.length (fun s=>iO (aP st li rv) note (t+1) x.rows s) gh.1 else (0,gh.1))∧xD gh.2.1 gh.1.bG gh.2.2 L0∧(x.kind=7→gh.1.n=s1.n+(gU x:Nat)∧gh.1.bG.length≤s1.bG.length+1)) (by exact (H).sub ⟨rfl,rfl,rfl,rfl,rfl,rfl,rfl,aC⟩) ?_ ?_
  ·skip;refine kP H (SR fun _ kK=>bg gJ aD 0 rfl rfl (Rc rfl (Kz kK (Cd rfl ?_ ?_)))) <;> clear H kK
   ·intro RZ a H
    try have UL:=dT RZ
    rw [av UL] at jf;refine kP H (SR fun _ jA=>Rm rfl (bg Al jy 0 rfl rfl (Rm rfl ?_)));clear H;intro a H;refine gB Rq (Li:=[_]) (L:=iZ D b v3 s3.n :: L3) H wn rfl (ih _ _ L0 _ D st li rv b v3 s3 x.flow _ false true t hck hmz hv3 (Hp.owns (Li:=[_]) H.hp) hfl (by omega) ht0 BJ (by omega) (by omega) (by omega)) rfl ?_;clear H;rintro apJ _ _ a w ⟨rfl,v5,L5,s5,rfl,rfl,hv5,h5⟩ - H;dsimp only [lca,aV] at H;refine kH H (aj jA rfl (SR fun _ kT=>Rm rfl (Rc rfl (Kz kT (Cd rfl ?_ ?_))))) <;> clear H jA kT
    ·intro R4 a H
     try have Py:=dT R4
     refine aS (fun _ kU=>?_);have hF:=pz _ _ Py jf;exact kP H (SC (Rm rfl (aO kU rfl (LR results30 rfl fun H=>H.hp.cK (L':=iZ D b v5 s5.n :: L5) (by repeat (first|exact cO _|apply List.Sublist.cons)) ⟨rfl,v5,L5,s5,aB vi hF.symm,rfl,hv5,fun h=>absurd (hF.symm.trans h) Py⟩))))
    intro R4 a H
    try have Py:=dF R4
    have Xn:=gH.1 Py;have hs5:=h5 Xn
    have ajl:fJ (aP st li rv) body note t x s1=if x.kind=7 then lI x.rows.length (fun s=>iO (aP st li rv) note (t+1) x.rows s) s5 else (0,s5):=by rw [ah (by omega),jf,hs5,← Xn]
    refine fu ?_;refine ⟨(s5,v5,L5),by exact (H).sub ⟨rfl,rfl,rfl,rfl,rfl,rfl,rfl,aC⟩,?_⟩;(try dsimp only);exact ⟨ajl,hv5,fun h=>by omega⟩
   intro RZ a H
   try have UL:=dF RZ
   rw [ah UL] at jf;refine fu ?_;refine ⟨(s3,v3,L3),by exact (H).sub ⟨rfl,rfl,rfl,rfl,rfl,rfl,rfl,aC⟩,?_⟩;(try dsimp only);exact ⟨jf,hv3,fun _=>⟨JJ,hsb⟩⟩
  clear H;intro gh a w hI H;obtain ⟨s3,v3,L3⟩:=gh;dsimp only at hI H;clear jf hv3;obtain ⟨jf,hv3,ajR⟩:=hI;dsimp only [lca,aV] at H;refine kP H (SR fun _ lM=>bg gJ aD 0 rfl rfl (Rc rfl (Kz lM (Cd rfl ?_ ?_)))) <;> clear H lM
  ·intro h128 a H
   try have Ei:=dT h128
   rw [av Ei] at jf;obtain ⟨JJ,hsb⟩:=ajR Ei;have Zx:=OQ Ei;refine kP H (SR fun _ lN=>Rm rfl (bg zk zV 0 rfl rfl (Rm rfl (Rm rfl (Rd rfl ?_)))));clear H;intro a H;refine gB agu (Li:=[_]) (L:=iZ D b v3 s3.n :: L3) H wn rfl (akX ih hm _ _ L0 _ D st li rv b v3 s3 x.rows _ note (t+1) hck hmz hv3 (Hp.owns (Li:=[_]) H.hp) hrw (by omega) (by omega) (by omega) (by omega) (by omega) (by omega)) rfl ?_;clear H;rintro apM _ _ a w ⟨rfl,v6,L6,s6,rfl,rfl,hv6,h6⟩ - H;dsimp only [lca,aV] at H;refine kH H (aj lN rfl (SR fun _ lQ=>Rm rfl (Rc rfl (Kz lQ (Cd rfl ?_ ?_))))) <;> clear H lN lQ
   ·intro R7 a H
    try have Pz:=dT R7
    refine aS (fun _ mo=>?_);have hF:=pz _ _ Pz jf;exact kP H (SC (Rm rfl (aO mo rfl (LR results30 rfl fun H=>H.hp.cK (L':=iZ D b v6 s6.n :: L6) (by repeat (first|exact cO _|apply List.Sublist.cons)) ⟨rfl,v6,L6,s6,aB vi hF.symm,rfl,hv6,fun h=>absurd (hF.symm.trans h) Pz⟩))))
   intro R7 a H
   try have Pz:=dF R7
   have e137:=gH.1 Pz
   have Oy:fJ (aP st li rv) body note t x s1=(0,s6):=by rw [jf,h6 e137,← e137]
   refine kP H (Kc K6 (SC (Rm rfl (Rd rfl (Ra rfl ?_)))));clear H K6;intro a H;refine aH ?_;refine dK ((k+1,s6,v6,L6)) (by exact (H.dS (Pl:=[_,_]) (dL:=[_]) [1] (by decide) rfl).sub ⟨rfl,rfl,rfl,rfl,rfl,rfl,aC⟩) ?_ ?_
   ·(try dsimp only);exact ⟨by omega,hN Oy,hv6,by have:=Ja Oy;omega,by have:=Ja Oy;omega,by have:=Ja Oy;omega⟩
   first|omega|(dsimp only;omega)
  intro h128 a H
  try have Ei:=dF h128
  rw [ah Ei] at jf;refine kP H (Kc K6 (SC (Rm rfl (Rd rfl (Ra rfl ?_)))));clear H K6;intro a H;refine aH ?_;refine dK ((k+1,s3,v3,L3)) (by exact (H.dS (Pl:=[_,_]) (dL:=[_]) [1] (by decide) rfl).sub ⟨rfl,rfl,rfl,rfl,rfl,rfl,aC⟩) ?_ ?_
  ·(try dsimp only);exact ⟨by omega,hN jf,hv3,by have:=Ja jf;omega,by have:=Ja jf;omega,by have:=Ja jf;omega⟩
  first|omega|(dsimp only;omega)
 intro h23 a H
 try have AA:=dF h23
 have hk3:l.drop k=[]:=iw (by omega);rw [hk3,jg] at hX;refine dW ?_;refine K2 _ _ ?_;clear K2;exact kP H (SR fun _ rz=>aj rz rfl (LR results30 rfl fun H=>H.hp.eB ⟨rfl,v1,L1,s1,aB vi (by rw [← hX]),rfl,hv1,fun _=>by rw [← hX]⟩))
theorem aae:∀ m:Nat,m≤4294967297→Ng m
 | 0,_=>fun _ _ _ _ _ _ _ _ _ _ _ _ _ _ _ _ _ _ _ _ _ h=>absurd h (by omega)
 | m+1,hm=>akU (aae m (by omega)) (by omega)
end
section
open Go.RowKit
theorem ani (G:GH) (w0:World) (hG:Hold G w0) (s:rD) (a b c d:ak) (hR:tq G s a b c d) (hsl:s.styles.length≤4294967296) (hz:KE s) :
  Calls prog 25 #[.agg #[a,b,c,d]] w0 (bJ w0 G fun u G'=>∃ r,u=.bool r):=by
 obtain ⟨sA,sc,rfl,-,-,-⟩:=hR.st.slice;obtain ⟨lA,lc,rfl,-,-,-⟩:=hR.li.slice;obtain ⟨cA,cc,rfl,-,-,-⟩:=hR.cm.slice;obtain ⟨vA,vc,rfl,-,-,-⟩:=hR.va.slice;have hl1:=hz.ln
 simp only [bV] at hR ⊢
 refine eN [(0,_)] func25 rfl ntmps25 rfl rfl hG ?_;intro a H;refine dw (fun _ K1=>?_);refine eD (cs:=[_,_,_,_]) H wn rfl rfl rfl ?_;clear H;intro b1 a w hb1 H;refine kH H (aj K1 rfl (SQ fun _ K2=>SQ fun _ K3=>?_));clear H K1;intro a H;obtain ⟨Ga,hma,hb1',H⟩:=H.eG
 have hc0:aF Ga b1 0=some (.slice sA s.styles.length sc):=by unfold aF;rw [hb1'];rfl
 have hc1:aF Ga b1 1=some (.slice lA s.lists.length lc):=by unfold aF;rw [hb1'];rfl
 have hc2:aF Ga b1 2=some (.slice cA s.comments.length cc):=by unfold aF;rw [hb1'];rfl
 have hc3:aF Ga b1 3=some (.slice vA s.vars.length vc):=by unfold aF;rw [hb1'];rfl
 have hst:=hR.st.mono hma;have wS:=hR.li.mono hma;refine kP H (SC (Rf vI rfl (Rg nu rfl (by assumption) ?_)));clear H;intro a H;refine kH H (Rl ko rfl (Rc rfl (Rm rfl (Sp 9 rfl ?_ ?_)))) <;> clear H
 ·intro h9 a H
  exact kH H (aN h9 rfl (aN h9 rfl (Pt h9 rfl (Rm rfl (aN rfl rfl (aN rfl rfl (Pt rfl rfl (Rm rfl (aN rfl rfl (aN rfl rfl (Pt rfl rfl (Kn K3 (Ct rfl rfl (SR fun _ K4=>aj K4 rfl (LR results25 rfl fun H=>H.rt ⟨_,rfl⟩)))))))))))))))
 intro h9 a H
 try have p9:=dF h9
 refine kH H (YF lX h9 rfl (YR kR h9 rfl (by assumption) ?_));clear H;intro a H;refine kH H (YL jE h9 rfl (YC h9 rfl (Pf h9 rfl (Rm rfl (Sp 15 rfl ?_ ?_))))) <;> clear H
 ·intro fM a H
  exact kH H (aN fM rfl (aN fM rfl (Pt fM rfl (Rm rfl (aN rfl rfl (aN rfl rfl (Pt rfl rfl (Kn K3 (Ct rfl rfl (SR fun _ K5=>aj K5 rfl (LR results25 rfl fun H=>H.rt ⟨_,rfl⟩)))))))))))
 intro fM a H
 try have oL:=dF fM
 refine kH H (YF wJ fM rfl (YR rV fM rfl (by assumption) ?_));clear H;intro a H;refine kH H (YL nX fM rfl (YC fM rfl (Pf fM rfl (Rm rfl (Sp 21 rfl ?_ ?_))))) <;> clear H
 ·intro h21 a H
  exact kH H (aN h21 rfl (aN h21 rfl (Pt h21 rfl (Kn K3 (Ct rfl rfl (SR fun _ K6=>aj K6 rfl (LR results25 rfl fun H=>H.rt ⟨_,rfl⟩)))))))
 intro h21 a H
 try have oM:=dF h21
 refine kH H (YF wK h21 rfl (YR oO h21 rfl (by assumption) ?_));clear H;intro a H;refine kH H (YL mX h21 rfl (YC h21 rfl (Pf h21 rfl (Kn K3 (Cd rfl ?_ ?_))))) <;> clear H K3
 ·intro fI a H
  exact kP H (SR fun _ K7=>aj K7 rfl (LR results25 rfl fun H=>H.rt ⟨_,rfl⟩))
 intro fI a H
 try have p26:=dF fI
 refine kP H (Kc K2 (SQ fun _ K8=>SR fun _ K9=>aj K9 rfl (SB ?_)));clear H K2 K9;intro a H;skip;refine eH (ι:=Nat) (Tc:=[(1,_)]) (Lc:=[]) (fun gh=>[(3,vi gh)]) (fun gh=>[]) (fun gh=>Ga) (fun gh=>gh≤s.styles.length) (fun gh=>s.styles.length - gh) (0) (by exact (H).sub ⟨rfl,rfl,aC⟩) ?_ ?_
 ·exact iF _
 clear H;intro gh a w hI H;obtain ⟨k,hgh⟩:∃ x,x=gh:=⟨_,rfl⟩;subst hgh;have hk:=hI;dsimp only [lca,aV] at H;refine kP H (SQ fun _ aT=>SR fun _ bB=>Rm rfl (Rf vI rfl (Rg nu rfl (by assumption) ?_)));clear H;intro a H;refine kH H (Rl ko rfl (Rc rfl (Kz bB (Cd rfl ?_ ?_)))) <;> clear H bB
 ·intro h31 a H
  try have p31:=dT h31
  have hk2:k < s.styles.length:=by omega
  obtain ⟨b',o',pA,pc,rfl,hrow,-,-⟩:=BZ hst hk2;have hq:=hrow 5 _ rfl;refine kP H (Kc aT (SQ fun _ bC=>SB (SR fun _ bK=>Rf vI rfl (Rg nu rfl (by assumption) ?_))));clear H aT;intro a H;refine kH H (Rm rfl (Ri ko iR rfl rfl (Rf GV rfl (Rg qY rfl (by assumption) ?_))));clear H;intro a H;refine kH H (Rl nW rfl (Rc rfl (Kz bK (Cd rfl ?_ ?_)))) <;> clear H bK
  ·intro kM a H
   exact kP H (SR fun _ bP=>aj bP rfl (LR results25 rfl fun H=>H.rt ⟨_,rfl⟩))
  intro kM a H
  try have p41:=dF kM
  refine kP H (Kc bC (SC (Rm rfl (Rd rfl (Ra rfl ?_)))));clear H bC;intro a H;refine aH ?_;refine dK ((k+1)) (by exact (H).sub ⟨rfl,rfl,aC⟩) ?_ ?_
  ·omega
  first|omega|(dsimp only;omega)
 intro h31 a H
 try have p31:=dF h31
 refine dW ?_;refine K8 _ _ ?_;clear K8;refine kP H (SQ fun _ dx=>SR fun _ dP=>aj dP rfl (SB ?_));clear H dP;intro a H;skip;refine eH (ι:=Nat) (Tc:=[(1,_)]) (Lc:=[]) (fun gh=>[(4,vi gh)]) (fun gh=>[]) (fun gh=>Ga) (fun gh=>gh≤s.lists.length) (fun gh=>s.lists.length - gh) (0) (by exact (H).sub ⟨rfl,rfl,aC⟩) ?_ ?_
 ·exact iF _
 clear H;intro gh a w hI H;obtain ⟨n,hgh⟩:∃ x,x=gh:=⟨_,rfl⟩;subst hgh;have hn:=hI;dsimp only [lca,aV] at H;refine kP H (SQ fun _ dB=>SR fun _ dY=>Rm rfl (Rf lX rfl (Rg kR rfl (by assumption) ?_)));clear H;intro a H;refine kH H (Rl jE rfl (Rc rfl (Kz dY (Cd rfl ?_ ?_)))) <;> clear H dY
 ·intro h46 a H
  try have p46:=dT h46
  have hn2:n < s.lists.length:=by omega
  obtain ⟨b',o',B,d,rfl,hrow,-⟩:=Ik wS hn2;have hq:=hrow 1 _ rfl;refine kP H (Kc dB (SQ fun _ eP=>SB (SR fun _ dZ=>Rf lX rfl (Rg kR rfl (by assumption) ?_))));clear H dB;intro a H;refine kH H (Rm rfl (Ri jE jR rfl rfl (Rf xR rfl (Rg yI rfl (by assumption) ?_))));clear H;intro a H;refine kH H (Rl ru rfl (Rc rfl (Kz dZ (Cd rfl ?_ ?_)))) <;> clear H dZ
  ·intro qy a H
   exact kP H (SR fun _ eU=>aj eU rfl (LR results25 rfl fun H=>H.rt ⟨_,rfl⟩))
  intro qy a H
  try have p56:=dF qy
  refine kP H (Kc eP (SC (Rm rfl (Rd rfl (Ra rfl ?_)))));clear H eP;intro a H;refine aH ?_;refine dK ((n+1)) (by exact (H).sub ⟨rfl,rfl,aC⟩) ?_ ?_
  ·omega
  first|omega|(dsimp only;omega)
 intro h46 a H
 refine dW ?_;refine dx _ _ ?_;clear dx;exact kP H (SR fun _ fK=>aj fK rfl (LR results25 rfl fun H=>H.rt ⟨_,rfl⟩))
end
section
open Go.RowKit
end
section
open Go.RowKit
end
section
open Go.RowKit
def ahB (t:Int) (a:Nat × aJ):Bool:=decide ((a.1:Int)+gU a.2≤t)
def lA (t:Int) (A:List (Nat × aJ)):List aJ:=(A.filter (ahB t)).map (·.2)
end
section
open Go.RowKit
def WB (l:List aJ):Prop:=∀ (k:Nat) (h:k+1 < l.length),¬ (l[k].kind=1∧l[k+1].kind=1∧l[k].head=l[k+1].head)
theorem WB.one {l:List aJ} (h:l.length≤1):WB l:=fun k hk=>by omega
end
section
open Go.RowKit
end
section
open Go.RowKit
end
section
open Go.RowKit
end
section
open Go.RowKit
theorem aor (l m:List aJ):bU (l++m)=bU l+bU m:=by simp [bU,P8]
end
section
open Go.RowKit
end
section
open Go.RowKit
end
section
open Go.RowKit
theorem VE:∀ {m l:List aJ},m.Sublist l→bU m≤bU l
 | _,_,.slnil=>dJ _
 | _,_,.cons a h=>by have:=VE h;simp only [bU,iq,fE] at *;omega
 | _,_,.cons_cons a h=>by have:=VE h;simp only [bU,iq,fE] at *;omega
end
section
open Go.RowKit
end
section
open Go.RowKit
structure WC where
 from_:Int
 to:Int
 mark:Bool
 props:List gV
def WC.dat (a:WC):List Dat:=[li a.from_,li a.to,.lf (.bool a.mark),.sl 2 (a.props.map gV.dat)]
end
section
open Go.RowKit
theorem afQ:∀ args w,(callFunc 20 args).run prog w=.ok (.enter 20 args) w:=enters func20 rfl (by kernel_rfl)
end
section
open Go.RowKit
theorem abl:uj prog 47 [(0,1),(1,1),(2,1),(3,1),(4,5),(9,1),(10,1)] [.int .i64 0,.int .i64 0,.int .i64 0,.string ⟨#[]⟩,.slice none 0 0,.int .i64 0,.int .i64 0,.slice none 0 0,.slice none 0 0,.slice none 0 0,.slice none 0 0]:=⟨by kernel_rfl,by kernel_rfl⟩
theorem Vq:sW ⟨#[97,98]⟩=true∧vD ⟨#[97,98]⟩ 0=2:=by
 have d0:pQ ⟨#[97,98]⟩ 0=(97,1,true):=by decide
 have d1:pQ ⟨#[97,98]⟩ 1=(98,1,true):=by decide
 have e2:vJ ⟨#[97,98]⟩ 2=-1:=by rw [vJ,dif_neg (by decide)]
 have e1:vJ ⟨#[97,98]⟩ 1=-1:=by rw [vJ,dif_pos (by decide),dif_pos (by rw [d1]),d1];exact e2
 have e0:vJ ⟨#[97,98]⟩ 0=-1:=by rw [vJ,dif_pos (by decide),dif_pos (by rw [d0]),d0];exact e1
 have c2:vD ⟨#[97,98]⟩ 2=0:=by rw [vD,ah (by decide)]
 have c1:vD ⟨#[97,98]⟩ 1=1:=by rw [vD,av (by decide),c2];decide
 have c0:vD ⟨#[97,98]⟩ 0=2:=by rw [vD,av (by decide),c1];decide
 exact ⟨by unfold sW;rw [e0];decide,c0⟩
abbrev hd0:jm:=⟨[],⟨0,0,[],[]⟩⟩
def mY:aJ:=.mk 1 0 0 ⟨#[97,98]⟩ hd0 [] []
theorem uA:gU mY=2∧Dn mY=0:=by simp [gU,Dn,mY,aJ.kind,aJ.text,xL,M8,Vq.1,Vq.2]
theorem JA {G:GH}:ku G hd0 (.slice none 0 0) (.slice none 0 0) (.slice none 0 0):=⟨au.kg rfl (by decide),au.kg rfl (by decide),au.kg rfl (by decide)⟩
end
section
open Go.RowKit
end
section
open Go.RowKit
end
section
open Go.RowKit
theorem Rw:∀ args w,(callFunc 73 args).run prog w=.ok (.enter 73 args) w:=enters func73 rfl (by kernel_rfl)
theorem aeT:∀ args w,(callFunc 137 args).run prog w=.ok (.enter 137 args) w:=enters func137 rfl (by kernel_rfl)
theorem Ev (n:Nat):0≤(n:Int).tdiv 8∧(n:Int).tdiv 8≤n:=by
 rw [Int.tdiv_eq_ediv_of_nonneg (by omega)];omega
abbrev rY (b:Nat) (n:Int):Nat × Obj:=(b,.cells #[vi n] 3 (0,0))
def Qz (bl:Nat) (left:Int) (z:Nat) (u:ak) (_:GH) (L':OL):Prop:=∃ b lf,u=.bool b∧L'=[rY bl lf]∧left - 4*(z:Int)≤lf∧lf≤left
def Np (n:Nat):Prop:=∀ (G:GH) (w0:World) (l:List aJ) (v:ak) (uR left:Int) (bl:Nat),ig G [rY bl left] w0→au G (.sl 11 (l.map aJ.dat)) v→bU l < n→0≤uR→uR≤1000→left≤1000→-1000000000000≤left - 4*(bU l:Int) →
 Calls prog 73 #[v,vi uR,(aM bl 0)] w0 (gy w0 G [rY bl left] (Qz bl left (bU l)))
theorem aco (l m:List bS):fQ (l++m)=fQ l+fQ m:=by simp [fQ,P8]
theorem aci (l m:List bO):jr (l++m)=jr l+jr m:=by simp [jr,P8]
theorem aot {l:List aJ} {k:Nat} (h:k < l.length):bU (l.take (k+1))=bU (l.take k)+(1+dQ l[k].dat):=by rw [iG h,aor];simp [bU,fE]
theorem aov {l:List bS} {k:Nat} (h:k < l.length):fQ (l.take (k+1))=fQ (l.take k)+(1+dQ l[k].dat):=by rw [iG h,aco];simp [fQ,fE]
theorem aoq {l:List bO} {k:Nat} (h:k < l.length):jr (l.take (k+1))=jr (l.take k)+(1+dQ l[k].dat):=by rw [iG h,aci];simp [jr,fE]
theorem acn (l:List aJ) (k:Nat):bU (l.take k)≤bU l:=VE (List.take_sublist k l)
theorem acp (l:List bS) (k:Nat):fQ (l.take k)≤fQ l:=by
 have:=aco (l.take k) (l.drop k);rw [List.take_append_drop] at this;omega
theorem acj (l:List bO) (k:Nat):jr (l.take k)≤jr l:=by
 have:=aci (l.take k) (l.drop k);rw [List.take_append_drop] at this;omega
theorem aje {G:GH} {b o:Nat} {x q1 q2 q3 q4 q5 f:ak} (h:∀ j u,[x,q1,q2,q3,q4,q5,f][j]?=some u→aF G b (o+j)=some u):∀ j u,[q1,q2,q3,q4,q5][j]?=some u→aF G b (o+1+j)=some u:=by
 intro j u hj;rw [Nat.add_assoc,Nat.add_comm 1 j];refine h (j+1) u ?_
 match j,hj with
 | 0,hj=>exact hj
 | 1,hj=>exact hj
 | 2,hj=>exact hj
 | 3,hj=>exact hj
 | 4,hj=>exact hj
 | n+5,hj=>simp at hj
set_option maxHeartbeats 1000000 in
theorem anf {n:Nat} (ih:Np n) (hn:n≤4294967296)
  (hrows:∀ (G:GH) (w0:World) (l:List bS) (v:ak) (uR left:Int) (bl:Nat),ig G [rY bl left] w0→au G (.sl 6 (l.map bS.dat)) v→fQ l < n→0≤uR→uR≤1000→left≤1000→-1000000000000≤left - 4*(fQ l:Int) →
   Calls prog 137 #[v,vi uR,(aM bl 0)] w0 (gy w0 G [rY bl left] (Qz bl left (fQ l)))):Np (n+1):=by
 intro G w0 l v uR left bl hO hv hz hl0 hl1 hf1 hf0;obtain ⟨A,c,rfl,hc1,hc2,hg⟩:=hv.slice;rw [bV] at *;have hll:=FT l;refine jB (N:=89) (T:=[(0,_),(1,_),(2,_)]) func73 rfl ntmps73 rfl rfl hO ?_;intro a H;refine kP H (SR fun _ K1=>aj K1 rfl (SQ fun _ K2=>SR fun _ K3=>aj K3 rfl (SB ?_)));clear H K1 K3;intro a H;skip;refine eH (ι:=Nat × Int × GH) (Tc:=[(0,_),(1,_),(2,_)]) (Lc:=[]) (fun gh=>[(7,vi gh.1)]) (fun gh=>[rY bl gh.2.1]) (fun gh=>gh.2.2) (fun gh=>gh.1≤l.length∧left - 4*(bU (l.take gh.1):Int)≤gh.2.1∧gh.2.1≤left∧(∀ b o,G b=some o→gh.2.2 b=some o)) (fun gh=>l.length - gh.1) ((0,left,G)) (by exact (H).sub ⟨rfl,rfl,rfl,rfl,aC⟩) ?_ ?_
 ·exact ⟨by omega,by show left - 4*((0:Nat):Int)≤left;omega,Int.le_refl _,fun _ _ h=>h⟩
 clear H;intro gh a w hI H;obtain ⟨k,lf,g⟩:=gh;dsimp only at hI H;obtain ⟨hk,hlo,hhi,hgm⟩:=hI;have hzk:=acn l k;dsimp only [lca,aV] at H;refine kP H (SQ fun _ K4=>SR fun _ K5=>Rm rfl (Rm rfl (Rl lu rfl (Rc rfl (Kz K5 (Cd rfl ?_ ?_)))))) <;> clear H K5
 ·intro h11 a H
  try have rQ:=dT h11
  have hk2:k < l.length:=by omega
  obtain ⟨b,o,pA,pn,pc,dA,dn,dc,yA,yn,yc,fA,fn,fc,rA,rn,rc,rfl,hrow,hhd,hfl,hrw⟩:=GX hk2 hg;have r3:aF g b (o+k*11+3)=some (.string l[k].text):=ay hgm (hrow 3 _ rfl);have r4:aF g b (o+k*11+4+0)=some (.slice pA pn pc):=ay hgm (hrow 4 _ rfl);have r7:aF g b (o+k*11+4+1+2)=some (.slice dA dn dc):=ay hgm (hrow 7 _ rfl);have r8:aF g b (o+k*11+4+1+3)=some (.slice yA yn yc):=ay hgm (hrow 8 _ rfl);have r9:aF g b (o+k*11+9)=some (.slice fA fn fc):=ay hgm (hrow 9 _ rfl);have PN:aF g b (o+k*11+10)=some (.slice rA rn rc):=ay hgm (hrow 10 _ rfl);have q1:=Ev pn;have q2:=Ev dn;have q3:=Ev yn;have hzi:=uX l[k];have Ug:=Cc l[k].head;have l1:=hhd.props.len;have l2:=hhd.bR.len;have l3:=hhd.layers.len;have m1:=mO (l[k].head.props.map gV.dat);have m2:=mO (l[k].head.marks.bR.map jV.dat);have m3:=mO (l[k].head.marks.layers.map jK.dat);have hzs:=aot hk2;have hzt:=acn l (k+1);refine kP H (Kc K4 (SQ fun _ K6=>SB (SQ fun _ K7=>?_)));clear H K4;intro a H;refine dI hmx [[],[],[1],[1,2],[1,2,3],[],[],[5,6],[5,6,7],(ra 5 4),(ra 5 5),(ra 5 6),(ra 5 7),(ra 1 12),[],[],[14,15],[14,15,16],(ra 14 4),(ra 14 5),(ra 14 6),(ra 14 7),(ra 14 8),(ra 1 22),[],[],[24,25],[24,25,26],(ra 24 4),(ra 24 5),(ra 24 6),(ra 24 7),(ra 24 8),(ra 1 32),(ra 0 34),(ra 0 35)] [35] (by kernel_rfl) [_,_,_,vi lf,_,_,_,_,_,_,_,_,vi ((pn:Int).tdiv 8),_,_,_,_,_,_,_,_,_,vi ((dn:Int).tdiv 8),_,_,_,_,_,_,_,_,_,vi ((yn:Int).tdiv 8),_,_] H (aG (Z0 rfl (Rm rfl)) (Z0 rfl (Rm rfl)) (Z1 1 15 rfl (Rk rfl)) (Z1 2 16 rfl (Ro aD 0 rfl)) (aG (Z1 3 17 rfl (Rs rfl)) (Z0 rfl (Rm rfl)) (Z0 rfl (Rm rfl)) (Z2 5 19 6 20 rfl (Ri lu eZ rfl rfl)) (aG (Z1 7 21 rfl (Rf DL rfl)) (Z1 8 22 rfl (Rf xP rfl)) (X1 9 23 rfl fun hG=>Rg qY rfl (ay hG r4)) (Z1 10 24 rfl (Rl nW rfl)) (aG ?_ (Z2 4 18 12 26 rfl (Rs rfl)) (Z0 rfl (Rm rfl)) (Z0 rfl (Rm rfl)) (aG (Z2 14 28 15 29 rfl (Ri lu eZ rfl rfl)) (Z1 16 30 rfl (Rf DL rfl)) (Z1 17 31 rfl (Rf oW rfl)) (Z1 18 32 rfl (Rf mJ rfl)) (aG (X1 19 33 rfl fun hG=>Rg mP rfl (ay hG r7)) (Z1 20 34 rfl (Rl kS rfl)) ?_ (Z2 13 27 22 36 rfl (Rs rfl)) (aG (Z0 rfl (Rm rfl)) (Z0 rfl (Rm rfl)) (Z2 24 38 25 39 rfl (Ri lu eZ rfl rfl)) (Z1 26 40 rfl (Rf DL rfl)) (aG (Z1 27 41 rfl (Rf oW rfl)) (Z1 28 42 rfl (Rf vG rfl)) (X1 29 43 rfl fun hG=>Rg vZ rfl (ay hG r8)) (Z1 30 44 rfl (Rl qg rfl)) (aG ?_ (Z2 23 37 32 46 rfl (Rs rfl)) (Z1 0 14 rfl (Rk rfl)) (bY rfl) dD))))))))) ?_
  ·refine dN 11 25 rfl rfl fun _ a w G1 hG HT H fin=>?_;refine Ep _ H wn rfl rfl (by omega) rfl (by omega) (by omega) rfl ?_;clear H;intro a H;exact fin H iJ rfl
  ·refine dN 21 35 rfl rfl fun _ a w G1 hG HT H fin=>?_;refine Ep _ H wn rfl rfl (by omega) rfl (by omega) (by omega) rfl ?_;clear H;intro a H;exact fin H iJ rfl
  ·refine dN 31 45 rfl rfl fun _ a w G1 hG HT H fin=>?_;refine Ep _ H wn rfl rfl (by omega) rfl (by omega) (by omega) rfl ?_;clear H;intro a H;exact fin H iJ rfl
  clear H;intro a w G tL H hv;have H:=H.aZ (hv 33 47 rfl rfl) rfl;have H:=H.aZ (hv 34 48 rfl rfl) rfl;clear hv;refine bN aD 0 (vs:=[_]) _ H wn rfl rfl rfl rfl rfl rfl rfl rfl ?_;clear H;intro w H;dsimp only [List.set,setRow] at H;refine aH ⟨rfl,?_⟩;refine K7 _ _ ?_;clear K7;refine kP H (SR fun _ K8=>Rm rfl (Rk rfl (Ro aD 0 rfl (Rc rfl (Rm rfl (Sp 53 rfl ?_ ?_)))))) <;> clear H
  ·intro fC a H
   try have p53:=dT fC
   refine kH H (aN fC rfl (Pt fC rfl (Rm rfl (aQ rfl rfl (aN rfl rfl (aN rfl rfl (Pt rfl rfl (Rm rfl (aQ rfl rfl (aQ rfl rfl (aN rfl rfl (aN rfl rfl (Pt rfl rfl (Rm rfl (aQ rfl rfl (aQ rfl rfl (aQ rfl rfl (Pt rfl rfl (Kz K8 (Ct rfl rfl (SR fun _ K9=>aj K9 rfl ?_)))))))))))))))))))));clear H K8 K9;intro a H;refine lr H results73 rfl ?_;exact H.hp.eB ⟨_,_,rfl,rfl,by omega,by omega⟩
  intro fC a H
  try have p53:=dF fC
  replace r3:=ay tL r3;replace r9:=ay tL r9;replace PN:=ay tL PN;refine kH H (YM fC rfl (YC fC rfl (Pf fC rfl (Rm rfl (Sp 57 rfl ?_ ?_))))) <;> clear H
  ·intro h57 a H
   try have p57:=dT h57
   exact kH H (aQ h57 rfl (aN h57 rfl (aN h57 rfl (Pt h57 rfl (Rm rfl (aQ rfl rfl (aQ rfl rfl (aN rfl rfl (aN rfl rfl (Pt rfl rfl (Rm rfl (aQ rfl rfl (aQ rfl rfl (aQ rfl rfl (Pt rfl rfl (Kz K8 (Ct rfl rfl (SR fun _ aT=>aj aT rfl (LR results73 rfl fun H=>H.hp.eB ⟨_,_,rfl,rfl,by omega,by omega⟩)))))))))))))))))))
  intro h57 a H
  try have p57:=dF h57
  refine kH H (YM h57 rfl (YM h57 rfl (YI lu eZ h57 rfl rfl (YF tJ h57 rfl (YR gD h57 rfl (by assumption) ?_)))));clear H;intro a H;refine BU iD H (wg H rfl rfl h57) rfl rfl ?_;clear H;intro a H;refine kH H (YC h57 rfl (Pf h57 rfl (Rm rfl (Sp 66 rfl ?_ ?_)))) <;> clear H
  ·intro sI a H
   try have p66:=dT sI
   exact kH H (aQ sI rfl (aQ sI rfl (aN sI rfl (aN sI rfl (Pt sI rfl (Rm rfl (aQ rfl rfl (aQ rfl rfl (aQ rfl rfl (Pt rfl rfl (Kz K8 (Ct rfl rfl (SR fun _ bB=>aj bB rfl (LR results73 rfl fun H=>H.hp.eB ⟨_,_,rfl,rfl,by omega,by omega⟩))))))))))))))
  intro sI a H
  try have p66:=dF sI
  refine kH H (YM sI rfl (YM sI rfl (YI lu eZ sI rfl rfl (YF Al sI rfl (YR jy sI rfl (by assumption) ?_)))));clear H;intro a H;refine kH H (YM sI rfl ?_);clear H;intro a H;refine nU _ H (wg H rfl rfl sI) rfl rfl rfl (by omega) (by omega) rfl ?_;clear H;intro a H;refine kH H (YM sI rfl ?_);clear H;intro a H;refine gB Rw (Li:=[]) (L:=[rY bl _]) H (wg H rfl rfl sI) rfl (ih _ _ l[k].flow _ (uR - 1) _ bl (Hp.owns (Li:=[]) H.hp) (hfl.mono fun b o h=>tL b o (hgm b o h)) (by omega) (by omega) (by omega) (by omega) (by omega)) rfl ?_;clear H;rintro v75 G75 L75 a w ⟨b75,lf75,rfl,rfl,apg,apc⟩ TD H;dsimp only [List.nil_append] at H;replace PN:=ay TD PN;refine kH H (YN sI rfl (Pf sI rfl (Rm rfl (Sp 78 rfl ?_ ?_)))) <;> clear H
  ·intro qP a H
   try have UU:=dT qP
   exact kH H (aQ qP rfl (aQ qP rfl (aQ qP rfl (Pt qP rfl (Kz K8 (Ct rfl rfl (SR fun _ bC=>aj bC rfl (LR results73 rfl fun H=>H.hp.eB ⟨_,_,rfl,rfl,by omega,by omega⟩))))))))
  intro qP a H
  try have UU:=dF qP
  refine kH H (YM qP rfl (YM qP rfl (YI lu eZ qP rfl rfl (YF zk qP rfl (YR zV qP rfl (by assumption) ?_)))));clear H;intro a H;refine kH H (YM qP rfl (YM qP rfl ?_));clear H;intro a H;refine gB aeT (Li:=[]) (L:=[rY bl _]) H (wg H rfl rfl qP) rfl (hrows _ _ l[k].rows _ uR _ bl (Hp.owns (Li:=[]) H.hp) (hrw.mono fun b o h=>TD b o (tL b o (hgm b o h))) (by omega) (by omega) (by omega) (by omega) (by omega)) rfl ?_;clear H;rintro v86 G86 L86 a w ⟨b86,akL,rfl,rfl,aph,apd⟩ ajz H;dsimp only [List.nil_append] at H;refine kH H (YN qP rfl (Pf qP rfl (Kz K8 (Cd rfl ?_ ?_)))) <;> clear H K8
  ·intro vK a H
   try have MI:=dT vK
   exact kP H (SR fun _ bK=>aj bK rfl (LR results73 rfl fun H=>H.hp.eB ⟨_,_,rfl,rfl,by omega,by omega⟩))
  intro vK a H
  try have MI:=dF vK
  refine kP H (Kc K6 (SC (Rm rfl (Rd rfl (Ra rfl ?_)))));clear H K6;intro a H;refine aH ?_;refine dK ((k+1,akL,G86)) (by exact (H).sub ⟨rfl,rfl,rfl,rfl,aC⟩) ?_ ?_
  ·(try dsimp only);exact ⟨by omega,by omega,by omega,fun b o h=>ajz b o (TD b o (tL b o (hgm b o h)))⟩
  first|omega|(dsimp only;omega)
 intro h11 a H
 try have rQ:=dF h11
 refine dW ?_;refine K2 _ _ ?_;clear K2;exact kP H (SR fun _ bP=>aj bP rfl (LR results73 rfl fun H=>H.hp.eB ⟨_,_,rfl,rfl,by omega,by omega⟩))
set_option maxHeartbeats 1000000 in
theorem anh {n:Nat} (ih:Np n) (hn:n≤4294967296) (G:GH) (w0:World) (l:List bS) (v:ak) (uR left:Int) (bl:Nat) (hO:ig G [rY bl left] w0) (hv:au G (.sl 6 (l.map bS.dat)) v) (hz:fQ l < n) (hl0:0≤uR) (hl1:uR≤1000) (hf1:left≤1000) (hf0:-1000000000000≤left - 4*(fQ l:Int)) :
  Calls prog 137 #[v,vi uR,(aM bl 0)] w0 (gy w0 G [rY bl left] (Qz bl left (fQ l))):=by
 obtain ⟨A,c,rfl,hc1,hc2,hg⟩:=hv.slice;rw [bV] at *;have hll:=IK l;refine jB (N:=121) (T:=[(0,_),(1,_),(2,_)]) func137 rfl ntmps137 rfl rfl hO ?_;intro a H;refine kP H (SR fun _ K1=>aj K1 rfl (SQ fun _ K2=>SR fun _ K3=>aj K3 rfl (SB ?_)));clear H K1 K3;intro a H;skip;refine eH (ι:=Nat × Int × GH) (Tc:=[(0,_),(1,_),(2,_)]) (Lc:=[]) (fun gh=>[(7,vi gh.1)]) (fun gh=>[rY bl gh.2.1]) (fun gh=>gh.2.2) (fun gh=>gh.1≤l.length∧left - 4*(fQ (l.take gh.1):Int)≤gh.2.1∧gh.2.1≤left∧(∀ b o,G b=some o→gh.2.2 b=some o)) (fun gh=>l.length - gh.1) ((0,left,G)) (by exact (H).sub ⟨rfl,rfl,rfl,rfl,aC⟩) ?_ ?_
 ·exact ⟨by omega,by show left - 4*((0:Nat):Int)≤left;omega,Int.le_refl _,fun _ _ h=>h⟩
 clear H;intro gh a w hI H;obtain ⟨k,lf,g⟩:=gh;dsimp only at hI H;obtain ⟨hk,hlo,hhi,hgm⟩:=hI;have hzk:=acp l k;dsimp only [lca,aV] at H;refine kP H (SQ fun _ K4=>SR fun _ K5=>Rm rfl (Rm rfl (Rl kr rfl (Rc rfl (Kz K5 (Cd rfl ?_ ?_)))))) <;> clear H K5
 ·intro gG a H
  try have rR:=dT gG
  have hk2:k < l.length:=by omega
  obtain ⟨b,o,pA,pn,pc,dA,dn,dc,yA,yn,yc,cA,cn,cc,rfl,hrow,hhd,hcl⟩:=JW hk2 hg;have r0:aF g b (o+k*6+0+0)=some (.slice pA pn pc):=ay hgm (hrow 0 _ rfl);have r3:aF g b (o+k*6+0+1+2)=some (.slice dA dn dc):=ay hgm (hrow 3 _ rfl);have r4:aF g b (o+k*6+0+1+3)=some (.slice yA yn yc):=ay hgm (hrow 4 _ rfl);have r5:aF g b (o+k*6+5)=some (.slice cA cn cc):=ay hgm (hrow 5 _ rfl);have hcn:=hcl.len;rw [bV] at hcn;subst hcn;have hcc:=hcl.slice;have q1:=Ev pn;have q2:=Ev dn;have q3:=Ev yn;have hzi:=Aa l[k];have Ug:=Cc l[k].head;have l1:=hhd.props.len;have l2:=hhd.bR.len;have l3:=hhd.layers.len;have m1:=mO (l[k].head.props.map gV.dat);have m2:=mO (l[k].head.marks.bR.map jV.dat);have m3:=mO (l[k].head.marks.layers.map jK.dat);have hzs:=aov hk2;have hzt:=acp l (k+1);have aiX:=IJ l[k].cells;refine kP H (Kc K4 (SQ fun _ K6=>SB (SQ fun _ K7=>?_)));clear H K4;intro a H;refine dI hmx [[],[],[1],[1,2],[1,2,3],[],[],[5,6],[5,6,7],(ra 5 4),(ra 5 5),(ra 5 6),(ra 5 7),(ra 1 12),[],[],[14,15],[14,15,16],(ra 14 4),(ra 14 5),(ra 14 6),(ra 14 7),(ra 14 8),(ra 1 22),[],[],[24,25],[24,25,26],(ra 24 4),(ra 24 5),(ra 24 6),(ra 24 7),(ra 24 8),(ra 1 32),(ra 0 34),(ra 0 35)] [35] (by kernel_rfl) [_,_,_,vi lf,_,_,_,_,_,_,_,_,vi ((pn:Int).tdiv 8),_,_,_,_,_,_,_,_,_,vi ((dn:Int).tdiv 8),_,_,_,_,_,_,_,_,_,vi ((yn:Int).tdiv 8),_,_] H (aG (Z0 rfl (Rm rfl)) (Z0 rfl (Rm rfl)) (Z1 1 17 rfl (Rk rfl)) (Z1 2 18 rfl (Ro aD 0 rfl)) (aG (Z1 3 19 rfl (Rs rfl)) (Z0 rfl (Rm rfl)) (Z0 rfl (Rm rfl)) (Z2 5 21 6 22 rfl (Ri kr iV rfl rfl)) (aG (Z1 7 23 rfl (Rf EW rfl)) (Z1 8 24 rfl (Rf xP rfl)) (X1 9 25 rfl fun hG=>Rg qY rfl (ay hG r0)) (Z1 10 26 rfl (Rl nW rfl)) (aG ?_ (Z2 4 20 12 28 rfl (Rs rfl)) (Z0 rfl (Rm rfl)) (Z0 rfl (Rm rfl)) (aG (Z2 14 30 15 31 rfl (Ri kr iV rfl rfl)) (Z1 16 32 rfl (Rf EW rfl)) (Z1 17 33 rfl (Rf oW rfl)) (Z1 18 34 rfl (Rf mJ rfl)) (aG (X1 19 35 rfl fun hG=>Rg mP rfl (ay hG r3)) (Z1 20 36 rfl (Rl kS rfl)) ?_ (Z2 13 29 22 38 rfl (Rs rfl)) (aG (Z0 rfl (Rm rfl)) (Z0 rfl (Rm rfl)) (Z2 24 40 25 41 rfl (Ri kr iV rfl rfl)) (Z1 26 42 rfl (Rf EW rfl)) (aG (Z1 27 43 rfl (Rf oW rfl)) (Z1 28 44 rfl (Rf vG rfl)) (X1 29 45 rfl fun hG=>Rg vZ rfl (ay hG r4)) (Z1 30 46 rfl (Rl qg rfl)) (aG ?_ (Z2 23 39 32 48 rfl (Rs rfl)) (Z1 0 16 rfl (Rk rfl)) (bY rfl) dD))))))))) ?_
  ·refine dN 11 27 rfl rfl fun _ a w G1 hG HT H fin=>?_;refine Ep _ H wn rfl rfl (by omega) rfl (by omega) (by omega) rfl ?_;clear H;intro a H;exact fin H iJ rfl
  ·refine dN 21 37 rfl rfl fun _ a w G1 hG HT H fin=>?_;refine Ep _ H wn rfl rfl (by omega) rfl (by omega) (by omega) rfl ?_;clear H;intro a H;exact fin H iJ rfl
  ·refine dN 31 47 rfl rfl fun _ a w G1 hG HT H fin=>?_;refine Ep _ H wn rfl rfl (by omega) rfl (by omega) (by omega) rfl ?_;clear H;intro a H;exact fin H iJ rfl
  clear H;intro a w G tL H hv;have H:=H.aZ (hv 33 49 rfl rfl) rfl;have H:=H.aZ (hv 34 50 rfl rfl) rfl;clear hv;refine bN aD 0 (vs:=[_]) _ H wn rfl rfl rfl rfl rfl rfl rfl rfl ?_;clear H;intro w H;dsimp only [List.set,setRow] at H;refine aH ⟨rfl,?_⟩;refine K7 _ _ ?_;clear K7;refine aS (fun _ K8=>?_);refine aS (fun _ K9=>?_);obtain ⟨lf1,ajm⟩:∃ x,x=lf - 1 - (pn:Int).tdiv 8 - (dn:Int).tdiv 8 - (yn:Int).tdiv 8:=⟨_,rfl⟩;rw [← ajm] at H;have LP:∀ b o,g b=some o→G b=some o:=tL;obtain ⟨g1,hg1⟩:∃ x,x=G:=⟨_,rfl⟩;rw [← hg1] at H LP;refine kP H (SC (aO K9 rfl (SB ?_)));clear H K9;intro a H;skip;refine eH (ι:=Nat × Int × GH) (Tc:=[(0,_),(1,_),(2,_),(7,_)]) (Lc:=[]) (fun gh=>[(8,vi gh.1)]) (fun gh=>[rY bl gh.2.1]) (fun gh=>gh.2.2) (fun gh=>gh.1≤l[k].cells.length∧lf1 - 4*(jr (l[k].cells.take gh.1):Int)≤gh.2.1∧gh.2.1≤lf1∧(∀ b o,g b=some o→gh.2.2 b=some o)) (fun gh=>l[k].cells.length - gh.1) ((0,lf1,g1)) (by exact (H).sub ⟨rfl,rfl,rfl,rfl,rfl,aC⟩) ?_ ?_
  ·exact ⟨by omega,by show lf1 - 4*((0:Nat):Int)≤lf1;omega,Int.le_refl _,LP⟩
  clear H;intro gh a w hI H;obtain ⟨j,lf2,g2⟩:=gh;dsimp only at hI H;obtain ⟨hj,hlo2,hhi2,pX⟩:=hI;have kG:=fun b o h=>pX b o (hgm b o h);have apu:=acj l[k].cells j;replace r5:=ay pX r5;dsimp only [lca,aV] at H;refine kP H (SQ fun _ aT=>SR fun _ bB=>Rm rfl (Rm rfl (Rm rfl (Ri kr iV rfl rfl (Rf uJ rfl (Rg uW rfl (by assumption) ?_))))));clear H;intro a H;refine kH H (Rl mh rfl (Rc rfl (Kz bB (Cd rfl ?_ ?_)))) <;> clear H bB
  ·intro jk a H
   try have p58:=dT jk
   have hj2:j < l[k].cells.length:=by omega
   obtain ⟨b2,o2,qA,qn,qc,eA,en,ec,zA,zn,zc,fA,fn,fc,rfl,hrow2,LV,Tp⟩:=GJ hj2 hcl.at_;have t2:aF g2 b2 (o2+j*7+6)=some (.slice fA fn fc):=ay kG (hrow2 6 _ rfl);have p1:=Ev qn;have p2:=Ev en;have p3:=Ev zn;have akh:=zZ l[k].cells[j];have apt:=Cc l[k].cells[j].head;have l4:=LV.props.len;have l5:=LV.bR.len;have l6:=LV.layers.len;have m4:=mO (l[k].cells[j].head.props.map gV.dat);have m5:=mO (l[k].cells[j].head.marks.bR.map jV.dat);have m6:=mO (l[k].cells[j].head.marks.layers.map jK.dat);have aki:=aoq hj2;have apw:=acj l[k].cells (j+1);refine kP H (Kc aT (SQ fun _ bC=>SB (SR fun _ bK=>Rm rfl (Rm rfl (Ri kr iV rfl rfl (Rf uJ rfl (Rg uW rfl (by assumption) ?_)))))));clear H aT;intro a H;refine kH H (Rm rfl (Ri mh iQ rfl rfl (Rf Jm rfl ?_)));clear H;intro a H;refine aW lJ (cs:=[.slice qA qn qc,vi l[k].cells[j].head.marks.ins,vi l[k].cells[j].head.marks.move,.slice eA en ec,.slice zA zn zc]) H wn rfl rfl (fun i v hi=>H.hp.aF (ay kG (aje hrow2 i v hi))) rfl ?_;clear H;intro a H;refine dU lJ H wn rfl ?_;clear H;intro b9 a w rH H;refine bN lJ 0 (vs:=[_,_,_,_,_]) _ H wn rfl rfl rfl rfl rfl rfl rfl rfl ?_;clear H;intro w H;dsimp only [List.set,setRow] at H;refine bK _ _ ?_;clear bK;refine aS (fun _ bP=>?_);refine dI hmx [[],[],[1],[1,2],[1,2,3],[],[5],[5,6],[5,6,7],(ra 1 8),[],[10],[10,11],[10,11,12],(ra 10 4),(ra 1 14),[],[16],[16,17],[16,17,18],(ra 16 4),(ra 1 20),(ra 0 22),(ra 0 23)] [23] (by kernel_rfl) [_,_,_,vi lf2,_,_,.slice qA qn qc,_,vi ((qn:Int).tdiv 8),_,_,_,.slice eA en ec,_,vi ((en:Int).tdiv 8),_,_,_,.slice zA zn zc,_,vi ((zn:Int).tdiv 8),_,_] H (aG (Z0 rfl (Rm rfl)) (Z0 rfl (Rm rfl)) (Z1 1 71 rfl (Rk rfl)) (Z1 2 72 rfl (Ro aD 1 rfl)) (aG (Z1 3 73 rfl (Rs rfl)) (Z0 rfl (Rf xP rfl)) (Z1 5 75 rfl (Ro qY 0 rfl)) (Z1 6 76 rfl (Rl nW rfl)) (aG ?_ (Z2 4 74 8 78 rfl (Rs rfl)) (Z0 rfl (Rf oW rfl)) (Z1 10 80 rfl (Rf mJ rfl)) (aG (Z1 11 81 rfl (Ro mP 0 rfl)) (Z1 12 82 rfl (Rl kS rfl)) ?_ (Z2 9 79 14 84 rfl (Rs rfl)) (aG (Z0 rfl (Rf oW rfl)) (Z1 16 86 rfl (Rf vG rfl)) (Z1 17 87 rfl (Ro vZ 0 rfl)) (Z1 18 88 rfl (Rl qg rfl)) (aG ?_ (Z2 15 85 20 90 rfl (Rs rfl)) (Z1 0 70 rfl (Rk rfl)) (bY rfl) dD)))))) ?_
   ·refine dN 7 77 rfl rfl fun _ a w G1 hG HT H fin=>?_;refine Ep _ H wn rfl rfl (by omega) rfl (by omega) (by omega) rfl ?_;clear H;intro a H;exact fin H iJ rfl
   ·refine dN 13 83 rfl rfl fun _ a w G1 hG HT H fin=>?_;refine Ep _ H wn rfl rfl (by omega) rfl (by omega) (by omega) rfl ?_;clear H;intro a H;exact fin H iJ rfl
   ·refine dN 19 89 rfl rfl fun _ a w G1 hG HT H fin=>?_;refine Ep _ H wn rfl rfl (by omega) rfl (by omega) (by omega) rfl ?_;clear H;intro a H;exact fin H iJ rfl
   clear H;intro a w G Fa H hv;have H:=H.aZ (hv 21 91 rfl rfl) rfl;have H:=H.aZ (hv 22 92 rfl rfl) rfl;clear hv;refine bN aD 1 (vs:=[_]) _ H wn rfl rfl rfl rfl rfl rfl rfl rfl ?_;clear H;intro w H;dsimp only [List.set,setRow] at H;refine aH ⟨rfl,?_⟩;refine bP _ _ ?_;clear bP;refine kP H (SR fun _ dx=>Rm rfl (Rk rfl (Ro aD 1 rfl (Rc rfl (Rm rfl (Sp 97 rfl ?_ ?_)))))) <;> clear H
   ·intro h97 a H
    try have p97:=dT h97
    exact kH H (aN h97 rfl (Pt h97 rfl (Rm rfl (aQ rfl rfl (aQ rfl rfl (aQ rfl rfl (aQ rfl rfl (aN rfl rfl (Pt rfl rfl (Kz dx (Ct rfl rfl (SR fun _ dP=>aj dP rfl (LR results137 rfl fun H=>H.hp.cK (L':=[rY bl _]) (by repeat (first|exact cO _|apply List.Sublist.cons)) ⟨_,_,rfl,rfl,by omega,by omega⟩)))))))))))))
   intro h97 a H
   try have p97:=dF h97
   replace r5:=ay Fa r5;replace t2:=ay Fa t2;refine kH H (YM h97 rfl (YC h97 rfl (Pf h97 rfl (Rm rfl (Sp 101 rfl ?_ ?_))))) <;> clear H
   ·intro nH a H
    try have MB:=dT nH
    exact kH H (aQ nH rfl (aQ nH rfl (aQ nH rfl (aQ nH rfl (aN nH rfl (Pt nH rfl (Kz dx (Ct rfl rfl (SR fun _ dB=>aj dB rfl (LR results137 rfl fun H=>H.hp.cK (L':=[rY bl _]) (by repeat (first|exact cO _|apply List.Sublist.cons)) ⟨_,_,rfl,rfl,by omega,by omega⟩))))))))))
   intro nH a H
   try have MB:=dF nH
   refine kH H (YM nH rfl (YM nH rfl (YI kr iV nH rfl rfl (YF uJ nH rfl (YR uW nH rfl (by assumption) ?_)))));clear H;intro a H;refine kH H (YM nH rfl (YI mh iQ nH rfl rfl (YF Cx nH rfl (YR jy nH rfl (by assumption) ?_))));clear H;intro a H;refine kH H (YM nH rfl ?_);clear H;intro a H;refine nU _ H (wg H rfl rfl nH) rfl rfl rfl (by omega) (by omega) rfl ?_;clear H;intro a H;refine kH H (YM nH rfl ?_);clear H;intro a H;refine gB Rw (Li:=[_]) (L:=[rY bl _]) (H.dS (Pl:=[_,_]) (dL:=[_,_]) [0,1] (by decide) rfl) (wg H rfl rfl nH) rfl (ih _ _ l[k].cells[j].flow _ (uR - 1) _ bl (Hp.owns (Li:=[_]) (H.dS (Pl:=[_,_]) (dL:=[_,_]) [0,1] (by decide) rfl).hp) (Tp.mono fun b o h=>Fa b o (kG b o h)) (by omega) (by omega) (by omega) (by omega) (by omega)) rfl ?_;clear H;rintro apF acu aoz a w ⟨aoB,lf3,rfl,rfl,hlo3,hhi3⟩ ajq H;dsimp only [lca,aV] at H;refine kH H (YN nH rfl (Pf nH rfl (Kz dx (Cd rfl ?_ ?_)))) <;> clear H dx
   ·intro h116 a H
    try have Px:=dT h116
    exact kP H (SR fun _ dY=>aj dY rfl (LR results137 rfl fun H=>H.hp.cK (L':=[rY bl _]) (by repeat (first|exact cO _|apply List.Sublist.cons)) ⟨_,_,rfl,rfl,by omega,by omega⟩))
   intro h116 a H
   try have Px:=dF h116
   refine kP H (Kc bC (SC (Rm rfl (Rd rfl (Ra rfl ?_)))));clear H bC;intro a H;refine aH ?_;refine dK ((j+1,lf3,acu)) (by exact (H.dS (Pl:=[_,_]) (dL:=[_]) [1] (by decide) rfl).sub ⟨rfl,rfl,rfl,rfl,rfl,aC⟩) ?_ ?_
   ·(try dsimp only);exact ⟨by omega,by omega,by omega,fun b o h=>ajq b o (Fa b o (pX b o h))⟩
   first|omega|(dsimp only;omega)
  intro jk a H
  try have p58:=dF jk
  refine dW ?_;refine K8 _ _ ?_;clear K8;refine kP H (SR fun _ eP=>Rm rfl (Rk rfl (Ro aD 0 rfl (Rc rfl (Kz eP (Cd rfl ?_ ?_)))))) <;> clear H eP
  ·intro nI a H
   try have Fy:=dT nI
   exact kP H (SR fun _ dZ=>aj dZ rfl (LR results137 rfl fun H=>H.hp.cK (L':=[rY bl _]) (by repeat (first|exact cO _|apply List.Sublist.cons)) ⟨_,_,rfl,rfl,by omega,by omega⟩))
  intro nI a H
  try have Fy:=dF nI
  refine kP H (Kc K6 (SC (Rm rfl (Rd rfl (Ra rfl ?_)))));clear H K6;intro a H;refine aH ?_;refine dK ((k+1,lf2,g2)) (by exact (H).sub ⟨rfl,rfl,rfl,rfl,aC⟩) ?_ ?_
  ·(try dsimp only);exact ⟨by omega,by omega,by omega,kG⟩
  first|omega|(dsimp only;omega)
 intro gG a H
 try have rR:=dF gG
 refine dW ?_;refine K2 _ _ ?_;clear K2;exact kP H (SR fun _ eU=>aj eU rfl (LR results137 rfl fun H=>H.hp.cK (L':=[rY bl _]) (by repeat (first|exact cO _|apply List.Sublist.cons)) ⟨_,_,rfl,rfl,by omega,by omega⟩))
theorem Vh:∀ n:Nat,n≤4294967296→Np n
 | 0,_=>fun _ _ _ _ _ _ _ _ _ hz=>absurd hz (Nat.not_lt_zero _)
 | n+1,h=>anf (Vh n (by omega)) (by omega) (fun G w0 l v uR left bl hO hv hz h1 h2 h3 h4=>anh (Vh n (by omega)) (by omega) G w0 l v uR left bl hO hv hz h1 h2 h3 h4)
theorem ang (G:GH) (w0:World) (hG:Hold G w0) (l:List aJ) (v:ak) (hv:au G (.sl 11 (l.map aJ.dat)) v) (hz:bU l≤1073741824) :
  Calls prog 24 #[v] w0 (bJ w0 G fun u G'=>∃ b,u=.bool b):=by
 refine eN [(0,_)] func24 rfl ntmps24 rfl rfl hG ?_;intro a H;refine kP H (SR fun _ K1=>aj K1 rfl (SR fun _ K2=>?_));clear H K1;intro a H;refine dU aD H wn rfl ?_;clear H;intro b3 a w hb3 H;refine bN aD 0 (vs:=[_]) _ H wn rfl rfl rfl rfl rfl rfl rfl rfl ?_;clear H;intro w H;dsimp only [List.set,setRow] at H;refine K2 _ _ ?_;clear K2;refine kP H (SR fun _ K3=>Rm rfl ?_);clear H;intro a H;refine gB Rw (Li:=[]) (L:=[rY b3 300]) H wn rfl (Vh 4294967296 (dJ _) _ _ l v 12 300 b3 (Hp.owns (Li:=[]) H.hp) hv (by omega) (by decide) (by decide) (by decide) (by omega)) rfl ?_;clear H;rintro v5 G5 L5 a w ⟨b5,lf5,rfl,rfl,-,-⟩ OC H;exact kH H (aj K3 rfl (LR results24 rfl fun H=>H.rt ⟨_,rfl⟩))
end
section
open Go.RowKit
theorem afW:∀ args w,(callFunc 26 args).run prog w=.ok (.enter 26 args) w:=enters func26 rfl (by kernel_rfl)
theorem ano:uj prog 75 [(0,11),(11,1),(12,1),(13,1)] [.slice none 0 0,.slice none 0 0,.int .i64 0,.int .i64 0,.slice none 0 0,.slice none 0 0,.slice none 0 0,.slice none 0 0,.slice none 0 0,.slice none 0 0,.slice none 0 0,.slice none 0 0,.slice none 0 0,.int .i64 0]:=⟨by kernel_rfl,by kernel_rfl⟩
theorem afU:∀ args w,(callFunc 24 args).run prog w=.ok (.enter 24 args) w:=enters func24 rfl (by kernel_rfl)
theorem afV:∀ args w,(callFunc 25 args).run prog w=.ok (.enter 25 args) w:=enters func25 rfl (by kernel_rfl)
set_option maxHeartbeats 4000000 in
theorem aad (G:GH) (w0:World) (hG:Hold G w0) (D:jS) (d:oC) (hR:qF G D d) (hz:Ey d) :
  Calls prog 7 #[D.val] w0 (bJ w0 G fun u G'=>u=vi (jL d)):=by
 obtain ⟨df,dp,dd,dy,⟨rA,rn,rc⟩,d1,d2,d3,d4,ins,mv⟩:=D;obtain ⟨hfl,hhd,hin,hmv,mU,hst⟩:=hR;dsimp only at hfl hhd hin hmv mU hst;subst hin;subst hmv;obtain ⟨zf,zh,zr,zt,zs,zg⟩:=hz;have hdl:=hhd.bR.len;rw [bV] at hdl
 have hdn:d.fin.marks.bR.length≤4294967296:=by
  have h1:=Cc d.fin;have h2:=mO (d.fin.marks.bR.map jV.dat);rw [bV] at h2;omega
 have hrl:=mU.len;rw [bV] at hrl;dsimp only at hrl;subst hrl;refine eN [(0,_)] func7 rfl ntmps7 rfl rfl hG ?_;intro a H;refine dw (fun _ K1=>?_);refine eD (cs:=[_,_,_,_,_,_,_,_,_,_,_]) H wn rfl rfl rfl ?_;clear H;intro b1 a w hb1 H;refine kH H (aj K1 rfl (SQ fun _ K2=>SQ fun _ K3=>?_));clear H K1;intro a H;obtain ⟨Ga,hma,hb1',H⟩:=H.eG;have hgs:=fun j v hj=>oq hb1' 7 [aK d1,aK d2,aK d3,aK d4] rfl j v hj;have hgh:=fun j v hj=>oq hb1' 1 [aK dp,vi d.fin.marks.ins,vi d.fin.marks.move,aK dd,aK dy] rfl j v hj;have hgm:=fun j v hj=>oq hb1' 2 [vi d.fin.marks.ins,vi d.fin.marks.move,aK dd,aK dy] rfl j v hj
 have hgr:aF Ga b1 6=some (.slice rA d.revs.length rc):=by unfold aF;rw [hb1'];rfl
 have hgf:aF Ga b1 0=some (aK df):=by unfold aF;rw [hb1'];rfl
 have hga:=fun j v hj=>oq hb1' 0 [aK df,aK dp,vi d.fin.marks.ins,vi d.fin.marks.move,aK dd,aK dy,.slice rA d.revs.length rc,aK d1,aK d2,aK d3,aK d4] rfl j v hj;replace hfl:=hfl.mono hma;replace hhd:=hhd.mono hma;replace mU:=mU.mono hma;replace hst:=hst.mono hma;refine kP H (SC (Rf xQ rfl ?_));clear H;intro a H;refine aW tZ (cs:=[aK d1,aK d2,aK d3,aK d4]) H wn rfl rfl (fun j v hj=>H.hp.aF (hgs j v hj)) rfl ?_;clear H;intro a H;refine s_call afW H wn rfl (ald _ _ H.ro d.gq _ _ _ _ hst zg) rfl ?_;clear H;rintro v13 yO a w rfl nT H;refine kH H (aO K3 rfl (SR fun _ K4=>Rm rfl (Rc rfl (Kz K4 (Cd rfl ?_ ?_))))) <;> clear H K3 K4
 ·intro fM a H
  try have oL:=dT fM
  refine aS (fun _ K5=>?_)
  have e:jL d=lF d.gq:=by rw [jL,bT,bT,av oL,av oL]
  exact kP H (SC (Rm rfl (aO K5 rfl (LR results7 rfl fun H=>H.rt (aB vi e.symm)))))
 intro fM a H
 try have oL:=dF fM
 have e1:lF d.gq=0:=gH.1 oL
 have hE1:jL d=bT [yX d.revs,bT [fP d.oV 3 d.fin,bQ (sO d.fin.marks) 21],(jg d.oV true false 0 d.flow ⟨0,[]⟩).1,bQ (decide (16384 < (jg d.oV true false 0 d.flow ⟨0,[]⟩).2.n)) 9]:=by
  rw [jL,jc e1,CF]
 replace hgr:=ay nT hgr;replace mU:=mU.mono nT;refine kP H (Kc K2 (SQ fun _ K6=>SR fun _ K7=>Rf qM rfl (Rg ow rfl (by assumption) ?_)));clear H K2;intro a H;refine kH H (Rl mH rfl (Rc rfl (Kz K7 (Cd rfl ?_ ?_)))) <;> clear H K7
 ·intro h20 a H
  try have qW:=dT h20
  refine aS (fun _ K8=>?_)
  have e:jL d=9:=by
   have h:yX d.revs=9:=Pk (m:=256) (by omega);rw [hE1,wM (by rw [h];decide),h]
  exact kP H (SC (aO K8 rfl (LR results7 rfl fun H=>H.rt (aB vi e.symm))))
 intro h20 a H
 try have qW:=dF h20
 have hRv:yX d.revs=iI (zS d.revs) d.revs.length:=Pj (m:=256) (by omega);refine kP H (Kc K6 (SQ fun _ K9=>SR fun _ aT=>aj aT rfl (SB ?_)));clear H K6 aT;intro a H;skip;refine eH (ι:=Nat × GH) (Tc:=[(1,_)]) (Lc:=[]) (fun gh=>[(4,vi gh.1)]) (fun gh=>[]) (fun gh=>gh.2) (fun gh=>gh.1≤d.revs.length∧bT (((List.range d.revs.length).map (zS d.revs)).drop gh.1)=iI (zS d.revs) d.revs.length∧(∀ b o,yO b=some o→gh.2 b=some o)) (fun gh=>d.revs.length - gh.1) ((0,yO)) (by exact (H).sub ⟨rfl,rfl,aC⟩) ?_ ?_
 ·exact ⟨iF _,rfl,fun _ _ h=>h⟩
 clear H;intro gh a w hI H;obtain ⟨k,g⟩:=gh;dsimp only at hI H;obtain ⟨hk,he,pX⟩:=hI;have ajj:=ay pX hgr;have Zn:=mU.mono pX;dsimp only [lca,aV] at H;refine kP H (SQ fun _ bB=>SR fun _ bC=>Rm rfl (Rf qM rfl (Rg ow rfl (by assumption) ?_)));clear H;intro a H;refine kH H (Rl mH rfl (Rc rfl (Kz bC (Cd rfl ?_ ?_)))) <;> clear H bC
 ·intro gP a H
  try have p25:=dT gP
  have hk2:k < d.revs.length:=by omega
  have hk1:k - 1 < d.revs.length:=by omega
  obtain ⟨lb,lo,rfl,hrow⟩:=JY Zn hk2;obtain ⟨_,_,Hz,hrow'⟩:=JY Zn hk1
  injection Hz with Hz
  injection Hz with KQ e2'
  subst KQ;subst e2';have hte:=zt _ (jW hk2);obtain ⟨x,hx⟩:∃ x,x=d.revs[k]:=⟨_,rfl⟩
  have hek:zS d.revs k=MO d.revs k x:=by unfold zS;rw [fT hk2,hx]
  unfold MO at hek
  have hinc:wY x.id d.revs[k - 1].id (decide ((k:Int)=0))=kY (fun k=>(d.revs[k]?.map dh.id).getD 0) k:=by
   rw [← Um];(try dsimp only);rw [fT hk2,fT hk1,hx];simp
  rw [← hx] at hrow hte
  have OW:∀ e,zS d.revs k=e→e≠0→jL d=e:=fun e h1 h2=>by
   have h3:yX d.revs=e:=by rw [hRv,yU hk2 he (by rw [h1];exact h2),h1]
   rw [hE1,wM (by rw [h3];exact h2),h3]
  refine kP H (Kc bB (SQ fun _ bK=>SB (SR fun _ bP=>Rf qM rfl (Rg ow rfl (by assumption) ?_))));clear H bB;intro a H;refine kH H (Rm rfl (Ri mH nV rfl rfl ?_));clear H;intro a H;refine aW nV (cs:=x.cells) H wn rfl rfl (fun j v hj=>H.hp.aF (hrow j v hj)) rfl ?_;clear H;intro a H;refine dU nV H wn rfl ?_;clear H;intro b5 a w hb5 H;refine bN nV 0 (vs:=[_,_,_]) _ H wn rfl rfl rfl rfl rfl rfl rfl rfl ?_;clear H;intro w H;dsimp only [List.set,setRow] at H;refine bP _ _ ?_;clear bP;refine aS (fun _ dx=>?_);refine aS (fun _ dP=>?_);refine dI hmx [[],[0],[],[2],[],[4],[4,5],(ra 2 5),(ra 2 6),(ra 2 7),[],[10],(ra 0 12),(ra 0 13)] [13] (by kernel_rfl) [_,vi x.id,_,_,_,_,vi ((k - 1:Nat):Int),_,_,_,_,_,vi (kY (fun k=>(d.revs[k]?.map dh.id).getD 0) k)] H (aG (Z0 rfl (Rf Lg rfl)) (Z1 0 33 rfl (Ro aD 0 rfl)) (Z0 rfl (Rf qM rfl)) (X1 2 35 rfl fun hG=>Rg ow rfl (ay hG ajj)) (aG (Z0 rfl (Rm rfl)) (Z1 4 37 rfl (Rs rfl)) ?_ (Z2 3 36 6 39 rfl (Ri mH nV rfl rfl)) (aG (Z1 7 40 rfl (Rf Lg rfl)) (X1 8 41 rfl fun hG=>Rg aD rfl (ay hG (hrow' 0 _ rfl))) (Z0 rfl (Rm rfl)) (Z1 10 43 rfl (Rc rfl)) (bq ?_ (bq (bY rfl) dD))))) ?_
  ·refine dN 5 38 rfl rfl fun _ a w G1 hG HT H fin=>?_;refine FD H wn rfl rfl rfl ?_;clear H;intro a H;exact fin H iJ (aB vi (by omega))
  ·refine rC 1 34 9 42 11 44 rfl rfl fun _ a w G1 hG HT H fin=>?_;refine s_call Rp H wn rfl (Un _ _ H.ro x.id d.revs[k - 1].id (decide ((k:Int)=0))) rfl ?_;clear H;rintro v45 G45 a w ⟨rfl,-⟩ ahZ H;exact fin H ahZ (aB vi hinc)
  clear H;intro a w G pW H hv;have H:=H.aZ (hv 12 45 rfl rfl) rfl;clear hv;refine kH H (Ra rfl ?_);clear H;intro a H;refine aH ⟨rfl,?_⟩;refine dP _ _ ?_;clear dP;refine kP H (SR fun _ dB=>Rm rfl (Rc rfl (Kz dB (Cd rfl ?_ ?_)))) <;> clear H dB
  ·intro h47 a H
   try have p47:=dT h47
   refine aS (fun _ dY=>?_);have e:jL d=kY (fun k=>(d.revs[k]?.map dh.id).getD 0) k:=OW _ (by rw [hek,wM p47]) p47;exact kP H (SC (Rm rfl (aO dY rfl (LR results7 rfl fun H=>H.rt (aB vi e.symm)))))
  intro h47 a H
  try have p47:=dF h47
  refine kP H (Kc dx (SB (SR fun _ eP=>bg X7 gD 0 rfl rfl ?_)));clear H dx;intro a H;refine s_call XD H wn rfl (WI _ _ H.ro x.author hte) rfl ?_;clear H;rintro v52 _ a w ⟨rfl,rfl⟩ - H;refine kH H (Rn rfl (aj eP rfl (Cd rfl ?_ ?_))) <;> clear H eP
  ·intro qx a H
   refine aS (fun _ dZ=>?_);have e:jL d=39:=OW _ (by rw [hek,jc (gH.1 p47),show (!qm x.author)=true from qx];rfl) (by decide);exact kP H (SC (aO dZ rfl (LR results7 rfl fun H=>H.rt (aB vi e.symm))))
  intro qx a H
  try have p49:=dF qx
  have FN:bQ (!qm x.author) 39=0:=by rw [show (!qm x.author)=false from qx];rfl
  refine kP H (SR fun _ eU=>bg Jq aD 0 rfl rfl (Rc rfl (Rm rfl (Sp 58 rfl ?_ ?_)))) <;> clear H
  ·intro jk a H
   try have p58:=dT jk
   refine kH H (aQ jk rfl (Pt jk rfl (aj eU rfl (Ct rfl rfl (SQ fun _ fK=>?_)))));clear H eU;intro a H;have e:jL d=40:=OW _ (by rw [hek,jc (gH.1 p47),jc FN,fZ (by omega)];rfl) (by decide);exact kP H (SC (aO fK rfl (LR results7 rfl fun H=>H.rt (aB vi e.symm))))
  intro jk a H
  try have p58:=dF jk
  refine kH H (YF Jq jk rfl (YO aD 0 jk rfl (YC jk rfl (Pf jk rfl (aj eU rfl (Cd rfl ?_ ?_)))))) <;> clear H eU
  ·intro gK a H
   try have p54:=dT gK
   refine aS (fun _ gM=>?_);have e:jL d=40:=OW _ (by rw [hek,jc (gH.1 p47),jc FN,fZ (by omega)];rfl) (by decide);exact kP H (SC (aO gM rfl (LR results7 rfl fun H=>H.rt (aB vi e.symm))))
  intro gK a H
  try have p54:=dF gK
  have Qh:bQ (!decide (0≤x.time∧x.time≤1099511627776)) 40=0:=by rw [gW (by omega)];rfl
  refine kP H (Kc bK (SC (Rm rfl (Rd rfl (Ra rfl ?_)))));clear H bK;intro a H;refine aH ?_;refine dK ((k+1,_)) (by exact (H.dS (Pl:=[_]) (dL:=[]) [] (by decide) rfl).sub ⟨rfl,rfl,aC⟩) ?_ ?_
  ·(try dsimp only);exact ⟨by omega,Nr hk2 he (by rw [hek,jc (gH.1 p47),jc FN,jc Qh];rfl),fun b o h=>pW b o (pX b o h)⟩
  first|omega|(dsimp only;omega)
 intro gP a H
 try have p25:=dF gP
 have ail:yX d.revs=0:=by rw [hRv,Nq (by omega) he]
 rw [jc ail] at hE1;have hgg:∀ b o,Ga b=some o→g b=some o:=fun b o h=>pX b o (nT b o h);replace hhd:=hhd.mono hgg;replace hfl:=hfl.mono hgg;have hmk:Cj g ⟨df,dp,dd,dy,⟨rA,d.revs.length,rc⟩,d1,d2,d3,d4,d.fin.marks.ins,d.fin.marks.move⟩ d.gq.styles d.gq.lists d.revs:=⟨hst.st.mono hgg,hst.li.mono hgg,mU.mono pX⟩;have hmz:Gy d.gq.styles d.gq.lists d.revs:=⟨abp (zm e1 _ lW),zs,zg.ln,zr⟩;have ajh:=ay hgg hgf;refine dW ?_;refine K9 _ _ ?_;clear K9;refine dw (fun _ iC=>?_);refine aW jQ H wn rfl rfl (fun j v hj=>H.hp.aF (ay hgg (hga j v hj))) rfl ?_;clear H;intro a H;refine nk ano [_,_,_,_,_,_,_,_,_,_,_,_,_,_] H wn rfl rfl rfl rfl ?_;clear H;intro a H;refine eD (cs:=[_,_,_,_,_,_,_,_,_,_,_,_,_,_]) H wn rfl rfl rfl ?_;clear H;intro Nt a w aoR H;refine kH H (aj iC rfl (SQ fun _ gu=>SR fun _ iX=>Rm rfl (Rf Ak rfl ?_)));clear H iC;intro a H;refine aW lJ (cs:=[aK dp,vi d.fin.marks.ins,vi d.fin.marks.move,aK dd,aK dy]) H wn rfl rfl (fun j v hj=>H.hp.aF (ay hgg (hgh j v hj))) rfl ?_;clear H;intro a H;refine gB NT (Li:=[]) (L:=[iZ ⟨df,dp,dd,dy,⟨rA,d.revs.length,rc⟩,d1,d2,d3,d4,d.fin.marks.ins,d.fin.marks.move⟩ Nt (.slice none 0 0) 0]) H wn rfl (Pv _ _ _ _ _ _ _ Nt (.slice none 0 0) 0 hmk hmz (Hp.owns (Li:=[]) H.hp) 3 d.fin _ _ _ hhd zh) rfl ?_;clear H;rintro v69 _ _ a w ⟨rfl,rfl,rfl⟩ - H;dsimp only [List.nil_append] at H;refine kH H (aj iX rfl (SR fun _ jo=>Rm rfl (Rc rfl (Kz jo (Cd rfl ?_ ?_))))) <;> clear H iX jo
 ·intro uN a H
  try have p71:=dT uN
  refine aS (fun _ iN=>?_)
  have e:jL d=fP d.oV 3 d.fin:=by rw [hE1,wM p71,wM p71]
  exact kP H (SC (Rm rfl (aO iN rfl (LR results7 rfl fun H=>H.rt (aB vi e.symm)))))
 intro uN a H
 try have p71:=dF uN
 rw [jc (gH.1 p71),CF] at hE1;refine kP H (Kc gu (SQ fun _ kJ=>SR fun _ kK=>Rf Ak rfl (Rf oW rfl ?_)));clear H gu;intro a H;refine aW AU (cs:=[vi d.fin.marks.ins,vi d.fin.marks.move,aK dd,aK dy]) H wn rfl rfl (fun j v hj=>H.hp.aF (ay hgg (hgm j v hj))) rfl ?_;clear H;intro a H;refine dU AU H wn rfl ?_;clear H;intro b9 a w rH H;refine bN AU 0 (vs:=[_,_,_,_]) _ H wn rfl rfl rfl rfl rfl rfl rfl rfl ?_;clear H;intro w H;dsimp only [List.set,setRow] at H;refine kK _ _ ?_;clear kK;refine kP H (SR fun _ jA=>bg uL aD 0 rfl rfl (Rc rfl (Rm rfl (Sp 79 rfl ?_ ?_)))) <;> clear H
 ·intro jd a H
  try have zO:=dT jd
  refine kH H (aQ jd rfl (Pt jd rfl (Rm rfl (aN rfl rfl (aN rfl rfl (Pt rfl rfl (Kz jA (Ct rfl rfl (SQ fun _ kT=>?_)))))))));clear H jA;intro a H
  have e:jL d=21:=by
   have h:sO d.fin.marks=true:=gW (by simp_all);rw [hE1,h];rfl
  exact kP H (SC (aO kT rfl (LR results7 rfl fun H=>H.rt (aB vi e.symm))))
 intro jd a H
 try have zO:=dF jd
 refine kH H (YF wI jd rfl (YO aD 0 jd rfl (YC jd rfl (Pf jd rfl (Rm rfl (Sp 84 rfl ?_ ?_)))))) <;> clear H
 ·intro h84 a H
  try have UW:=dT h84
  refine kH H (aN h84 rfl (aN h84 rfl (Pt h84 rfl (Kz jA (Ct rfl rfl (SQ fun _ kU=>?_))))));clear H jA;intro a H
  have e:jL d=21:=by
   have h:sO d.fin.marks=true:=gW (by simp_all);rw [hE1,h];rfl
  exact kP H (SC (aO kU rfl (LR results7 rfl fun H=>H.rt (aB vi e.symm))))
 intro h84 a H
 try have UW:=dF h84
 refine kH H (YF mJ h84 rfl (YO mP 0 h84 rfl (YL kS h84 rfl (YC h84 rfl (Pf h84 rfl (Kz jA (Cd rfl ?_ ?_))))))) <;> clear H jA
 ·intro Jt a H
  try have p89:=dT Jt
  refine aS (fun _ lM=>?_)
  have e:jL d=21:=by
   have h:sO d.fin.marks=true:=gW (by simp_all);rw [hE1,h];rfl
  exact kP H (SC (aO lM rfl (LR results7 rfl fun H=>H.rt (aB vi e.symm))))
 intro Jt a H
 try have p89:=dF Jt
 have hmb:sO d.fin.marks=false:=fZ (by simp_all);rw [hmb,jc (show bQ false 21=0 from rfl)] at hE1;refine kP H (Kc kJ (SQ fun _ lN=>SR fun _ lQ=>Rm rfl (Rf uM rfl (Rg jy rfl ajh ?_))));clear H kJ;intro a H;refine gB Rq (Li:=[_]) (L:=[iZ ⟨df,dp,dd,dy,⟨rA,d.revs.length,rc⟩,d1,d2,d3,d4,d.fin.marks.ins,d.fin.marks.move⟩ Nt (.slice none 0 0) 0]) H wn rfl (aae 4294967297 (by omega) _ _ [] _ _ _ _ _ Nt _ ⟨0,[]⟩ d.flow _ true false 0 hmk hmz ⟨[],rfl,dO.nil⟩ (Hp.owns (Li:=[_]) H.hp) hfl (by omega) (by omega) (by omega) (by decide) (by dsimp only;omega) (by dsimp only [List.length_nil];omega)) rfl ?_;clear H;rintro v93 _ _ a w ⟨rfl,v5,L5,s5,rfl,rfl,hv5,h5⟩ - H;dsimp only [lca,aV] at H;refine kH H (aj lQ rfl (SR fun _ mo=>Rm rfl (Rc rfl (Kz mo (Cd rfl ?_ ?_))))) <;> clear H lQ mo
 ·intro Hf a H
  try have Ej:=dT Hf
  refine aS (fun _ rz=>?_)
  have e:jL d=(jg d.oV true false 0 d.flow ⟨0,[]⟩).1:=by rw [hE1,wM Ej]
  exact kP H (SC (Rm rfl (aO rz rfl (LR results7 rfl fun H=>H.rt (aB vi e.symm)))))
 intro Hf a H
 try have Ej:=dF Hf
 rw [jc (gH.1 Ej),CF] at hE1;have hs5:=h5 (gH.1 Ej);subst hs5;refine kP H (Kc lN (SQ fun _ wm=>SR fun _ lS=>Rm rfl (Rk rfl (bg RF aD 1 rfl rfl (Rc rfl (Kz lS (Cd rfl ?_ ?_))))))) <;> clear H lN lS
 ·intro nH a H
  try have MB:=dT nH
  refine aS (fun _ yQ=>?_)
  have e:jL d=9:=by rw [hE1,gW MB];rfl
  exact kP H (SC (aO yQ rfl (LR results7 rfl fun H=>H.rt (aB vi e.symm))))
 intro nH a H
 try have MB:=dF nH
 refine fu ?_;refine wm _ _ ?_;clear wm;refine aS (fun _ wo=>?_)
 have e:jL d=0:=by rw [hE1,fZ MB];rfl
 exact kP H (SC (aO wo rfl (LR results7 rfl fun H=>H.rt (aB vi e.symm))))
theorem abd (G:GH) (w0:World) (hG:Hold G w0) (D:jS) (d:oC) (hR:qF G D d) (hz:Ey d) :
  Calls prog 6 #[D.val] w0 (bJ w0 G fun u G'=>∃ b,u=.bool b):=by
 obtain ⟨df,dp,dd,dy,dr,d1,d2,d3,d4,ins,mv⟩:=D;obtain ⟨hfl,hhd,hin,hmv,mU,hst⟩:=hR;dsimp only at hfl hhd hin hmv mU hst;subst hin;subst hmv;refine eN [(0,_)] func6 rfl ntmps6 rfl rfl hG ?_;intro a H;refine dw (fun _ K1=>?_);refine eD (cs:=[_,_,_,_,_,_,_,_,_,_,_]) H wn rfl rfl rfl ?_;clear H;intro b1 a w hb1 H;refine kH H (aj K1 rfl (SQ fun _ K2=>?_));clear H K1;intro a H;obtain ⟨Ga,hma,hb1',H⟩:=H.eG;have hgs:=fun j v hj=>oq hb1' 7 [aK d1,aK d2,aK d3,aK d4] rfl j v hj;have hgh:=fun j v hj=>oq hb1' 1 [aK dp,vi d.fin.marks.ins,vi d.fin.marks.move,aK dd,aK dy] rfl j v hj
 have hgr:aF Ga b1 6=some (aK dr):=by unfold aF;rw [hb1'];rfl
 have hgf:aF Ga b1 0=some (aK df):=by unfold aF;rw [hb1'];rfl
 replace hfl:=hfl.mono hma;replace hst:=hst.mono hma;refine kP H (SC (Rf Ak rfl ?_));clear H;intro a H;refine aW lJ (cs:=[aK dp,vi d.fin.marks.ins,vi d.fin.marks.move,aK dd,aK dy]) H wn rfl rfl (fun j v hj=>H.hp.aF (hgh j v hj)) rfl ?_;clear H;intro a H;refine dU lJ H wn rfl ?_;clear H;intro b3 a w hb3 H;refine bN lJ 0 (vs:=[_,_,_,_,_]) _ H wn rfl rfl rfl rfl rfl rfl rfl rfl ?_;clear H;intro w H;dsimp only [List.set,setRow] at H;refine kH H (Kn K2 (SR fun _ K3=>Rf uM rfl (Rg jy rfl (by assumption) ?_)));clear H K2;intro a H;refine s_call afU H wn rfl (ang _ _ H.ro d.flow _ hfl hz.fl) rfl ?_;clear H;rintro v8 G8 a w ⟨b8,rfl⟩ tT H;refine kH H (Rm rfl (Sp 9 rfl ?_ ?_)) <;> clear H
 ·intro h9 a H
  refine kH H (YF xQ h9 rfl ?_);clear H;intro a H;refine aW tZ (cs:=[aK d1,aK d2,aK d3,aK d4]) H (wg H rfl rfl h9) rfl rfl (fun j v hj=>H.hp.aF (ay tT (hgs j v hj))) rfl ?_;clear H;intro a H;refine s_call afV H (wg H rfl rfl h9) rfl (ani _ _ H.ro d.gq _ _ _ _ (hst.mono tT) hz.sn hz.st) rfl ?_;clear H;rintro v12 Dp a w ⟨b12,rfl⟩ BA H;replace hgr:=ay BA (ay tT hgr);refine kH H (Pt h9 rfl (Rm rfl (Sp 14 rfl ?_ ?_))) <;> clear H
  ·intro dM a H
   refine kH H (YF qM dM rfl (YR ow dM rfl hgr (YL mH dM rfl (YC dM rfl (Pt dM rfl (Rm rfl (Sp 20 rfl ?_ ?_))))))) <;> clear H
   ·intro h20 a H
    refine kH H (YF xP h20 rfl (YO qY 0 h20 rfl (YL nW h20 rfl (YC h20 rfl (Pt h20 rfl (Rm rfl (Sp 26 rfl ?_ ?_))))))) <;> clear H
    ·intro fI a H
     refine kH H (YF oW fI rfl (YF vG fI rfl (YO vZ 0 fI rfl (YL qg fI rfl (YC fI rfl (Pt fI rfl (Rm rfl (Sp 33 rfl ?_ ?_)))))))) <;> clear H
     ·intro lG a H
      exact kH H (YF oW lG rfl (YF mJ lG rfl (YO mP 0 lG rfl (YL kS lG rfl (YC lG rfl (Pt lG rfl (aj K3 rfl (LR results6 rfl fun H=>H.rt ⟨_,rfl⟩))))))))
     intro lG a H
     exact kH H (aQ lG rfl (aN lG rfl (Pf lG rfl (aj K3 rfl (LR results6 rfl fun H=>H.rt ⟨_,rfl⟩)))))
    intro fI a H
    exact kH H (aQ fI rfl (aN fI rfl (Pf fI rfl (Rm rfl (aQ rfl rfl (aN rfl rfl (Pf rfl rfl (aj K3 rfl (LR results6 rfl fun H=>H.rt ⟨_,rfl⟩)))))))))
   intro h20 a H
   exact kH H (aN h20 rfl (aN h20 rfl (Pf h20 rfl (Rm rfl (aQ rfl rfl (aN rfl rfl (Pf rfl rfl (Rm rfl (aQ rfl rfl (aN rfl rfl (Pf rfl rfl (aj K3 rfl (LR results6 rfl fun H=>H.rt ⟨_,rfl⟩)))))))))))))
  intro dM a H
  exact kH H (aN dM rfl (aN dM rfl (Pf dM rfl (Rm rfl (aN rfl rfl (aN rfl rfl (Pf rfl rfl (Rm rfl (aQ rfl rfl (aN rfl rfl (Pf rfl rfl (Rm rfl (aQ rfl rfl (aN rfl rfl (Pf rfl rfl (aj K3 rfl (LR results6 rfl fun H=>H.rt ⟨_,rfl⟩)))))))))))))))))
 intro h9 a H
 exact kH H (aQ h9 rfl (Pf h9 rfl (Rm rfl (aN rfl rfl (aN rfl rfl (Pf rfl rfl (Rm rfl (aN rfl rfl (aN rfl rfl (Pf rfl rfl (Rm rfl (aQ rfl rfl (aN rfl rfl (Pf rfl rfl (Rm rfl (aQ rfl rfl (aN rfl rfl (Pf rfl rfl (aj K3 rfl (LR results6 rfl fun H=>H.rt ⟨_,rfl⟩))))))))))))))))))))
end
section
open Go.RowKit
theorem Q0:∀ args w,(callFunc 135 args).run prog w=.ok (.enter 135 args) w:=enters func135 rfl (by kernel_rfl)
mutual
/-- The ids in items, in document order. -/
def Uj:aJ→List Int
 | .mk k _ i _ _ f r=>(if k=6∨k=7 then [i] else [])++((if k=6 then mM f else [])++(if k=7 then Fu r else []))
def mM:List aJ→List Int
 | []=>[]
 | x :: r=>Uj x++mM r
def Uk:bS→List Int
 | .mk _ c=>Ic c
def Fu:List bS→List Int
 | []=>[]
 | x :: r=>Uk x++Fu r
def Ui:bO→List Int
 | .mk i _ f=>i :: mM f
def Ic:List bO→List Int
 | []=>[]
 | x :: r=>Ui x++Ic r
end
theorem ZJ (x:aJ):Uj x=(if x.kind=6∨x.kind=7 then [x.id] else [])++((if x.kind=6 then mM x.flow else [])++(if x.kind=7 then Fu x.rows else [])):=by cases x;rw [Uj];rfl
theorem ZK (x:bS):Uk x=Ic x.cells:=by cases x;rw [Uk];rfl
theorem ZI (x:bO):Ui x=x.id :: mM x.flow:=by cases x;rw [Ui];rfl
def CX (i:Int):AP:=fun args _=>args=[vi i]
def QC (n:Nat):Prop:=∀ (fv:ak) (Gi:GH) (xs:List AP) (J:Nat→GH→OL→Prop) (Jx:GH→OL→Prop) (G:GH) (L:OL) (w0:World) (j:Nat) (l:List aJ) (v:ak),
 (∀ b o,Gi b=some o→G b=some o)→Ew prog fv Gi xs J Jx→F4 J→GA Jx→J j G L→ig G L w0→au G (.sl 11 (l.map aJ.dat)) v→bU l < n→(∀ i a,(mM l)[i]?=some a→xs[j+i]?=some (CX a)) →
 Calls prog 135 #[v,fv] w0 (gy w0 G L fun u G' L'=>∃ b,u=.bool b∧(b=true→J (j+(mM l).length) G' L')∧(b=false→Jx G' L'))
set_option maxHeartbeats 1000000 in
theorem anY {n:Nat} (ih:QC n) (hn:n≤4294967296):QC (n+1):=by
 intro fv Gi xs J Jx G L w0 j0 l v hGi hcb nR hJx hJ0 hO hv hz hx0;obtain ⟨A,c,rfl,hc1,hc2,hg⟩:=hv.slice;rw [bV] at *;have hll:=FT l;refine jB (N:=74) (T:=[(0,_),(1,_)]) func135 rfl ntmps135 rfl rfl hO ?_;intro a H;refine kP H (SR fun _ K1=>aj K1 rfl (SQ fun _ K2=>SR fun _ K3=>Rm rfl (Rl lu rfl (Rm rfl (Kz K3 (SB ?_))))));clear H K1 K3;intro a H;skip;refine eH (ι:=Nat × Nat × OL × GH) (Tc:=[(1,_),(11,_),(12,_)]) (Lc:=[]) (fun gh=>[(13,vi gh.1)]) (fun gh=>[]++gh.2.2.1) (fun gh=>gh.2.2.2) (fun gh=>gh.1≤l.length∧(∀ b o,G b=some o→gh.2.2.2 b=some o)∧Now xs CX J (j0+(mM l).length) gh.2.1 (mM (l.drop gh.1)) gh.2.2.2 gh.2.2.1) (fun gh=>l.length - gh.1) ((0,j0,L,G)) (by exact (H).sub ⟨rfl,rfl,rfl,rfl,aC⟩) ?_ ?_
 ·exact ⟨by omega,fun _ _ h=>h,⟨hJ0,hx0,rfl⟩⟩
 clear H;intro gh a w hI H;obtain ⟨k,j,Lt,g⟩:=gh;dsimp only at hI H;obtain ⟨hk,hgm,bZ⟩:=hI;dsimp only [lca,aV] at H;refine kP H (SR fun _ K4=>Rc rfl (Kz K4 (SQ fun _ K5=>Cd rfl ?_ ?_))) <;> clear H K4
 ·intro dM a H
  try have jH:=dT dM
  have hk2:k < l.length:=by omega
  obtain ⟨b,o,pA,pn,pc,dA,dn,dc,yA,yn,yc,fA,fn,fc,rA,rn,rc,rfl,hrow,hhd,hfl,hrw⟩:=GX hk2 hg;replace hrow:=fun j u hj=>ay hgm (hrow j u hj);have hrn:=hrw.len;rw [bV] at hrn;subst hrn;have hrs:=IK l[k].rows;have hsz1:=Qn hk2;rw [nD hk2] at bZ
  simp only [mM,ZJ,nN] at bZ
  refine kP H (Kc K5 (SQ fun _ K6=>SB (SR fun _ K7=>Ri lu eZ rfl rfl ?_)));clear H K5;intro a H;refine aW eZ (cs:=[_,_,_,_,_,_,_,_,_,_,_]) H wn rfl rfl (fun j v hj=>H.hp.aF (hrow j v hj)) rfl ?_;clear H;intro a H;refine dU eZ H wn rfl ?_;clear H;intro b6 a w hb6 H;refine bN eZ 0 (vs:=[_,_,_,_,_,_,_,_,_,_,_]) _ H wn rfl rfl rfl rfl rfl rfl rfl rfl ?_;clear H;intro w H;dsimp only [List.set,setRow] at H;refine K7 _ _ ?_;clear K7;refine kP H (SQ fun _ K8=>SR fun _ K9=>bg gJ aD 0 rfl rfl (Rc rfl (Rm rfl (Sp 20 rfl ?_ ?_)))) <;> clear H
  ·intro h20 a H
   try have qW:=dT h20
   rw [av (Or.inl qW),av qW,ah (by omega)] at bZ
   simp only [oG,oH] at bZ
   refine kH H (aQ h20 rfl (Pt h20 rfl (Rm rfl ?_)));clear H;intro a H;refine J4 H (wg H rfl rfl rfl) rfl rfl ?_;clear H;intro a H;refine J2 wL H (wg H rfl rfl rfl) rfl rfl ?_;clear H;intro a H;refine zT aD H (wg H rfl rfl rfl) rfl (H.hp.tV 0 rfl rfl) rfl ?_;clear H;intro a H;refine yG (Li:=[_]) (L:=Lt) H (wg H rfl rfl rfl) rfl rfl (hcb _ _ _ _ _ ⟨_,bZ.head,rfl⟩ (fun b o h=>hgm b o (hGi b o h)) bZ.now (Hp.owns (Li:=[_]) H.hp)) rfl ?_;clear H;rintro v29 ug Dx a w ⟨I8,rfl,hb1,hb2⟩ vQ H;refine MS H (wg H rfl rfl rfl) rfl rfl ?_;clear H;intro a H;refine kH H (Pt rfl rfl (Kz K9 (Cd rfl ?_ ?_))) <;> clear H K9
   ·intro h31 a H
    try have p31:=dT h31
    refine kP H (SR fun _ aT=>aj aT rfl ?_);clear H aT;intro a H;refine lr H results135 rfl ?_
    first
     | exact H.hp.cK (L':=Dx) (by repeat (first|exact cO _|apply List.Sublist.cons)) ⟨_,rfl,fun e=>(by cases e),fun _=>hb2 (by simpa using h31)⟩
     | exact H.hp.cK (L':=Gn) (by repeat (first|exact cO _|apply List.Sublist.cons)) ⟨_,rfl,fun e=>(by cases e),fun _=>hb4 (by simpa using kM)⟩
     | exact H.hp.cK (L':=Gq) (by repeat (first|exact cO _|apply List.Sublist.cons)) ⟨_,rfl,fun e=>(by cases e),fun _=>hb6 (by simpa using h64)⟩
     | exact H.hp.cK (L':=Gw) (by repeat (first|exact cO _|apply List.Sublist.cons)) ⟨_,rfl,fun e=>(by cases e),fun _=>vN (by simpa using pq)⟩
     | exact H.hp.cK (L':=Lt) (by repeat (first|exact cO _|apply List.Sublist.cons)) ⟨_,rfl,fun _=>(by rw [iw (by omega),mM] at bZ;have:=bZ.len;simp only [List.length_nil,nY] at this;rw [← this];exact bZ.now),fun e=>(by cases e)⟩
   intro h31 a H
   try have p31:=dF h31
   have zI:=bZ.step (hb1 (by simpa using h31));have kG:∀ b o,G b=some o→ug b=some o:=fun b o h=>vQ b o (hgm b o h);refine kP H (Kc K8 (SQ fun _ bB=>SR fun _ bC=>bg gJ aD 0 rfl rfl (Rc rfl (Rm rfl (YF Al h20 rfl (YO jy 0 h20 rfl (YM h20 rfl ?_)))))));clear H K8;intro a H;refine gB Q0 (Li:=[_]) (L:=Dx) H (wg H rfl rfl h20) rfl (ih fv Gi xs J Jx _ _ _ (j+1) l[k].flow _ (fun b o h=>kG b o (hGi b o h)) hcb nR hJx zI.now (Hp.owns (Li:=[_]) H.hp) (hfl.mono kG) (by omega) zI.part) rfl ?_;clear H;rintro v39 VT Gn a w ⟨b39,rfl,hb3,hb4⟩ Y9 H;refine kH H (YN h20 rfl (Pt h20 rfl (Kz bC (Cd rfl ?_ ?_)))) <;> clear H bC
   ·intro kM a H
    try have p41:=dT kM
    refine kP H (SR fun _ bK=>aj bK rfl ?_);clear H bK;intro a H;refine lr H results135 rfl ?_
    first
     | exact H.hp.cK (L':=Dx) (by repeat (first|exact cO _|apply List.Sublist.cons)) ⟨_,rfl,fun e=>(by cases e),fun _=>hb2 (by simpa using h31)⟩
     | exact H.hp.cK (L':=Gn) (by repeat (first|exact cO _|apply List.Sublist.cons)) ⟨_,rfl,fun e=>(by cases e),fun _=>hb4 (by simpa using kM)⟩
     | exact H.hp.cK (L':=Gq) (by repeat (first|exact cO _|apply List.Sublist.cons)) ⟨_,rfl,fun e=>(by cases e),fun _=>hb6 (by simpa using h64)⟩
     | exact H.hp.cK (L':=Gw) (by repeat (first|exact cO _|apply List.Sublist.cons)) ⟨_,rfl,fun e=>(by cases e),fun _=>vN (by simpa using pq)⟩
     | exact H.hp.cK (L':=Lt) (by repeat (first|exact cO _|apply List.Sublist.cons)) ⟨_,rfl,fun _=>(by rw [iw (by omega),mM] at bZ;have:=bZ.len;simp only [List.length_nil,nY] at this;rw [← this];exact bZ.now),fun e=>(by cases e)⟩
   intro kM a H
   try have p41:=dF kM
   refine kP H (Kc bB (SQ fun _ bP=>SR fun _ dx=>bg gJ aD 0 rfl rfl (Rc rfl (Kz dx (Cd rfl ?_ ?_))))) <;> clear H bB dx
   ·intro lH a H
    try have p44:=dT lH
    refine dW ?_;refine K6 _ _ ?_;clear K6;refine kP H (SC (Rd rfl (Rm rfl ?_)));clear H;intro a H;refine aH ?_;refine dK ((k+1,j+1+(mM l[k].flow).length,Gn,VT)) (by exact (H.dS (Pl:=[_]) (dL:=[]) [] (by decide) rfl).sub ⟨rfl,rfl,rfl,rfl,aC⟩) ?_ ?_
    ·(try dsimp only);exact ⟨by omega,fun b o h=>Y9 b o (kG b o h),zI.jump (hb3 (by simpa using kM))⟩
    first|omega|(dsimp only;omega)
   intro lH a H
   try have p44:=dF lH
   exact absurd (show l[k].kind=7 by omega) (by omega)
  intro h20 a H
  try have qW:=dF h20
  refine kH H (YF gJ h20 rfl (YO aD 0 h20 rfl (YC h20 rfl (Pf h20 rfl (Rm rfl (Sp 25 rfl ?_ ?_)))))) <;> clear H
  ·intro gP a H
   try have p25:=dT gP
   rw [av (Or.inr p25),ah qW,av p25] at bZ
   simp only [oG,oH] at bZ
   refine kH H (YM gP rfl (YF wL gP rfl (YO aD 0 gP rfl ?_)));clear H;intro a H;refine yG (Li:=[_]) (L:=Lt) H (wg H rfl rfl gP) rfl rfl (hcb _ _ _ _ _ ⟨_,bZ.head,rfl⟩ (fun b o h=>hgm b o (hGi b o h)) bZ.now (Hp.owns (Li:=[_]) H.hp)) rfl ?_;clear H;rintro v29 ug Dx a w ⟨I8,rfl,hb1,hb2⟩ vQ H;refine kH H (YN gP rfl (Pt gP rfl (Kz K9 (Cd rfl ?_ ?_)))) <;> clear H K9
   ·intro h31 a H
    try have p31:=dT h31
    refine kP H (SR fun _ dP=>aj dP rfl ?_);clear H dP;intro a H;refine lr H results135 rfl ?_
    first
     | exact H.hp.cK (L':=Dx) (by repeat (first|exact cO _|apply List.Sublist.cons)) ⟨_,rfl,fun e=>(by cases e),fun _=>hb2 (by simpa using h31)⟩
     | exact H.hp.cK (L':=Gn) (by repeat (first|exact cO _|apply List.Sublist.cons)) ⟨_,rfl,fun e=>(by cases e),fun _=>hb4 (by simpa using kM)⟩
     | exact H.hp.cK (L':=Gq) (by repeat (first|exact cO _|apply List.Sublist.cons)) ⟨_,rfl,fun e=>(by cases e),fun _=>hb6 (by simpa using h64)⟩
     | exact H.hp.cK (L':=Gw) (by repeat (first|exact cO _|apply List.Sublist.cons)) ⟨_,rfl,fun e=>(by cases e),fun _=>vN (by simpa using pq)⟩
     | exact H.hp.cK (L':=Lt) (by repeat (first|exact cO _|apply List.Sublist.cons)) ⟨_,rfl,fun _=>(by rw [iw (by omega),mM] at bZ;have:=bZ.len;simp only [List.length_nil,nY] at this;rw [← this];exact bZ.now),fun e=>(by cases e)⟩
   intro h31 a H
   try have p31:=dF h31
   have zI:=bZ.step (hb1 (by simpa using h31));have kG:∀ b o,G b=some o→ug b=some o:=fun b o h=>vQ b o (hgm b o h);refine kP H (Kc K8 (SQ fun _ dB=>SR fun _ dY=>bg gJ aD 0 rfl rfl (Rc rfl (Rm rfl (aQ h20 rfl (aN h20 rfl (Pf h20 rfl (Kz dY (Cf rfl rfl (Kc dB (SQ fun _ eP=>SR fun _ dZ=>bg gJ aD 0 rfl rfl (Rc rfl (Kz dZ (Cd rfl ?_ ?_)))))))))))))) <;> clear H K8 dY dB dZ
   ·intro lH a H
    try have p44:=dT lH
    exact absurd p25 p44
   intro lH a H
   try have p44:=dF lH
   refine kP H (Kc eP (SR fun _ eU=>bg zk zV 0 rfl rfl (Rl kr rfl (Rm rfl (Kz eU (SB ?_))))));clear H eP eU;intro a H;skip;refine eH (ι:=Nat × Nat × OL × GH) (Tc:=[(1,_),(11,_),(12,_),(13,_),(46,_),(47,_)]) (Lc:=[(_,_)]) (fun gh=>[(48,vi gh.1)]) (fun gh=>[]++gh.2.2.1) (fun gh=>gh.2.2.2) (fun gh=>gh.1≤l[k].rows.length∧(∀ b o,G b=some o→gh.2.2.2 b=some o)∧Now xs CX J (j0+(mM l).length) gh.2.1 (Fu (l[k].rows.drop gh.1)++mM (l.drop (k+1))) gh.2.2.2 gh.2.2.1) (fun gh=>l[k].rows.length - gh.1) ((0,j+1,Dx,ug)) (by exact (H).sub ⟨rfl,rfl,rfl,rfl,rfl,rfl,rfl,aC⟩) ?_ ?_
   ·exact ⟨by omega,kG,zI⟩
   clear H;intro gh a w hI H;obtain ⟨rk,j3,Lt3,g3⟩:=gh;dsimp only at hI H;obtain ⟨Zm,rO,BF⟩:=hI;dsimp only [lca,aV] at H;refine kP H (SR fun _ fK=>Rc rfl (Kz fK (SQ fun _ gM=>Cd rfl ?_ ?_))) <;> clear H fK
   ·intro qx a H
    try have p49:=dT qx
    have hk3:rk < l[k].rows.length:=by omega
    obtain ⟨b2,o2,qA,qn,qc,eA,en,ec,zA,zn,zc,cA,cn,cc,rfl,hrow,JH,hcl⟩:=JW hk3 hrw.at_;replace hrow:=fun j u hj=>ay rO (hrow j u hj);have hcn:=hcl.len;rw [bV] at hcn;subst hcn;have hsz2:=Qo hk3;have hcs:=IJ l[k].rows[rk].cells;rw [nD hk3] at BF
    simp only [Fu,ZK,nN] at BF
    refine kP H (Kc gM (SQ fun _ iC=>SB (SR fun _ gu=>Ri kr iV rfl rfl ?_)));clear H gM;intro a H;refine aW iV (cs:=[_,_,_,_,_,_]) H wn rfl rfl (fun j v hj=>H.hp.aF (hrow j v hj)) rfl ?_;clear H;intro a H;refine dU iV H wn rfl ?_;clear H;intro b8 a w vN H;refine bN iV 0 (vs:=[_,_,_,_,_,_]) _ H wn rfl rfl rfl rfl rfl rfl rfl rfl ?_;clear H;intro w H;dsimp only [List.set,setRow] at H;refine gu _ _ ?_;clear gu;refine kP H (SR fun _ iX=>bg uJ uW 0 rfl rfl (Rl mh rfl (Rm rfl (Kz iX (SB ?_)))));clear H iX;intro a H;skip;refine eH (ι:=Nat × Nat × OL × GH) (Tc:=[(1,_),(11,_),(12,_),(13,_),(46,_),(47,_),(48,_),(53,_),(54,_)]) (Lc:=[(_,_),(_,_)]) (fun gh=>[(55,vi gh.1)]) (fun gh=>[]++gh.2.2.1) (fun gh=>gh.2.2.2) (fun gh=>gh.1≤l[k].rows[rk].cells.length∧(∀ b o,G b=some o→gh.2.2.2 b=some o)∧Now xs CX J (j0+(mM l).length) gh.2.1 (Ic (l[k].rows[rk].cells.drop gh.1)++(Fu (l[k].rows.drop (rk+1))++mM (l.drop (k+1)))) gh.2.2.2 gh.2.2.1) (fun gh=>l[k].rows[rk].cells.length - gh.1) ((0,j3,Lt3,g3)) (by exact (H).sub ⟨rfl,rfl,rfl,rfl,rfl,rfl,rfl,rfl,rfl,rfl,aC⟩) ?_ ?_
    ·exact ⟨by omega,rO,BF⟩
    clear H;intro gh a w hI H;obtain ⟨ck,j4,Lt4,g4⟩:=gh;dsimp only at hI H;obtain ⟨hck,vO,wV⟩:=hI;dsimp only [lca,aV] at H;refine kP H (SR fun _ jo=>Rc rfl (Kz jo (SQ fun _ iN=>Cd rfl ?_ ?_))) <;> clear H jo
    ·intro qy a H
     try have p56:=dT qy
     have hk4:ck < l[k].rows[rk].cells.length:=by omega
     obtain ⟨b3,o3,sA,sn,sc,tA,tn,tc,uA,un,uc,gA,gn,gc,rfl,hrow,hch,hcf⟩:=GJ hk4 hcl.at_;replace hrow:=fun j u hj=>ay vO (hrow j u hj);have T9:=Qm hk4;rw [nD hk4] at wV
     simp only [Ic,ZI,nN,oG] at wV
     refine kP H (Kc iN (SQ fun _ kJ=>SB (SR fun _ kK=>Ri mh iQ rfl rfl ?_)));clear H iN;intro a H;refine aW iQ (cs:=[_,_,_,_,_,_,_]) H wn rfl rfl (fun j v hj=>H.hp.aF (hrow j v hj)) rfl ?_;clear H;intro a H;refine dU iQ H wn rfl ?_;clear H;intro b10 a w Hq H;refine bN iQ 0 (vs:=[_,_,_,_,_,_,_]) _ H wn rfl rfl rfl rfl rfl rfl rfl rfl ?_;clear H;intro w H;dsimp only [List.set,setRow] at H;refine kK _ _ ?_;clear kK;refine kP H (SR fun _ jA=>Rm rfl (bg Cw aD 0 rfl rfl ?_));clear H;intro a H;refine yG (Li:=[_,_,_]) (L:=Lt4) H wn rfl rfl (hcb _ _ _ _ _ ⟨_,wV.head,rfl⟩ (fun b o h=>vO b o (hGi b o h)) wV.now (Hp.owns (Li:=[_,_,_]) H.hp)) rfl ?_;clear H;rintro v62 VZ Gq a w ⟨WM,rfl,hb5,hb6⟩ LZ H;refine kH H (Rn rfl (Rm rfl (Sp 64 rfl ?_ ?_))) <;> clear H
     ·intro h64 a H
      try have p64:=dT h64
      refine kH H (aQ h64 rfl (aN h64 rfl (Pt h64 rfl (Kz jA (Ct rfl rfl (SR fun _ kT=>aj kT rfl ?_))))));clear H jA kT;intro a H;refine lr H results135 rfl ?_
      first
       | exact H.hp.cK (L':=Dx) (by repeat (first|exact cO _|apply List.Sublist.cons)) ⟨_,rfl,fun e=>(by cases e),fun _=>hb2 (by simpa using h31)⟩
       | exact H.hp.cK (L':=Gn) (by repeat (first|exact cO _|apply List.Sublist.cons)) ⟨_,rfl,fun e=>(by cases e),fun _=>hb4 (by simpa using kM)⟩
       | exact H.hp.cK (L':=Gq) (by repeat (first|exact cO _|apply List.Sublist.cons)) ⟨_,rfl,fun e=>(by cases e),fun _=>hb6 (by simpa using h64)⟩
       | exact H.hp.cK (L':=Gw) (by repeat (first|exact cO _|apply List.Sublist.cons)) ⟨_,rfl,fun e=>(by cases e),fun _=>vN (by simpa using pq)⟩
       | exact H.hp.cK (L':=Lt) (by repeat (first|exact cO _|apply List.Sublist.cons)) ⟨_,rfl,fun _=>(by rw [iw (by omega),mM] at bZ;have:=bZ.len;simp only [List.length_nil,nY] at this;rw [← this];exact bZ.now),fun e=>(by cases e)⟩
     intro h64 a H
     try have p64:=dF h64
     have TN:=wV.step (hb5 (by simpa using h64));refine kH H (YF Cx h64 rfl (YO jy 0 h64 rfl (YM h64 rfl ?_)));clear H;intro a H;refine gB Q0 (Li:=[_,_,_]) (L:=Gq) H (wg H rfl rfl h64) rfl (ih fv Gi xs J Jx _ _ _ (j4+1) l[k].rows[rk].cells[ck].flow _ (fun b o h=>LZ b o (vO b o (hGi b o h))) hcb nR hJx TN.now (Hp.owns (Li:=[_,_,_]) H.hp) ((hcf.mono vO).mono LZ) (by omega) TN.part) rfl ?_;clear H;rintro v68 G68 Gw a w ⟨b68,rfl,vM,vN⟩ ajx H;refine kH H (YN h64 rfl (Pf h64 rfl (Kz jA (Cd rfl ?_ ?_)))) <;> clear H jA
     ·intro pq a H
      try have p70:=dT pq
      refine kP H (SR fun _ kU=>aj kU rfl ?_);clear H kU;intro a H;refine lr H results135 rfl ?_
      first
       | exact H.hp.cK (L':=Dx) (by repeat (first|exact cO _|apply List.Sublist.cons)) ⟨_,rfl,fun e=>(by cases e),fun _=>hb2 (by simpa using h31)⟩
       | exact H.hp.cK (L':=Gn) (by repeat (first|exact cO _|apply List.Sublist.cons)) ⟨_,rfl,fun e=>(by cases e),fun _=>hb4 (by simpa using kM)⟩
       | exact H.hp.cK (L':=Gq) (by repeat (first|exact cO _|apply List.Sublist.cons)) ⟨_,rfl,fun e=>(by cases e),fun _=>hb6 (by simpa using h64)⟩
       | exact H.hp.cK (L':=Gw) (by repeat (first|exact cO _|apply List.Sublist.cons)) ⟨_,rfl,fun e=>(by cases e),fun _=>vN (by simpa using pq)⟩
       | exact H.hp.cK (L':=Lt) (by repeat (first|exact cO _|apply List.Sublist.cons)) ⟨_,rfl,fun _=>(by rw [iw (by omega),mM] at bZ;have:=bZ.len;simp only [List.length_nil,nY] at this;rw [← this];exact bZ.now),fun e=>(by cases e)⟩
     intro pq a H
     try have p70:=dF pq
     refine kP H (Kc kJ (SC (Rd rfl (Rm rfl ?_))));clear H kJ;intro a H;refine aH ?_;refine dK ((ck+1,j4+1+(mM l[k].rows[rk].cells[ck].flow).length,Gw,G68)) (by exact (H.dS (Pl:=[_,_,_]) (dL:=[_,_]) [1,2] (by decide) rfl).sub ⟨rfl,rfl,rfl,rfl,rfl,rfl,rfl,rfl,rfl,rfl,aC⟩) ?_ ?_
     ·(try dsimp only);exact ⟨by omega,fun b o h=>ajx b o (LZ b o (vO b o h)),TN.jump (vM (by simpa using pq))⟩
     first|omega|(dsimp only;omega)
    intro qy a H
    try have p56:=dF qy
    refine dW ?_;refine iC _ _ ?_;clear iC;refine kP H (SC (Rd rfl (Rm rfl ?_)));clear H;intro a H;refine aH ?_;refine dK ((rk+1,j4,Lt4,g4)) (by exact (H.dS (Pl:=[_,_]) (dL:=[_]) [1] (by decide) rfl).sub ⟨rfl,rfl,rfl,rfl,rfl,rfl,rfl,aC⟩) ?_ ?_
    ·(try dsimp only);exact ⟨by omega,vO,by rw [iw (by omega),Ic,oH] at wV;exact wV⟩
    first|omega|(dsimp only;omega)
   intro qx a H
   try have p49:=dF qx
   refine dW ?_;refine K6 _ _ ?_;clear K6;refine kP H (SC (Rd rfl (Rm rfl ?_)));clear H;intro a H;refine aH ?_;refine dK ((k+1,j3,Lt3,g3)) (by exact (H.dS (Pl:=[_]) (dL:=[]) [] (by decide) rfl).sub ⟨rfl,rfl,rfl,rfl,aC⟩) ?_ ?_
   ·(try dsimp only);exact ⟨by omega,rO,by rw [iw (by omega),Fu,oH] at BF;exact BF⟩
   first|omega|(dsimp only;omega)
  intro gP a H
  try have p25:=dF gP
  rw [ah (by omega),ah qW,ah p25] at bZ
  simp only [oH] at bZ
  refine kH H (aQ gP rfl (aN gP rfl (Pf gP rfl (Kz K9 (Cf rfl rfl (Kc K8 (SQ fun _ lM=>SR fun _ lN=>bg gJ aD 0 rfl rfl (Rc rfl (Rm rfl (aQ h20 rfl (aN h20 rfl (Pf h20 rfl (Kz lN (Cf rfl rfl (Kc lM (SQ fun _ lQ=>SR fun _ mo=>bg gJ aD 0 rfl rfl (Rc rfl (Kz mo (Cd rfl ?_ ?_))))))))))))))))))) <;> clear H K9 K8 lN lM mo
  ·intro lH a H
   try have p44:=dT lH
   refine dW ?_;refine K6 _ _ ?_;clear K6;refine kP H (SC (Rd rfl (Rm rfl ?_)));clear H;intro a H;refine aH ?_;refine dK ((k+1,j,Lt,g)) (by exact (H.dS (Pl:=[_]) (dL:=[]) [] (by decide) rfl).sub ⟨rfl,rfl,rfl,rfl,aC⟩) ?_ ?_
   ·(try dsimp only);exact ⟨by omega,hgm,bZ⟩
   first|omega|(dsimp only;omega)
  intro lH a H
  try have p44:=dF lH
  exact absurd p25 p44
 intro dM a H
 try have jH:=dF dM
 refine dW ?_;refine K2 _ _ ?_;clear K2;refine kP H (SR fun _ rz=>aj rz rfl ?_);clear H rz;intro a H;refine lr H results135 rfl ?_
 first
  | exact H.hp.cK (L':=Dx) (by repeat (first|exact cO _|apply List.Sublist.cons)) ⟨_,rfl,fun e=>(by cases e),fun _=>hb2 (by simpa using h31)⟩
  | exact H.hp.cK (L':=Gn) (by repeat (first|exact cO _|apply List.Sublist.cons)) ⟨_,rfl,fun e=>(by cases e),fun _=>hb4 (by simpa using kM)⟩
  | exact H.hp.cK (L':=Gq) (by repeat (first|exact cO _|apply List.Sublist.cons)) ⟨_,rfl,fun e=>(by cases e),fun _=>hb6 (by simpa using h64)⟩
  | exact H.hp.cK (L':=Gw) (by repeat (first|exact cO _|apply List.Sublist.cons)) ⟨_,rfl,fun e=>(by cases e),fun _=>vN (by simpa using pq)⟩
  | exact H.hp.cK (L':=Lt) (by repeat (first|exact cO _|apply List.Sublist.cons)) ⟨_,rfl,fun _=>(by rw [iw (by omega),mM] at bZ;have:=bZ.len;simp only [List.length_nil,nY] at this;rw [← this];exact bZ.now),fun e=>(by cases e)⟩
theorem abP:∀ n:Nat,n≤4294967297→QC n
 | 0,_=>fun _ _ _ _ _ _ _ _ _ _ _ _ _ _ _ _ _ _ _ h=>absurd h (by omega)
 | n+1,hn=>anY (abP n (by omega)) (by omega)
end
section
open Go.RowKit
theorem anF:Ty prog 167 1 8 [.nilFunc] false:=⟨by kernel_rfl,by kernel_rfl⟩
theorem ags:∀ args w,(callFunc 72 args).run prog w=.ok (.enter 72 args) w:=enters func72 rfl (by kernel_rfl)
theorem Xu:∀ args w,(callFunc 134 args).run prog w=.ok (.enter 134 args) w:=enters func134 rfl (by kernel_rfl)
theorem aeS:∀ args w,(callFunc 136 args).run prog w=.ok (.enter 136 args) w:=enters func136 rfl (by kernel_rfl)
theorem Ul {A:List Int} {k:Nat} {args:List ak} {g:GH} (h:yN (A.map CX) k args g):∃ hk:k < A.length,args=[vi A[k]]:=by
 obtain ⟨p,hp,hargs⟩:=h;rw [tu] at hp;obtain ⟨q,hq,rfl⟩:=ql.1 hp;obtain ⟨hk,rfl⟩:=mq.1 hq;exact ⟨hk,hargs⟩
theorem akk {G G0:GH} {A:List Int} {b2:Nat} {fv:ak} {J:Nat→GH→OL→Prop} {Jx:GH→OL→Prop} (hcb:Ew prog fv G0 (A.map CX) J Jx) (hG0:∀ b o,G0 b=some o→G b=some o) (D7:fv.cells=#[fv]) (hb:aF G b2 0=some fv) :
  Ew prog (.func (.func 136) #[] #[(aM b2 0)]) G (A.map CX) J Jx:=by
 intro k args G1 L w0 hk hm hJ hO;obtain ⟨hk2,rfl⟩:=Ul hk;refine mF (caps:=[(aM b2 0)]) aeS ?_;replace hb:=ay hm hb;refine jB (N:=7) (T:=[(0,_),(1,_)]) func136 rfl ntmps136 rfl rfl hO ?_;intro a H;refine kP H (SR fun _ K1=>aj K1 rfl (SR fun _ K2=>Rg anF rfl (by assumption) ?_));clear H K1;intro a H;refine kH H (Rm rfl ?_);clear H;intro a H;refine yG (Li:=[]) (L:=L) H wn rfl rfl (hcb _ _ _ _ _ hk (fun b o h=>hm b o (hG0 b o h)) hJ (Hp.owns (Li:=[]) H.hp)) rfl ?_;clear H;rintro v6 G6 L6 a w ⟨b6,rfl,h1,h2⟩ LY H;exact kH H (aj K2 rfl (LR results136 rfl fun H=>H.hp.eB ⟨b6,rfl,h1,h2⟩))
theorem akl {G:GH} {bd:Nat} {D:jS} {l:List aJ} (hb:G bd=some (.cells D.cells.toArray 38 (0,0))) (hv:au G (.sl 11 (l.map aJ.dat)) (aK D.f)) (hz:bU l≤4294967296) :
  Iter prog G (.func (.func 134) #[] #[(aM bd 0)]) ((mM l).map CX):=by
 intro J Jx fv G1 L w0 D7 hGi nR hJx hJ hO hcb;refine mF (caps:=[(aM bd 0)]) Xu ?_;have hfl:aF G1 bd 0=some (aK D.f):=ay hGi (by unfold aF;rw [hb];rfl);refine jB (N:=7) (T:=[(0,_),(1,_)]) func134 rfl ntmps134 rfl rfl hO ?_;intro a H;refine dw (fun _ K1=>?_);refine eD (cs:=[fv]) H wn rfl D7 rfl ?_;clear H;intro b2 a w hb2 H;refine K1 _ _ ?_;clear K1;obtain ⟨G2,hm2,hb2,H⟩:=H.eG;replace hfl:=ay hm2 hfl;refine kP H (SC (Rf uM rfl (Rg jy rfl (by assumption) ?_)));clear H;intro a H;refine qX H wn rfl rfl ?_;clear H;intro a H;refine gB Q0 (Li:=[]) (L:=L) H wn rfl (abP 4294967297 (by omega) _ G2 ((mM l).map CX) J Jx G2 _ _ 0 l _ (fun _ _ h=>h) (akk (b2:=b2) hcb hm2 D7 (by unfold aF;rw [hb2];rfl)) nR hJx (nR _ _ _ _ hm2 hJ) (Hp.owns (Li:=[]) H.hp) ((hv.mono hGi).mono hm2) (by omega) (fun i a h=>by rw [lD,tu,h];rfl)) rfl ?_;clear H;rintro v6 G6 L6 a w ⟨b6,rfl,h1,h2⟩ LY H;refine aH ?_;refine (leave0 H results134 ?_).2
 cases b6
 ·exact H.hp.eB (.inr (h2 rfl))
 exact H.hp.eB (.inl (by simpa using h1 rfl))
theorem akn (G:GH) (w0:World) (hG:Hold G w0) (D:jS) (l:List aJ) (hv:au G (.sl 11 (l.map aJ.dat)) (aK D.f)) (hz:bU l≤4294967296) :
  Calls prog 72 #[D.val] w0 (bJ w0 G fun v G'=>∃ bd,v=.func (.func 134) #[] #[(aM bd 0)]∧Iter prog G' v ((mM l).map CX)):=by
 refine eN [(0,_)] func72 rfl ntmps72 rfl rfl hG ?_;intro a H;refine dw (fun _ K1=>?_);refine eD (cs:=[_,_,_,_,_,_,_,_,_,_,_]) H wn rfl rfl rfl ?_;clear H;intro b1 a w hb1 H;refine kH H (aj K1 rfl (SR fun _ K2=>?_));clear H K1;intro a H;refine qX H wn rfl rfl ?_;clear H;intro a H;refine kH H (aj K2 rfl ?_);clear H K2;intro a H;refine dR ?_;obtain ⟨G2,hm2,hb2,H⟩:=H.eG;refine lv H results72 rfl ?_;exact H.rt ⟨b1,rfl,akl hb2 (hv.mono hm2) hz⟩
def Io (l:List Int):Int:=l.foldl max 0
theorem alc {l:List Int} {k:Nat} (h:k < l.length):Io (l.take (k+1))=max (Io (l.take k)) l[k]:=by
 rw [Io,iG h,List.foldl_append];rfl
theorem ahI (G:GH) (w0:World) (hG:Hold G w0) (D:jS) (l:List aJ) (hv:au G (.sl 11 (l.map aJ.dat)) (aK D.f)) (hz:bU l≤4294967296) (hm:Io (mM l)≤4611686018427387904) (h0:0≤Io (mM l)) :
  Calls prog 22 #[D.val] w0 (bJ w0 G fun v G'=>v=vi (Io (mM l)+1)):=by
 refine eN [(0,_)] func22 rfl ntmps22 rfl rfl hG ?_;intro a H;refine dw (fun _ K1=>?_);refine eD (cs:=[_,_,_,_,_,_,_,_,_,_,_]) H wn rfl rfl rfl ?_;clear H;intro b1 a w hb1 H;refine kH H (aj K1 rfl (SR fun _ K2=>?_));clear H K1;intro a H;refine dU aD H wn rfl ?_;clear H;intro b3 a w hb3 H;refine bN aD 0 (vs:=[_]) _ H wn rfl rfl rfl rfl rfl rfl rfl rfl ?_;clear H;intro w H;dsimp only [List.set,setRow] at H;refine K2 _ _ ?_;clear K2;refine aS (fun _ K3=>?_);refine dw (fun _ K4=>?_);refine aW jQ (cs:=[_,_,_,_,_,_,_,_,_,_,_]) H wn rfl rfl (H.hp.dX 1 rfl rfl) rfl ?_;clear H;intro a H;refine s_call ags H wn rfl (akn _ _ H.ro D l hv hz) rfl ?_;clear H;rintro v6 G6 a w ⟨bd,rfl,hit⟩ LY H;refine K4 _ _ ?_;clear K4;refine vC ?_;skip;refine ES (ι:=Unit) (κ:=Empty) (Lc:=[(_,_)]) (fun (k:Nat) (gh:Unit)=>[(b3,.cells #[vi (Io ((mM l).take k))] 3 (0,0))]) (fun (k:Nat) (gh:Unit)=>[]) (fun (k:Nat) (gh:Unit) (g:GH)=>True) (fun x=>x.elim) (fun x=>x.elim) (fun x=>x.elim) (fun x=>x.elim) (()) (by exact H.dS (Pl:=[_,_]) (dL:=[_,_]) [1,0] (by decide) rfl) rfl Xu (hit) (fun _ _ h=>h) rfl (fun k args g h=>by obtain ⟨_,rfl⟩:=Ul h;rfl) (fun _ _ _ _ _ h=>h) (fun x=>x.elim) (trivial) ?_ ?_ ?_
 ·clear H;intro l3 yE vB bk k args gh G3 w3 F3 B3 a hk3 tQ hI LM Me Zw H;obtain ⟨hk,rfl⟩:=Ul hk3;dsimp only [uD,List.cons_append,List.nil_append] at H;refine kP H (SC (Ra rfl ?_));clear H;intro a H;refine aH ?_;refine LM _ _ _ _ _ _ (by exact H) ?_;clear H;intro w H;refine kP H (SB (SC (Ro aD 2 rfl (Rm rfl ?_))));clear H;intro a H;refine FD H wn rfl rfl rfl ?_;clear H;intro a H;rw [← alc hk] at H;refine bN aD 2 (vs:=[_]) _ H wn rfl rfl rfl rfl rfl rfl rfl rfl ?_;clear H;intro w H;dsimp only [List.set,setRow] at H;refine aH ?_;refine Me (()) _ _ _ _ _ (by exact H) ?_
  trivial
 ·clear H;intro VJ gh V4 a w tQ hI H;dsimp only [lca,aV] at H;refine K3 _ _ ?_;clear K3;refine aS (fun _ K5=>?_);rw [iH (by simp)] at H;refine kP H (SC (Ro aD 2 rfl (Rd rfl (aO K5 rfl ?_))));clear H K5;intro a H;refine dR ?_;refine (BO H 0 rfl ?_).1;clear H;intro a w H;dsimp only [List.eraseIdx_cons_succ,List.eraseIdx_cons_zero] at H;refine lv H results22 rfl ?_;exact H.rt rfl
 intro Dk x;exact x.elim
theorem akw (G:GH) (n:Int):bH G [li n] [vi n]:=by simp [bH,au,Value.oneCell']
def AV (A:List qG):Int:=A.foldl (fun n f=>n+CZ f.items) 0
theorem abG {A:List qG} {k:Nat} (h:k < A.length):AV (A.take (k+1))=AV (A.take k)+CZ A[k].items:=by
 rw [AV,iG h,List.foldl_append];rfl
theorem anL (G:GH) (w0:World) (hG:Hold G w0) (D:jS) (l:List aJ) (hv:au G (.sl 11 (l.map aJ.dat)) (aK D.f)) (hz:bU l≤4294967296) (hm:∀ k,k≤(sD l).length→0≤AV ((sD l).take k)∧AV ((sD l).take k)≤4611686018427387904) :
  Calls prog 23 #[D.val] w0 (bJ w0 G fun v G'=>v=vi (AV (sD l))):=by
 refine eN [(0,_)] func23 rfl ntmps23 rfl rfl hG ?_;intro a H;refine dw (fun _ K1=>?_);refine eD (cs:=[_,_,_,_,_,_,_,_,_,_,_]) H wn rfl rfl rfl ?_;clear H;intro b1 a w hb1 H;refine kH H (aj K1 rfl (SR fun _ K2=>?_));clear H K1;intro a H;refine dU aD H wn rfl ?_;clear H;intro b3 a w hb3 H;refine bN aD 0 (vs:=[_]) _ H wn rfl rfl rfl rfl rfl rfl rfl rfl ?_;clear H;intro w H;dsimp only [List.set,setRow] at H;refine K2 _ _ ?_;clear K2;refine aS (fun _ K3=>?_);refine dw (fun _ K4=>?_);refine aW jQ (cs:=[_,_,_,_,_,_,_,_,_,_,_]) H wn rfl rfl (H.hp.dX 1 rfl rfl) rfl ?_;clear H;intro a H;refine s_call XF H wn rfl (aao _ _ H.ro D l hv hz) rfl ?_;clear H;rintro v9 G9 a w ⟨ba,bl,bp,rfl,hit⟩ CV H;refine K4 _ _ ?_;clear K4;refine vC ?_;skip;refine ES (ι:=Unit) (κ:=Empty) (Lc:=[(_,_)]) (fun (k:Nat) (gh:Unit)=>[(b3,.cells #[vi (AV ((sD l).take k))] 3 (0,0))]) (fun (k:Nat) (gh:Unit)=>[]) (fun (k:Nat) (gh:Unit) (g:GH)=>True) (fun x=>x.elim) (fun x=>x.elim) (fun x=>x.elim) (fun x=>x.elim) (()) (by exact H.dS (Pl:=[_,_]) (dL:=[_,_]) [1,0] (by decide) rfl) rfl Q6 (hit) (fun _ _ h=>h) rfl (fun k args g h=>by obtain ⟨_,_,_,_,rfl,_⟩:=Ob h;rfl) (fun _ _ _ _ _ h=>h) (fun x=>x.elim) (trivial) ?_ ?_ ?_
 ·clear H;intro l3 yE vB bk k args gh G3 w3 F3 B3 a hk3 tQ hI LM Me Zw H;obtain ⟨hk,vA,vn,vc,rfl,hfr⟩:=Ob hk3;dsimp only [uD,List.cons_append,List.nil_append] at H;refine nG ?_;refine dU abx H wn rfl ?_;clear H;intro b5 a w hb5 H;refine bN abx 0 (vs:=[_,_,_,_]) _ H wn rfl rfl rfl rfl rfl rfl rfl rfl ?_;clear H;intro w H;dsimp only [List.set,setRow] at H;refine aH ?_;refine LM _ _ _ _ _ _ (by exact H.dS (Pl:=[_,_,_,_]) (dL:=[_,_,_,_]) [1,0,2,3] (by decide) rfl) ?_;clear H;intro w H;refine kP H (SB (SR fun _ K5=>bg ahl jy 1 rfl rfl ?_));clear H;intro a H;refine s_call agi H wn rfl (akK _ _ H.ro (sD l)[k].items _ hfr (Nat.le_trans (ahE (jW hk)) hz)) rfl ?_;clear H;rintro v15 _ a w ⟨rfl,rfl⟩ - H;refine kH H (Rm rfl ?_);clear H;intro a H;(iterate 2 refine uT H wn rfl rfl rfl ?_;clear H;intro a H);refine kH H (Ra rfl (aj K5 rfl ?_));clear H K5;intro a H;have aiw:=hm (k+1) hk;rw [abG hk] at aiw;refine kP H (SC (Ro aD 3 rfl (Rm rfl (Rd rfl ?_))));clear H;intro a H;rw [← abG hk] at H;refine bN aD 3 (vs:=[_]) _ H wn rfl rfl rfl rfl rfl rfl rfl rfl ?_;clear H;intro w H;dsimp only [List.set,setRow] at H;refine aH ?_;refine Me (()) _ _ _ _ _ (by exact H.dS (Pl:=[_,_,_,_]) (dL:=[_,_,_]) [0,2,3] (by decide) rfl) ?_
  trivial
 ·clear H;intro VJ gh V4 a w tQ hI H;dsimp only [lca,aV] at H;refine K3 _ _ ?_;clear K3;refine aS (fun _ K6=>?_);rw [iH (by simp)] at H;refine kP H (SC (Ro aD 2 rfl (aO K6 rfl ?_)));clear H K6;intro a H;refine dR ?_;refine (BO H 0 rfl ?_).1;clear H;intro a w H;dsimp only [List.eraseIdx_cons_succ,List.eraseIdx_cons_zero] at H;refine lv H results23 rfl ?_;exact H.rt rfl
 intro Dk x;exact x.elim
mutual
theorem aob (note:Bool) (t:Int):∀ x:aJ,(IE note t x).length < dQ x.dat
 | .mk k c i tx h f r=>by
  have h4:=uX (.mk k c i tx h f r);have hf:=Qi true t f;have hr:=abV note t r;dsimp only [aJ.text,aJ.head,aJ.flow,aJ.rows] at h4;rw [IE]
  split
  ·rw [qH];omega
  split <;> first|omega|(simp only [List.length_nil];omega)
theorem Qi (note:Bool) (t:Int):∀ l:List aJ,(mI note t l).length≤bU l
 | []=>by simp [mI]
 | x :: l=>by
  have h1:=aob note t x;have h2:=Qi note t l;rw [mI,wE]
  simp only [bU,iq,fE] at *;omega
theorem aod (note:Bool) (t:Int):∀ x:bS,(IG note t x).length≤dQ x.dat
 | .mk h cs=>by
  have h4:=Aa (.mk h cs);have hc:=abR note t cs;dsimp only [bS.head,bS.cells] at h4;rw [IG];omega
theorem abV (note:Bool) (t:Int):∀ l:List bS,(yJ note t l).length≤fQ l
 | []=>by simp [yJ]
 | x :: l=>by
  have h1:=aod note t x;have h2:=abV note t l;rw [yJ,wE]
  simp only [fQ,iq,fE] at *;omega
theorem anZ (note:Bool) (t:Int):∀ x:bO,(IC note t x).length≤dQ x.dat
 | .mk i h f=>by
  have h4:=zZ (.mk i h f);have hf:=Qi note (t+1) f;dsimp only [bO.head,bO.flow] at h4;rw [IC,qH];omega
theorem abR (note:Bool) (t:Int):∀ l:List bO,(zX note t l).length≤jr l
 | []=>by simp [zX]
 | x :: l=>by
  have h1:=anZ note t x;have h2:=abR note t l;rw [zX,wE]
  simp only [jr,iq,fE] at *;omega
end
theorem aej (G:GH) (w0:World) (hG:Hold G w0) (D:jS) (l:List aJ) (hv:au G (.sl 11 (l.map aJ.dat)) (aK D.f)) (hz:bU l≤4294967296) :
  Calls prog 19 #[D.val] w0 (bJ w0 G fun u G'=>au G' (.sl 1 ((sD l).map fun f:qG=>[li f.id])) u):=by
 have hml:4294967299≤maxLen:=by decide
 have hn:(sD l).length≤4294967297:=by
  have:=Qi false 0 l;rw [sD,qH];omega
 refine eN [(0,_)] func19 rfl ntmps19 rfl rfl hG ?_;intro a H;refine dw (fun _ K1=>?_);refine eD (cs:=[_,_,_,_,_,_,_,_,_,_,_]) H wn rfl rfl rfl ?_;clear H;intro b1 a w hb1 H;refine kH H (aj K1 rfl (SR fun _ K2=>?_));clear H K1;intro a H;refine dU FI H wn rfl ?_;clear H;intro b3 a w hb3 H;refine K2 _ _ ?_;clear K2;refine aS (fun _ K3=>?_);refine aS (fun _ K4=>?_);have H:=H.dS (Pl:=[_,_]) (dL:=[_,_]) [1,0] (by decide) rfl;refine nG ?_;refine aW jQ (cs:=[_,_,_,_,_,_,_,_,_,_,_]) H wn rfl rfl (H.hp.dX 0 rfl rfl) rfl ?_;clear H;intro a H;refine s_call XF H wn rfl (aao _ _ H.ro D l hv hz) rfl ?_;clear H;rintro v6 G6 a w ⟨ba,bl,bp,rfl,hit⟩ LY H;refine aH ?_;refine K4 _ _ ?_;clear K4;refine vC ?_;skip;refine ES (ι:=ak × List ak × OL) (κ:=Empty) (Lc:=[(_,_)]) (fun (k:Nat) (gh:ak × List ak × OL)=>[(b3,.cells #[gh.1] 61 (0,0))]) (fun (k:Nat) (gh:ak × List ak × OL)=>gh.2.2) (fun (k:Nat) (gh:ak × List ak × OL) (g:GH)=>dO 3 1 gh.1 k gh.2.1 gh.2.2∧dG g 1 (((sD l).take k).map fun f:qG=>[li f.id]) gh.2.1) (fun x=>x.elim) (fun x=>x.elim) (fun x=>x.elim) (fun x=>x.elim) ((.slice none 0 0,[],[])) (by exact H.UC (A:=[_,_])) rfl Q6 (hit) (fun _ _ h=>h) rfl (fun k args g h=>by obtain ⟨_,_,_,_,rfl,_⟩:=Ob h;rfl) (fun k i G G' hm h=>⟨h.1,h.2.mono hm⟩) (fun x=>x.elim) (⟨dO.nil,dG.nil⟩) ?_ ?_ ?_
 ·clear H;intro l3 yE vB bk k args gh G3 w3 F3 B3 a hk3 tQ hI LM Me Zw H;obtain ⟨v,xs,Lo⟩:=gh;dsimp only at hI H;obtain ⟨hk,vA,vn,vc,rfl,hfr⟩:=Ob hk3;dsimp only [uD,List.cons_append,List.nil_append] at H;obtain ⟨hrw,iK⟩:=hI;refine kP H (SC (Ra rfl ?_));clear H;intro a H;refine aH ?_;refine LM _ _ _ _ _ _ (by exact H) ?_;clear H;intro w H;refine kP H (SB (SC (Ro FI 2 rfl (Rm rfl ?_))));clear H;intro a H;refine jJ rW aD [_] [_] H wn rfl rfl rfl rfl rfl (by intro i q h;match i,h with|0,h=>exact h|n+1,h=>simp at h) rfl rfl ?_;clear H;intro b11 a w Hr H;refine tX (Li:=[_,_,_,_]++bk) (Lo:=Lo) (news:=[vi (sD l)[k].id]) rW aD rfl rfl (St.un (A:=[_,_,_,_]) H) wn rfl rfl hrw rfl (H.hp.dX 0 rfl rfl) rfl (by omega) (by omega) rfl ?_;clear H;intro v12 acw a w Zo H;obtain ⟨A12,c12,rfl,-,-⟩:=Zo.shape
  simp only [nN,oG,oH] at H
  refine bN FI 3 (vs:=[_]) _ H wn rfl rfl rfl rfl rfl rfl rfl rfl ?_;clear H;intro w H;dsimp only [List.set,setRow] at H;refine aH ?_;refine Me ((.slice A12 (k+1) c12,xs++[vi (sD l)[k].id],acw)) _ _ _ _ _ (by exact H.dS (Pl:=[_,_,_,_]) (dL:=[_,_,_]) [1,2,3] (by decide) rfl) ?_;exact ⟨Zo,by rw [iG hk,List.map_append];exact iK.snoc (akw _ _) rfl⟩
 ·clear H;intro VJ gh V4 a w tQ hI H;obtain ⟨v,xs,Lo⟩:=gh;dsimp only at hI H;dsimp only [lca,aV] at H;obtain ⟨hrw,iK⟩:=hI;rw [bV] at hrw iK;rw [List.take_length] at iK;refine K3 _ _ ?_;clear K3;refine kP H (SR fun _ K5=>Ro FI 2 rfl (aj K5 rfl ?_));clear H K5;intro a H;refine dR ?_;refine (BO H 0 rfl ?_).1;clear H;intro a w H;dsimp only [List.eraseIdx_cons_succ,List.eraseIdx_cons_zero] at H;refine lv H results19 rfl ?_;obtain ⟨Gr,hmr,hrep,H⟩:=St.E5 (Li:=[_,_]) H hrw (rows:=(sD l).map fun f:qG=>[li f.id]) (by simp) iK;exact H.rt hrep
 intro Dk x;exact x.elim
end
section
open Go.RowKit
def yK:bO:=.mk 5 hd0 [mY]
def yL:bO:=.mk 4 hd0 []
def xA:bS:=.mk hd0 [yK,yL]
def lK:aJ:=.mk 7 0 3 ⟨#[]⟩ hd0 [] [xA]
def yM:oC:=⟨[lK],hd0,[],⟨[],[],[],[]⟩⟩
theorem anE:sW ⟨#[]⟩=true:=by
 have e0:vJ ⟨#[]⟩ 0=-1:=by rw [vJ,dif_neg (by decide)]
 unfold sW;rw [e0];decide
theorem aon:lF ⟨[],[],[],[]⟩=0:=by simp [lF,bT,gI,uI,wF,uE,Aj,bQ,iI]
theorem aom:yX []=0:=by simp [yX,bT,bQ,iI]
theorem Ke (C:iT) {e:Int} (h1:1≤e) (h2:e≤10):fP C e hd0=0:=by
 have h3:iU e []=0:=by rw [iU,ah (by omega)];rfl
 simp [fP,bT,hd0,h3,yF,fV,iI,bQ]
theorem xFa:jN mY=0:=by
 simp [jN,mY,aJ.kind,aJ.code,aJ.id,aJ.text,aJ.flow,aJ.rows,codeOk,zo,Bb,zN,zY,AO,qo,Vq.1]
theorem xFt:jN lK=0:=by
 simp [jN,lK,aJ.kind,aJ.code,aJ.id,aJ.text,aJ.flow,aJ.rows,codeOk,zo,Bb,zN,zY,AO,qo,anE]
theorem aok:jg yM.oV true false 0 [lK] ⟨0,[]⟩=(0,⟨3,[3,5,4]⟩):=by
 generalize yM.oV=C
 have hA:∀ s:CS,jg C false false 1 [mY] s=(0,⟨s.n+2,s.bG⟩):=fun s=>by
  have e1:lg false false 1 mY.kind mY.id ⟨s.n+(gU mY:Nat),s.bG⟩=(0,⟨s.n+2,s.bG⟩):=by rw [uA.1];rfl
  have e2:fP C mY.kind mY.head=0:=Ke C (by decide) (by decide)
  simp [jg,O8,gF,xFa,e1,e2,show ¬ mY.kind=6 by decide,show ¬ mY.kind=7 by decide]
 have e2:lg true false 0 7 lK.id ⟨((gU lK:Nat):Int),[]⟩=(0,⟨1,[3]⟩):=rfl;have e3:fP C 7 lK.head=0:=Ke C (by decide) (by decide);have e4:fP C 9 xA.head=0:=Ke C (by decide) (by decide);have e5:fP C 10 yK.head=0:=Ke C (by decide) (by decide);have e6:fP C 10 yL.head=0:=Ke C (by decide) (by decide);have e7:jZ ⟨1,[3]⟩ yK.id=(0,⟨1,[3,5]⟩):=rfl;have e8:jZ ⟨3,[3,5]⟩ yL.id=(0,⟨3,[3,5,4]⟩):=rfl;have f1:lK.rows=[xA]:=rfl;have f2:xA.cells=[yK,yL]:=rfl;have f3:yK.flow=[mY]:=rfl;have f4:yL.flow=[]:=rfl
 simp [jg,O8,gF,xFt,e2,e3,show ¬ lK.kind=6 by decide,show lK.kind=7 by decide,f1,lI,iO,MP,sS,e4,bT,bQ,f2,pK,Cu,e5,e6,e7,e8,f3,f4,hA]
theorem aoj:jL yM=0:=by
 have h1:fP yM.oV 3 yM.fin=0:=Ke _ (by decide) (by decide);have h2:lF yM.gq=0:=aon;have h3:yX yM.revs=0:=aom;have h4:jg yM.oV true false 0 yM.flow ⟨0,[]⟩=(0,⟨3,[3,5,4]⟩):=aok
 have h5:sO yM.fin.marks=false:=by decide
 simp [jL,h1,h2,h3,h4,h5,bT,bQ]
theorem VA:sD [lK]=[⟨0,[lK],true,false,0⟩,⟨5,[mY],false,false,1⟩,⟨4,[],false,false,1⟩]:=by
 simp [sD,mI,abT,lK,aJ.kind,aJ.rows,yJ,abU,xA,bS.cells,zX,abQ,yK,yL,bO.id,bO.flow,mY]
theorem aol:Df [lK] 4=some (0,0):=by
 have h1:nK 5 0 [mY]=[]:=by simp [nK,JR,mY,aJ.kind]
 have h2:nK 4 0 []=[]:=by simp [nK]
 simp [Df,nK,JR,lK,aJ.kind,kZ,xA,yK,yL,bS.cells,mW,aaw,bO.id,bO.flow,h1,h2,JL,aJ.id,aJ.rows,O5]
theorem VB:mM [lK]=[3,5,4]:=by
 simp [mM,ZJ,lK,aJ.kind,aJ.id,aJ.rows,aJ.flow,Fu,ZK,xA,bS.cells,Ic,ZI,yK,yL,bO.id,bO.flow,mY]
theorem acg:∀ k,AV ((sD [lK]).take k)=if k=0 then 0 else if k=1 then 1 else 3:=by
 have l1:CZ [lK]=1:=by simp [CZ,Bd,xq,gU,Dn,lK,aJ.kind]
 have l2:CZ [mY]=2:=by simp [CZ,Bd,xq,uA.1,uA.2]
 have l3:CZ []=0:=rfl;intro k;rw [VA]
 match k with
 | 0=>rfl
 | 1=>simp [AV,l1]
 | 2=>simp [AV,l1,l2]
 | n+3=>simp [AV,l1,l2,l3]
end
section
open Go.RowKit
theorem afG:∀ args w,(callFunc 18 args).run prog w=.ok (.enter 18 args) w:=enters func18 rfl (by kernel_rfl)
theorem afM:∀ args w,(callFunc 19 args).run prog w=.ok (.enter 19 args) w:=enters func19 rfl (by kernel_rfl)
theorem afR:∀ args w,(callFunc 21 args).run prog w=.ok (.enter 21 args) w:=enters func21 rfl (by kernel_rfl)
theorem afS:∀ args w,(callFunc 22 args).run prog w=.ok (.enter 22 args) w:=enters func22 rfl (by kernel_rfl)
theorem afT:∀ args w,(callFunc 23 args).run prog w=.ok (.enter 23 args) w:=enters func23 rfl (by kernel_rfl)
theorem alj {G:GH}:tq G ⟨[],[],[],[]⟩ (.slice none 0 0) (.slice none 0 0) (.slice none 0 0) (.slice none 0 0):=⟨au.kg rfl (by decide),au.kg rfl (by decide),au.kg rfl (by decide),au.kg rfl (by decide)⟩
theorem ahj (G:GH) (w0:World) (hG:Hold G w0) :
  Calls prog 18 #[] w0 (bJ w0 G fun u G'=>∃ D:jS,u=D.val∧qF G' D yM):=by
 refine eN [] func18 rfl ntmps18 rfl rfl hG ?_;intro a H;refine dw (fun _ K1=>?_);refine dU jQ H wn rfl ?_;clear H;intro b0 a w hb0 H;refine K1 _ _ ?_;clear K1;refine dw (fun _ K2=>?_);refine nk abl [_,_,_,_,_,_,_,_,_,_,_] H wn rfl rfl rfl rfl ?_;clear H;intro a H;refine jJ lu eZ [_,_,_,_,_,_,_,_,_,_,_] [_,_,_,_,_,_,_,_,_,_,_] H wn rfl rfl rfl rfl rfl (by intro i q h;match i,h with|0,h=>exact h|n+1,h=>simp at h) rfl rfl ?_;clear H;intro b3 a w hb3 H;refine kH H (aj K2 rfl (SR fun _ K3=>Rm rfl ?_));clear H K2;intro a H;(iterate 2 refine nk Vi [_,_,_,_,_,_,_] H wn rfl rfl rfl rfl ?_;clear H;intro a H);refine jJ mh iQ [_,_,_,_,_,_,_,_,_,_,_,_,_,_] [_,_,_,_,_,_,_,_,_,_,_,_,_,_] H wn rfl rfl rfl rfl rfl (by intro i q h;match i,h with|0,h=>exact h|1,h=>exact h|n+2,h=>simp at h) rfl rfl ?_;clear H;intro b7 a w vM H;refine nk abg [_,_,_,_,_,_] H wn rfl rfl rfl rfl ?_;clear H;intro a H;refine jJ kr iV [_,_,_,_,_,_] [_,_,_,_,_,_] H wn rfl rfl rfl rfl rfl (by intro i q h;match i,h with|0,h=>exact h|n+1,h=>simp at h) rfl rfl ?_;clear H;intro b9 a w rH H;refine nk abl [_,_,_,_,_,_,_,_,_,_,_] H wn rfl rfl rfl rfl ?_;clear H;intro a H;refine jJ lu eZ [_,_,_,_,_,_,_,_,_,_,_] [_,_,_,_,_,_,_,_,_,_,_] H wn rfl rfl rfl rfl rfl (by intro i q h;match i,h with|0,h=>exact h|n+1,h=>simp at h) rfl rfl ?_;clear H;intro b11 a w Hr H;refine nk abk [_,_,_,_,_,_,_,_,_,_,_] H wn rfl rfl rfl rfl ?_;clear H;intro a H;refine bN jQ 4 (vs:=[_,_,_,_,_,_,_,_,_,_,_]) _ H wn rfl rfl rfl rfl rfl rfl rfl rfl ?_;clear H;intro w H;dsimp only [List.set,setRow] at H;refine K3 _ _ ?_;clear K3;refine dR ?_;refine (leave1 H results18 (.cons (BS jQ (cs:=[_,_,_,_,_,_,_,_,_,_,_]) H rfl rfl (H.hp.dX 4 rfl rfl)) .nil) ?_).1;have H:=H.dS (Pl:=[_,_,_,_,_]) (dL:=[_,_,_,_]) [3,2,1,0] (by decide) rfl;obtain ⟨G3,tQ,hr3,H⟩:=H.Od (sz:=11) (d:=mY.dat) rfl (bH.mkItem (x:=mY) JA (au.kg (A:=none) (n:=0) (c:=0) rfl (by decide)) (au.kg (A:=none) (n:=0) (c:=0) rfl (by decide)));obtain ⟨G7,wU,vM,H⟩:=H.eG;have rA:bH G7 yK.dat _:=bH.Mv (x:=yK) JA (hr3.mono wU);have rB:bH G7 yL.dat _:=bH.Mv (x:=yL) JA (au.kg (A:=none) (n:=0) (c:=0) rfl (by decide));have iK:dG G7 7 (xA.cells.map bO.dat) _:=(dG.nil.snoc rA rfl).snoc rB rfl;have hr7:au G7 (.sl 7 (xA.cells.map bO.dat)) (.slice (some ⟨b7,0,none⟩) 2 2):=au.fF (n:=2) (cap:=2) vM rfl (dJ _) (show 2≤maxLen by decide) rfl iK;obtain ⟨G9,CV,hr9,H⟩:=H.Od (sz:=6) (d:=xA.dat) rfl (bH.Uz (x:=xA) JA hr7);obtain ⟨wh,HY,ajI,H⟩:=H.Od (sz:=11) (d:=lK.dat) rfl (bH.mkItem (x:=lK) JA (au.kg (A:=none) (n:=0) (c:=0) rfl (by decide)) hr9);exact H.rt ⟨⟨(some ⟨b11,0,none⟩,1,1),(none,0,0),(none,0,0),(none,0,0),(none,0,0),(none,0,0),(none,0,0),(none,0,0),(none,0,0),0,0⟩,rfl,⟨ajI,JA,rfl,rfl,au.kg (c:=0) rfl (show 0≤maxLen by decide),alj⟩⟩
theorem xZt:dQ lK.dat≤100:=by
 have h1:=uX lK;have h2:=Aa xA;have h3:=zZ yK;have h4:=zZ yL;have h5:=uX mY
 have h0:pJ hd0=5:=by simp [Cc,fE]
 have g1:lK.head=hd0:=rfl;have g2:xA.head=hd0:=rfl;have g3:yK.head=hd0:=rfl;have g4:yL.head=hd0:=rfl;have g5:mY.head=hd0:=rfl;have s1:lK.text.size=0:=rfl;have s5:mY.text.size=2:=rfl;have f1:bU lK.flow=0:=rfl;have f5:bU mY.flow=0:=rfl;have f3:bU yK.flow=1+dQ mY.dat:=rfl;have f4:bU yL.flow=0:=rfl;have r1:fQ lK.rows=1+dQ xA.dat:=rfl;have r5:fQ mY.rows=0:=rfl;have c2:jr xA.cells=1+dQ yK.dat+(1+dQ yL.dat):=rfl;rw [g1,h0] at h1;rw [g2,h0] at h2;rw [g3,h0] at h3;rw [g4,h0] at h4;rw [g5,h0] at h5
 omega
theorem xZ:Ey yM:=by
 have h0:pJ hd0=5:=by simp [Cc,fE]
 have h1:bU yM.flow=1+dQ lK.dat:=rfl;have h2:=xZt;exact ⟨by omega,by show pJ hd0≤_;omega,by decide,(fun x h=>by cases h),by decide,⟨(fun x h=>by cases h),by decide,(fun x h=>by cases h),by decide,(fun x h=>by cases h),by decide,(fun x h=>by cases h),(fun x h=>by cases h),(fun x h=>by cases h)⟩⟩
theorem Pb (G:GH) (w0:World) (hG:Hold G w0):Calls prog 5 #[] w0 (bJ w0 G fun u G'=>u=.bool true):=by
 have hz:bU [lK]≤4294967296:=Nat.le_trans xZ.fl (by decide);refine eN [] func5 rfl ntmps5 rfl rfl hG ?_;intro a H;refine kP H (SR fun _ K1=>aj K1 rfl (SR fun _ K2=>?_));clear H K1;intro a H;refine s_call afG H wn rfl (ahj _ _ H.ro) rfl ?_;clear H;rintro v5 G5 a w ⟨D,rfl,hR⟩ OC H;refine dU jQ H wn rfl ?_;clear H;intro b1 a w hb1 H;refine bN jQ 0 (vs:=[_,_,_,_,_,_,_,_,_,_,_]) _ H wn rfl rfl rfl rfl rfl rfl rfl rfl ?_;clear H;intro w H;dsimp only [List.set,setRow] at H;refine K2 _ _ ?_;clear K2;refine dw (fun _ K3=>?_);refine aW jQ (cs:=[_,_,_,_,_,_,_,_,_,_,_]) H wn rfl rfl (H.hp.dX 0 rfl rfl) rfl ?_;clear H;intro a H;refine s_call afM H wn rfl (aej _ _ H.ro D [lK] hR.fl hz) rfl ?_;clear H;rintro v7 G7 a w hfl wU H;replace hR:=hR.mono wU;rw [VA] at hfl;obtain ⟨vA,vn,vc,rfl⟩:=hfl.form;obtain rfl:vn=3:=hfl.len;obtain ⟨b,o,cs,rfl,hcl,oJ,hr⟩:=hfl.at_ 1 [li 5] rfl;obtain ⟨_,_,rfl,⟨rfl,-⟩,rfl⟩:∃ v vs,cs=v :: vs∧au G7 (li 5) v∧vs=[]:=hr;obtain ⟨b',o',cs,he,hcl,hrow2,hr⟩:=hfl.at_ 2 [li 4] rfl;obtain ⟨_,_,rfl,⟨rfl,-⟩,rfl⟩:∃ v vs,cs=v :: vs∧au G7 (li 4) v∧vs=[]:=hr
 injection he with he
 injection he with e1 e2
 subst e1;subst e2;have c1:aF G7 b (o+1*1)=some (vi 5):=oJ 0 _ rfl;have c2:aF G7 b (o+2*1)=some (vi 4):=hrow2 0 _ rfl;refine kH H (aj K3 rfl (SR fun _ K4=>?_));clear H K3;intro a H;refine aW jQ (cs:=[_,_,_,_,_,_,_,_,_,_,_]) H wn rfl rfl (H.hp.dX 0 rfl rfl) rfl ?_;clear H;intro a H;refine s_call afQ H wn rfl (alH _ _ H.ro D [lK] 4 hR.fl hz) rfl ?_;clear H;rintro v10 Kk a w rfl vP H;replace hR:=hR.mono vP;replace c1:=ay vP c1;replace c2:=ay vP c2;rw [aol] at H;dsimp only [Option.getD,Option.isSome] at H;refine kH H (Rm rfl ?_);clear H;intro a H;(iterate 2 refine uT H wn rfl rfl rfl ?_;clear H;intro a H);refine dU ny H wn rfl ?_;clear H;intro b3 a w hb3 H;refine bN ny 0 (vs:=[_,_]) _ H wn rfl rfl rfl rfl rfl rfl rfl rfl ?_;clear H;intro w H;dsimp only [List.set,setRow] at H;refine kH H (aj K4 rfl (SR fun _ K5=>?_));clear H K4;intro a H;refine aW jQ (cs:=[_,_,_,_,_,_,_,_,_,_,_]) H wn rfl rfl (H.hp.dX 1 rfl rfl) rfl ?_;clear H;intro a H;refine s_call afR H wn rfl (ady _ _ H.ro D yM hR xZ) rfl ?_;clear H;rintro v14 IU a w rfl LW H;replace hR:=hR.mono LW;replace c1:=ay LW c1;replace c2:=ay LW c2;rw [aoj] at H;refine kH H (Rc rfl (Rm rfl (Sp 16 rfl ?_ ?_))) <;> clear H
 ·intro h16 a H
  try have p16:=dT h16
  refine kH H (YM h16 rfl (YL rW h16 rfl (YC h16 rfl (Pt h16 rfl (Rm rfl (Sp 21 rfl ?_ ?_)))))) <;> clear H
  ·intro h21 a H
   try have oM:=dT h21
   refine kH H (YM h21 rfl ?_);clear H;intro a H;refine PY rW aD 1 H (wg H rfl rfl h21) rfl rfl rfl (by omega) rfl ?_;clear H;intro a H;refine kH H (YR aD h21 rfl c1 (YC h21 rfl (Pt h21 rfl (Rm rfl (Sp 27 rfl ?_ ?_))))) <;> clear H
   ·intro h27 a H
    try have p27:=dT h27
    refine kH H (YM h27 rfl ?_);clear H;intro a H;refine PY rW aD 2 H (wg H rfl rfl h27) rfl rfl rfl (by omega) rfl ?_;clear H;intro a H;refine kH H (YR aD h27 rfl c2 (YC h27 rfl (Pt h27 rfl (Rm rfl (Sp 33 rfl ?_ ?_))))) <;> clear H
    ·intro lG a H
     refine kH H (YM lG rfl (Pt lG rfl (Rm rfl (Sp 36 rfl ?_ ?_)))) <;> clear H
     ·intro CJ a H
      refine aW ny (cs:=[_,_]) H (wg H rfl rfl CJ) rfl rfl (H.hp.dX 0 rfl rfl) rfl ?_;clear H;intro a H;refine nk Vj [_,_] H (wg H rfl rfl CJ) rfl rfl rfl rfl ?_;clear H;intro a H;refine amt agX H (wg H rfl rfl CJ) rfl rfl rfl rfl ?_;clear H;intro a H;refine kH H (Pt CJ rfl (Rm rfl (Sp 41 rfl ?_ ?_))) <;> clear H
      ·intro kM a H
       refine aW jQ (cs:=[_,_,_,_,_,_,_,_,_,_,_]) H (wg H rfl rfl kM) rfl rfl (H.hp.dX 1 rfl rfl) rfl ?_;clear H;intro a H;refine s_call afS H (wg H rfl rfl kM) rfl (ahI _ _ H.ro D [lK] hR.fl hz (by rw [VB];decide) (by rw [VB];decide)) rfl ?_;clear H;rintro v43 Dr a w rfl qb H;replace hR:=hR.mono qb;rw [VB] at H;refine kH H (YC kM rfl (Pt kM rfl (Rm rfl (Sp 46 rfl ?_ ?_)))) <;> clear H
       ·intro h46 a H
        refine aW jQ (cs:=[_,_,_,_,_,_,_,_,_,_,_]) H (wg H rfl rfl h46) rfl rfl (H.hp.dX 1 rfl rfl) rfl ?_;clear H;intro a H
        refine s_call afT H (wg H rfl rfl h46) rfl (anL _ _ H.ro D [lK] hR.fl hz (fun k _=>by rw [acg];(repeat' split) <;> decide)) rfl ?_;clear H
        rintro v48 G48 a w rfl apk H;rw [show AV (sD [lK])=3 by have:=acg 3;rw [iH (by rw [VA];decide)] at this;exact this] at H;exact kH H (YC h46 rfl (Pt h46 rfl (aj K5 rfl (LR results5 rfl fun H=>H.rt rfl))))
       intro h46 a H
       exact absurd h46 (by decide)
      intro kM a H
      exact absurd kM (by decide)
     intro CJ a H
     exact absurd CJ (by decide)
    intro lG a H
    exact absurd lG (by decide)
   intro h27 a H
   exact absurd h27 (by decide)
  intro h21 a H
  exact absurd h21 (by decide)
 intro h16 a H
 exact absurd h16 (by decide)
end
end Go.Proofs.YtdacibabefnabaaGreat
