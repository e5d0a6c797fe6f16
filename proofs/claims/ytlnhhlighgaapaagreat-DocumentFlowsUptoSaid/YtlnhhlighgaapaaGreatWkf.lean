/-
  What the claim stands on, part 6: Mck Mid Mhd Mow Mro Mfl Sms13 Par It Div Cl Rc Nrm Pas L14 L14b L14c L14d L14e Sl Txt Sec Kt K14 K14b Sml Mdk Frs K13 Kn13 Dcs Dn.
-/
import Derived.Test.YtlnhhlighgaapaaGreatWke
namespace Go.Proofs.YtlnhhlighgaapaaGreat
open Go.Proofs.Tryz
section
open Go.RowKit
theorem KD:dV prog 143 0 0:=⟨by kernel_rfl⟩
abbrev jl (D:kN) (b:Nat) (v:aj) (n:Int):Nat × Obj:=(b,.cells #[dD D.f,dD D.p,vi D.ins,vi D.move,dD D.d,dD D.y,dD D.r,dD D.s1,dD D.s2,dD D.s3,dD D.s4,v,.slice none 0 0,vi n] 143 (0,0))
structure CY (G:GH) (D:kN) (st:List cK) (li:List eT) (rv:List fF):Prop where
 sty:aB G (.sl 6 (st.map cK.dat)) (dD D.s1)
 yU:aB G (.sl 2 (li.map eT.dat)) (dD D.s2)
 rev:aB G (.sl 3 (rv.map fF.dat)) (dD D.r)
theorem CY.mono {G G':GH} {D:kN} {st:List cK} {li:List eT} {rv:List fF} (h:CY G D st li rv) (hm:∀ b o,G b=some o→G' b=some o):CY G' D st li rv:=⟨h.sty.mono hm,h.yU.mono hm,h.rev.mono hm⟩
structure Io (st:List cK) (li:List eT) (rv:List fF):Prop where
 fr:Ap (st.map cK.id)
 sn:st.length≤4294967296
 ln:li.length≤4294967296
 rn:rv.length≤4294967296
theorem anj {G:GH} {r:List Int} {A:Option Addr} {n c k:Nat} (hv:aB G (.sl 1 (r.map fun k=>[li k])) (.slice A n c)) (hk:k < r.length):∃ b o,A=some ⟨b,o,none⟩∧aH G b (o+k*1)=some (vi r[k]):=by
 obtain ⟨A',c',he,-,-,hg⟩:=hv.slice
 injection he with e1 e2 e3
 subst e1;obtain ⟨b,o,cs,h1,h2,h3,h4⟩:=hg k [li r[k]] (by simp [hk]);obtain ⟨v1,_,rfl,⟨rfl,-⟩,rfl⟩:∃ v vs,cs=v :: vs∧aB G (li r[k]) v∧bH G [] vs:=h4;exact ⟨b,o,h1,by simpa using h3 0 _ rfl⟩
theorem WW {α:Type} {l:List α} {x:α} {k:Nat} (hk:l.length≤k) (h:x∉l.take k):x∉l:=by rwa [kF hk] at h
theorem WX {α:Type} {l:List α} {x:α} {k:Nat} (hk:k < l.length) (h:x∉l.take k) (hn:¬ l[k]=x):x∉l.take (k+1):=by
 rw [jZ hk,gu,uo];exact fun h'=>h'.elim h fun e=>hn e.symm
theorem Vt (G:GH) (w0:World) (hG:Hold G w0) (l:List Int) (v:aj) (hv:aB G (.sl 1 (l.map fun k=>[li k])) v) (x:Int) :
  Calls prog 200 #[v,vi x] w0 (bR w0 G fun u G'=>u=.bool (decide (x∈l))∧G=G'):=by
 obtain ⟨A,c,rfl,hc1,hc2,-⟩:=hv.slice;have hml:maxLen=9223372036854775807:=rfl;rw [bZ] at *;refine eN [(0,_),(1,_)] func200 rfl ntmps200 rfl rfl hG ?_;intro a H;refine kP H (SR fun _ K1=>ak K1 rfl (SQ fun _ K2=>SR fun _ K3=>ak K3 rfl (SB ?_)));clear H K1 K3;intro a H;skip;refine fH (ι:=Nat) (Tc:=[(0,_),(1,_)]) (Lc:=[]) (fun gh=>[(5,vi gh)]) (fun gh=>[]) (fun gh=>G) (fun gh=>gh≤l.length∧x∉l.take gh) (fun gh=>l.length - gh) (0) (by exact (H).sub ⟨rfl,rfl,rfl,av⟩) ?_ ?_
 ·exact ⟨iK _,by simp⟩
 clear H;intro gh a w hI H;obtain ⟨k,hgh⟩:∃ x,x=gh:=⟨_,rfl⟩;subst hgh;obtain ⟨hk,he⟩:=hI;dsimp only [lca,aS] at H;refine kP H (SQ fun _ K4=>SR fun _ K5=>Rm rfl (Rm rfl (Rl om rfl (Rc rfl (Kz K5 (Cd rfl ?_ ?_)))))) <;> clear H K5
 ·intro h9 a H
  try have p9:=dT h9
  have hk2:k < l.length:=by omega
  obtain ⟨b,o,rfl,hcell⟩:=anj hv hk2;refine kP H (Kc K4 (SQ fun _ K6=>SB (SR fun _ K7=>Rm rfl (Rm rfl (Ri om aD rfl rfl (Rg aD rfl hcell (Rm rfl (Rc rfl (Kz K7 (Cd rfl ?_ ?_)))))))))) <;> clear H K4 K7
  ·intro dS a H
   try have mJ:=dT dS
   exact kP H (SR fun _ K8=>ak K8 rfl (LR results200 rfl fun H=>H.rt ⟨aL (gq (mJ ▸ jr hk2)).symm,rfl⟩))
  intro dS a H
  try have mJ:=dF dS
  refine kP H (Kc K6 (SC (Rm rfl (Rd rfl (Ra rfl ?_)))));clear H K6;intro a H;refine aI ?_;refine dP ((k+1)) (by exact (H).sub ⟨rfl,rfl,rfl,av⟩) ?_ ?_
  ·exact ⟨by omega,WX hk2 he mJ⟩
  first|omega|(dsimp only;omega)
 intro h9 a H
 try have p9:=dF h9
 refine eD ?_;refine K2 _ _ ?_;clear K2;exact kP H (SR fun _ K9=>ak K9 rfl (LR results200 rfl fun H=>H.rt ⟨aL (iC (WW (by omega) he)).symm,rfl⟩))
theorem WV (G:GH) (w0:World) (hG:Hold G w0) (D:kN) (st:List cK) (li:List eT) (rv:List fF) (b:Nat) (v:aj) (n:Int) (hk:CY G D st li rv) (hz:Io st li rv) (hb:G b=some (jl D b v n).2) (x:Int) :
  Calls prog 142 #[(aK b 0),vi x] w0 (bR w0 G fun u G'=>u=.bool (decide (x∈rv.map fF.id))∧G=G'):=by
 have hc6:aH G b 6=some (dD D.r):=by unfold aH;rw [hb];rfl
 have oI:=hk.rev
 generalize dD D.r=v6 at hc6 oI
 obtain ⟨A,c,rfl,hc1,hc2,-⟩:=oI.slice;have hrn:=hz.rn;rw [bZ] at *;refine eN [(0,_),(1,_)] func142 rfl ntmps142 rfl rfl hG ?_;intro a H;refine kP H (SR fun _ K1=>ak K1 rfl (SQ fun _ K2=>SR fun _ K3=>ak K3 rfl (SB ?_)));clear H K1 K3;intro a H;skip;refine fH (ι:=Nat) (Tc:=[(0,_),(1,_)]) (Lc:=[]) (fun gh=>[(5,vi gh)]) (fun gh=>[]) (fun gh=>G) (fun gh=>gh≤rv.length∧x∉(rv.map fF.id).take gh) (fun gh=>rv.length - gh) (0) (by exact (H).sub ⟨rfl,rfl,rfl,av⟩) ?_ ?_
 ·exact ⟨iK _,by simp⟩
 clear H;intro gh a w hI H;obtain ⟨k,hgh⟩:∃ x,x=gh:=⟨_,rfl⟩;subst hgh;obtain ⟨hk,he⟩:=hI;dsimp only [lca,aS] at H;refine kP H (SQ fun _ K4=>SR fun _ K5=>Rm rfl (Rm rfl (Rk rfl (Rf KD rfl (Rf Ey rfl (Rg zk rfl hc6 (Rl zl rfl (Rc rfl (Kz K5 (Cd rfl ?_ ?_)))))))))) <;> clear H K5
 ·intro fP a H
  try have qN:=dT fP
  have hk2:k < rv.length:=by omega
  obtain ⟨b',o,rfl,hrow⟩:=LW oI hk2;have hcell:=hrow 0 _ rfl;refine kP H (Kc K4 (SQ fun _ K6=>SB (SR fun _ K7=>Rm rfl (Rk rfl (Rf KD rfl (Rf Ey rfl (Rg zk rfl hc6 (Rm rfl (Ri zl Ah rfl rfl (Rf Ns rfl (Rg aD rfl (by assumption) ?_)))))))))));clear H K4;intro a H;refine kH H (Rm rfl (Rc rfl (Kz K7 (Cd rfl ?_ ?_)))) <;> clear H K7
  ·intro fV a H
   try have p26:=dT fV
   exact kP H (SR fun _ K8=>ak K8 rfl (LR results142 rfl fun H=>H.rt ⟨aL (gq (List.mem_map.2 ⟨_,jr hk2,p26⟩)).symm,rfl⟩))
  intro fV a H
  try have p26:=dF fV
  refine kP H (Kc K6 (SC (Rm rfl (Rd rfl (Ra rfl ?_)))));clear H K6;intro a H;refine aI ?_;refine dP ((k+1)) (by exact (H).sub ⟨rfl,rfl,rfl,av⟩) ?_ ?_
  ·exact ⟨by omega,WX (l:=rv.map fF.id) (by simpa using hk2) he (by simpa using p26)⟩
  first|omega|(dsimp only;omega)
 intro fP a H
 try have qN:=dF fP
 refine eD ?_;refine K2 _ _ ?_;clear K2;exact kP H (SR fun _ K9=>ak K9 rfl (LR results142 rfl fun H=>H.rt ⟨aL (iC (WW (by simp;omega) he)).symm,rfl⟩))
theorem aku {l:List cK} (f:Ap (l.map cK.id)) {i j:Nat} (hi:i < l.length) (hj:j < l.length) (h:l[i].id=l[j].id):i=j:=by
 rcases Nat.lt_trichotomy i j with c|c|c
 ·have:=f j (by simpa using hj);exact absurd (List.mem_take_iff_getElem.2 ⟨i,by simp;omega,by simpa using h⟩) this
 ·exact c
 have:=f i (by simpa using hi);exact absurd (List.mem_take_iff_getElem.2 ⟨j,by simp;omega,by simpa using h.symm⟩) this
theorem aqH {l:List cK} (f:Ap (l.map cK.id)) {x:Int} {k:Nat} (hk:k < l.length) (h:l[k].id=x):Fe l x=l[k].kind:=by
 unfold Fe
 cases e:l.find? fun s=>decide (s.id=x) with
 | none=>exact absurd (List.find?_eq_none.1 e _ (jr hk)) (by simpa using h)
 | some s =>
  obtain ⟨j,hj,rfl⟩:=List.getElem_of_mem (List.mem_of_find?_eq_some e);have h2:=List.find?_some e;have:=aku f hj hk (by rw [h];simpa using h2);subst this
  rfl
theorem aqI {l:List cK} {x K:Int} (hK:K≠0) (h:∀ j (hj:j < l.length),¬ (l[j].id=x∧l[j].kind=K)):Fe l x≠K:=by
 unfold Fe
 cases e:l.find? fun s=>decide (s.id=x) with
 | none=>exact fun h'=>hK h'.symm
 | some s =>
  obtain ⟨j,hj,rfl⟩:=List.getElem_of_mem (List.mem_of_find?_eq_some e);have h2:=List.find?_some e;exact fun h'=>h j hj ⟨by simpa using h2,h'⟩
theorem Ow (G:GH) (w0:World) (hG:Hold G w0) (D:kN) (st:List cK) (li:List eT) (rv:List fF) (b:Nat) (v:aj) (n:Int) (hk:CY G D st li rv) (hz:Io st li rv) (hb:G b=some (jl D b v n).2) (key x:Int) :
  Calls prog 141 #[(aK b 0),vi key,vi x] w0 (bR w0 G fun u G'=>u=vi (lT st (li.map eT.id) key x)∧G=G'):=by
 have Qx:aH G b 7=some (dD D.s1):=by unfold aH;rw [hb];rfl
 have hc8:aH G b 8=some (dD D.s2):=by unfold aH;rw [hb];rfl
 have hst:=hk.sty;have xG:=hk.yU
 generalize dD D.s1=v7 at Qx hst
 generalize dD D.s2=v8 at hc8 xG
 obtain ⟨A,c,rfl,hc1,hc2,-⟩:=hst.slice;obtain ⟨B,d,rfl,hd1,hd2,-⟩:=xG.slice;have hsn:=hz.sn;have hln:=hz.ln;rw [bZ] at *;refine eN [(0,_),(1,_),(2,_)] func141 rfl ntmps141 rfl rfl hG ?_;intro a H;refine kP H (SR fun _ K1=>ak K1 rfl (SQ fun _ K2=>SR fun _ K3=>Rm rfl (Rc rfl (Kz K3 (Cd rfl ?_ ?_))))) <;> clear H K1 K3
 ·intro h12 a H
  try have qM:=dT h12
  exact kP H (SR fun _ K4=>ak K4 rfl (LR results141 rfl fun H=>H.rt ⟨aC vi (by rw [qM];unfold lT;simp [bS]),rfl⟩))
 intro h12 a H
 try have qM:=dF h12
 refine kP H (Kc K2 (SQ fun _ K5=>SR fun _ K6=>Rm rfl (Kz K6 (SB ?_))));clear H K2 K6;intro a H;refine oO (ι:=Bool) (Tc:=[(0,_),(1,_),(2,_),(13,_)]) (Lc:=[]) (fun gh=>[(14,.bool gh)]) (fun gh=>[]) (fun gh=>G) (fun gh=>gh=decide (key=20∨key=1)) (by exact (H).sub ⟨rfl,rfl,rfl,rfl,av⟩) ?_ ?_
 ·skip;refine kP H (SR fun _ K7=>Rc rfl (ak K7 rfl (Cd rfl ?_ ?_))) <;> clear H K7
  ·intro eO a H
   try have ny:=dT eO
   refine fI ?_;refine ⟨decide (key=20),by exact (H).sub ⟨rfl,rfl,rfl,rfl,rfl,av⟩,?_⟩
   simp_all
  intro eO a H
  try have ny:=dF eO
  refine kP H (SC (Rc rfl (Ra rfl ?_)));clear H;intro a H;refine aI ?_;refine ⟨decide (key=1),by exact (H).sub ⟨rfl,rfl,rfl,rfl,rfl,av⟩,?_⟩
  simp_all
 clear H;intro gh a w hI H;obtain ⟨q,hgh⟩:∃ x,x=gh:=⟨_,rfl⟩;subst hgh;subst hI;dsimp only [lca,aS] at H;refine oN H rfl ?_ ?_
 ·intro eO
  try have ny:=dT eO
  refine kP H (SR fun _ K8=>ak K8 rfl ?_);clear H K8;intro a H;refine oO (ι:=Int) (Tc:=[(0,_),(2,_)]) (Lc:=[]) (fun gh=>[(7,vi gh)]) (fun gh=>[]) (fun gh=>G) (fun gh=>(key=20∨key=1)∧gh=(if key=1 then 2 else 1)) (by exact (H).sub ⟨rfl,rfl,av⟩) ?_ ?_
  ·skip;refine kP H (SR fun _ K9=>Rm rfl (Rc rfl (Kz K9 (Cd rfl ?_ ?_)))) <;> clear H K9
   ·intro h18 a H
    try have sO:=dT h18
    refine kP H (SC (Ra rfl ?_));clear H;intro a H;refine aI ?_;refine ⟨2,by exact (H).sub ⟨rfl,rfl,rfl,av⟩,?_⟩;exact ⟨ny,by first|exact (au (by omega)).symm|exact (ah (by omega)).symm⟩
   intro h18 a H
   try have sO:=dF h18
   refine fI ?_;refine ⟨1,by exact (H).sub ⟨rfl,rfl,rfl,av⟩,?_⟩;exact ⟨ny,by first|exact (au (by omega)).symm|exact (ah (by omega)).symm⟩
  clear H;intro gh a w hI H;obtain ⟨kd,hgh⟩:∃ x,x=gh:=⟨_,rfl⟩;subst hgh;obtain ⟨hkk,hkd⟩:=hI
  have hE:lT st (li.map eT.id) key x=bS (decide (x≠0∧Fe st x≠kd)) 25:=by rw [lT,au hkk,hkd]
  dsimp only [lca,aS] at H;refine kP H (SQ fun _ aZ=>SR fun _ bN=>ak bN rfl (SB ?_));clear H bN;intro a H;skip;refine fH (ι:=Nat) (Tc:=[(0,_),(2,_),(7,_)]) (Lc:=[]) (fun gh=>[(8,vi gh)]) (fun gh=>[]) (fun gh=>G) (fun gh=>gh≤st.length∧∀ j (hj:j < st.length),j < gh→¬ (st[j].id=x∧st[j].kind=kd)) (fun gh=>st.length - gh) (0) (by exact (H).sub ⟨rfl,rfl,rfl,rfl,av⟩) ?_ ?_
  ·exact ⟨iK _,fun j _ h=>absurd h (by omega)⟩
  clear H;intro gh a w hI H;obtain ⟨k,hgh⟩:∃ x,x=gh:=⟨_,rfl⟩;subst hgh;obtain ⟨hk,he⟩:=hI;dsimp only [lca,aS] at H;refine kP H (SQ fun _ bQ=>SR fun _ bT=>Rm rfl (Rm rfl (Rk rfl (Rf KD rfl (Rf Ez rfl (Rf FY rfl (Rg rT rfl Qx (Rl oo rfl (Rc rfl (Kz bT (Cd rfl ?_ ?_))))))))))) <;> clear H bT
  ·intro h27 a H
   try have p27:=dT h27
   have hk2:k < st.length:=by omega
   obtain ⟨b',o,pA,pc,rfl,hrow,-,-⟩:=CF hst hk2;refine kP H (Kc bQ (SQ fun _ cu=>SB (SR fun _ dL=>Rm rfl (Rk rfl (Rf KD rfl (Rf Ez rfl (Rf FY rfl (Rg rT rfl Qx (Rm rfl (Ri oo lU rfl rfl ?_))))))))));clear H bQ;intro a H;refine bD lU (cs:=[_,_,_,_,_,_]) H wn rfl rfl (fun j v hj=>H.hp.aH (hrow j v hj)) rfl ?_;clear H;intro a H;refine dR lU H wn rfl ?_;clear H;intro b9 a w uG H;refine bO lU 0 (vs:=[_,_,_,_,_,_]) _ H wn rfl rfl rfl rfl rfl rfl rfl rfl ?_;clear H;intro w H;dsimp only [List.set,setRow] at H;refine dL _ _ ?_;clear dL;refine kP H (SR fun _ dO=>aW wU aD 0 rfl rfl (Rm rfl (Rc rfl (Rm rfl (Sp 43 rfl ?_ ?_))))) <;> clear H
   ·intro h43 a H
    try have p43:=dT h43
    refine kH H (YF zK h43 rfl (YO aD 0 h43 rfl (YM h43 rfl (YC h43 rfl (Pt h43 rfl (Kz dO (Cd rfl ?_ ?_))))))) <;> clear H dO
    ·intro h48 a H
     try have p48:=dT h48
     exact kP H (SR fun _ dJ=>ak dJ rfl (LR results141 rfl fun H=>H.rt ⟨aC vi (by rw [hE,aqH hz.fr hk2 p43];simp [bS,p48]),rfl⟩))
    intro h48 a H
    try have p48:=dF h48
    refine kP H (Kc cu (SC (Rm rfl (Rd rfl (Ra rfl ?_)))));clear H cu;intro a H;refine aI ?_;refine dP ((k+1)) (by exact (H.dK (Pl:=[_]) (dw:=[]) [] (by decide) rfl).sub ⟨rfl,rfl,rfl,rfl,av⟩) ?_ ?_
    ·exact ⟨by omega,fun j hj h=>by
     by_cases e:j=k
     ·subst e;first|exact fun h'=>p48 h'.2|exact fun h'=>p43 h'.1
     exact he j hj (by omega)⟩
    first|omega|(dsimp only;omega)
   intro h43 a H
   try have p43:=dF h43
   refine kH H (aP h43 rfl (aP h43 rfl (Pf h43 rfl (Kz dO (Cf rfl rfl (Kc cu (SC (Rm rfl (Rd rfl (Ra rfl ?_))))))))));clear H dO cu;intro a H;refine aI ?_;refine dP ((k+1)) (by exact (H.dK (Pl:=[_]) (dw:=[]) [] (by decide) rfl).sub ⟨rfl,rfl,rfl,rfl,av⟩) ?_ ?_
   ·exact ⟨by omega,fun j hj h=>by
    by_cases e:j=k
    ·subst e;first|exact fun h'=>p48 h'.2|exact fun h'=>p43 h'.1
    exact he j hj (by omega)⟩
   first|omega|(dsimp only;omega)
  intro h27 a H
  try have p27:=dF h27
  refine eD ?_;refine aZ _ _ ?_;clear aZ;refine kP H (SR fun _ dW=>ak dW rfl ?_);clear H dW;intro a H;refine lr H results141 rfl ?_
  exact H.rt ⟨aC vi (by rw [hE,bS,au (gq ⟨qM,aqI (by rw [hkd];split <;> decide) fun j hj=>he j hj (by omega)⟩)]),rfl⟩
 intro eO
 try have ny:=dF eO
 refine kP H (SR fun _ eG=>Rc rfl (ak eG rfl (Cd rfl ?_ ?_))) <;> clear H eG
 ·intro qI a H
  try have p49:=dT qI
  refine kP H (SQ fun _ eB=>SR fun _ eH=>ak eH rfl (SB ?_));clear H eH;intro a H;skip;refine fH (ι:=Nat) (Tc:=[(0,_),(2,_)]) (Lc:=[]) (fun gh=>[(10,vi gh)]) (fun gh=>[]) (fun gh=>G) (fun gh=>gh≤li.length∧x∉(li.map eT.id).take gh) (fun gh=>li.length - gh) (0) (by exact (H).sub ⟨rfl,rfl,rfl,av⟩) ?_ ?_
  ·exact ⟨iK _,by simp⟩
  clear H;intro gh a w hI H;obtain ⟨k,hgh⟩:∃ x,x=gh:=⟨_,rfl⟩;subst hgh;obtain ⟨hk,he⟩:=hI;dsimp only [lca,aS] at H;refine kP H (SQ fun _ fO=>SR fun _ gJ=>Rm rfl (Rm rfl (Rk rfl (Rf KD rfl (Rf Ez rfl (Rf BO rfl (Rg xV rfl hc8 (Rl xW rfl (Rc rfl (Kz gJ (Cd rfl ?_ ?_))))))))))) <;> clear H gJ
  ·intro jE a H
   try have p59:=dT jE
   have hk2:k < li.length:=by omega
   obtain ⟨b',o,B',d',rfl,hrow,-⟩:=JH xG hk2;have hcell:=hrow 0 _ rfl;refine kP H (Kc fO (SQ fun _ gT=>SB (SR fun _ gM=>Rm rfl (Rk rfl (Rf KD rfl (Rf Ez rfl (Rf BO rfl (Rg xV rfl hc8 (Rm rfl (Ri xW Ag rfl rfl (Rf Ni rfl (Rg aD rfl (by assumption) ?_))))))))))));clear H fO;intro a H;refine kH H (Rm rfl (Rc rfl (Kz gM (Cd rfl ?_ ?_)))) <;> clear H gM
   ·intro lM a H
    try have p73:=dT lM
    exact kP H (SR fun _ jh=>ak jh rfl (LR results141 rfl fun H=>H.rt ⟨aC vi (by rw [lT,ah (by omega),au p49,bS,ah (by simpa using fun _=>⟨_,jr hk2,p73⟩)]),rfl⟩))
   intro lM a H
   try have p73:=dF lM
   refine kP H (Kc gT (SC (Rm rfl (Rd rfl (Ra rfl ?_)))));clear H gT;intro a H;refine aI ?_;refine dP ((k+1)) (by exact (H).sub ⟨rfl,rfl,rfl,av⟩) ?_ ?_
   ·exact ⟨by omega,WX (l:=li.map eT.id) (by simpa using hk2) he (by simpa using p73)⟩
   first|omega|(dsimp only;omega)
  intro jE a H
  try have p59:=dF jE
  refine eD ?_;refine eB _ _ ?_;clear eB;exact kP H (SR fun _ jo=>ak jo rfl (LR results141 rfl fun H=>H.rt ⟨aC vi (by rw [lT,ah (by omega),au p49,bS,au (gq ⟨qM,WW (by simp;omega) he⟩)]),rfl⟩))
 intro qI a H
 try have p49:=dF qI
 exact kP H (Kc K5 (SR fun _ iU=>ak iU rfl (LR results141 rfl fun H=>H.rt ⟨aC vi (by rw [lT,ah (by omega),ah p49]),rfl⟩)))
end
section
open Go.RowKit
theorem aay:∀ args w,(callFunc 200 args).run prog w=.ok (.enter 200 args) w:=enters func200 rfl (by kernel_rfl)
theorem ajV:dV prog 143 2 12:=⟨by kernel_rfl⟩
theorem Uo:dV prog 143 1 11:=⟨by kernel_rfl⟩
def yj (v:aj) (bE:List Int) (L L0:OL):Prop:=∃ Lo,L=L0++Lo∧iP 3 1 v bE.length (bE.map vi) Lo
theorem alb (G:GH) (Lo:OL) (w0:World) (l:List Int) (v:aj) (hr:iP 3 1 v l.length (l.map vi) Lo) (hO:jQ G Lo w0) (x:Int) :
  Calls prog 200 #[v,vi x] w0 (jk w0 G Lo fun u G' L'=>G=G'∧L'=Lo∧u=.bool (decide (x∈l))):=by
 rcases hr.2 with ⟨rfl,hn,rfl⟩|⟨b,cap,cur,rfl,rfl,h1,h2,h3,h4⟩
 ·obtain rfl:l=[]:=List.length_eq_zero_iff.1 hn;refine (Vt G w0 hO.ro [] _ (aB.jP rfl (by decide)) x).mono fun _ _ h=>?_;obtain ⟨u,G',L',rfl,hc,rfl,rfl,rfl⟩:=Hp.apw hO.ro h;exact ⟨_,_,_,rfl,hc,rfl,rfl,rfl⟩
 have hm:=GH.Kl G (o:=.cells cur 3 (0,0)) (hO.sep _ jd);exact (Vt (G.add b (.cells cur 3 (0,0))) w0 hO.add l _ (aB.fZ (GH.MN _ _ _) (by simp) h1 h2 h4 (gH _ l)) x).mono fun _ _=>XA (b:=b) (R':=fun u=>u=.bool (decide (x∈l))) hO fun _ _ h=>h.1
theorem adh (G:GH) (L L0:OL) (w0:World) (D:kN) (b:Nat) (v:aj) (s:CS) (x:Int) (hi:yj v s.bE L L0) (hO:jQ G (jl D b v s.n :: L) w0) (hn:s.bE.length < 1099511627776) :
  Calls prog 144 #[(aK b 0),vi x] w0 (jk w0 G (jl D b v s.n :: L) fun u G' L'=>G=G'∧∃ v' L1,u=vi (jL s x).1∧L'=jl D b v' s.n :: L1∧yj v' (jL s x).2.bE L1 L0):=by
 obtain ⟨Lo,rfl,hr⟩:=hi;obtain ⟨vA,vc,rfl,-,-⟩:=hr.shape;obtain ⟨n,bE⟩:=s;dsimp only at hr hO hn ⊢;have hml:maxLen=9223372036854775807:=rfl;refine mH (N:=37) (T:=[(0,_),(1,_)]) func144 rfl ntmps144 rfl rfl hO ?_;intro a H;refine kP H (SR fun _ K1=>ak K1 rfl (SQ fun _ K2=>SB (SR fun _ K3=>Rm rfl (Rc rfl (Rm rfl (Sp 8 rfl ?_ ?_)))))) <;> clear H K1
 ·intro h8 a H
  try have p8:=dT h8
  refine kH H (aP h8 rfl (Pt h8 rfl (Rm rfl (aT rfl rfl (aT rfl rfl (Pt rfl rfl (ak K3 rfl (Ct rfl rfl (SR fun _ K4=>ak K4 rfl ?_)))))))));clear H K3 K4;intro a H;refine lr H results144 rfl ?_
  have e:nZ bE x=18:=by rw [nZ,au (by omega)]
  exact H.hp.gL ⟨rfl,_,_,aC vi e.symm,rfl,by show yj _ (kg bE x) _ _;rw [kg,ah (by rw [e];decide)];exact ⟨Lo,rfl,hr⟩⟩
 intro h8 a H
 try have p8:=dF h8
 refine kH H (YM h8 rfl (YC h8 rfl (Pf h8 rfl (Rm rfl (Sp 12 rfl ?_ ?_))))) <;> clear H
 ·intro h12 a H
  try have qM:=dT h12
  refine kH H (aT h12 rfl (aT h12 rfl (Pt h12 rfl (ak K3 rfl (Ct rfl rfl (SR fun _ K5=>ak K5 rfl ?_))))));clear H K3 K5;intro a H;refine lr H results144 rfl ?_
  have e:nZ bE x=18:=by rw [nZ,au (by omega)]
  exact H.hp.gL ⟨rfl,_,_,aC vi e.symm,rfl,by show yj _ (kg bE x) _ _;rw [kg,ah (by rw [e];decide)];exact ⟨Lo,rfl,hr⟩⟩
 intro h12 a H
 try have qM:=dF h12
 refine kH H (YM h12 rfl ?_);clear H;intro a H;refine vK H (wg H rfl rfl h12) rfl rfl ?_;clear H;intro a H;refine kH H (YF ajV h12 rfl (YO Bq 0 h12 rfl (YM h12 rfl ?_)));clear H;intro a H;refine s_call aay H (wg H rfl rfl h12) rfl (Vt _ _ H.ro [] _ (aB.jP rfl (by decide)) x) rfl ?_;clear H;rintro v18 _ a w ⟨rfl,rfl⟩ - H;refine kH H (Pf h12 rfl (ak K3 rfl (Cd rfl ?_ ?_))) <;> clear H K3
 ·intro h5 a H
  try have p5:=dT h5
  exact kP H (SR fun _ K6=>ak K6 rfl (LR results144 rfl fun H=>absurd p5 (by simp)))
 intro h5 a H
 try have p5:=dF h5
 refine kP H (SR fun _ K7=>Rm rfl (Rk rfl (aW Uo Bq 0 rfl rfl (Rm rfl ?_))));clear H;intro a H;refine iH aay (Li:=_ :: L0) (L:=Lo) H wn rfl (alb _ _ _ bE _ hr (Hp.owns (Li:=_ :: L0) H.hp) x) rfl ?_;clear H;rintro v26 _ Lo a w ⟨rfl,rfl,rfl⟩ - H;refine kH H (ak K7 rfl (Cd rfl ?_ ?_)) <;> clear H K7
 ·intro h20 a H
  try have rP:=dT h20
  refine kP H (SR fun _ K8=>ak K8 rfl ?_);clear H K8;intro a H;refine lr H results144 rfl ?_
  have e:nZ bE x=7:=by rw [nZ,ah (by omega),au rP]
  exact H.hp.gL ⟨rfl,_,_,aC vi e.symm,rfl,by show yj _ (kg bE x) _ _;rw [kg,ah (by rw [e];decide)];exact ⟨Lo,rfl,hr⟩⟩
 intro h20 a H
 try have rP:=dF h20
 refine kP H (Kc K2 (SR fun _ K9=>Rm rfl (Rm rfl (Rk rfl (aW Uo Bq 0 rfl rfl (Rm rfl ?_))))));clear H K2;intro a H;refine jF om aD [_] [_] H wn rfl rfl rfl rfl rfl (by intro i q h;match i,h with|0,h=>exact h|n+1,h=>simp at h) rfl rfl ?_;clear H;intro b33 a w asE H;refine xS (Li:=_ :: _ :: L0) (Lo:=Lo) (news:=[vi x]) om aD rfl rfl H wn rfl rfl hr rfl (H.hp.eu 0 rfl rfl) rfl (by omega) (by omega) rfl ?_;clear H;intro v34 Zj a w acp H;obtain ⟨A34,c34,rfl,-,-⟩:=acp.shape;refine kH H (Rk rfl (Rf Uo rfl ?_));clear H;intro a H;refine bO Bq 1 (vs:=[_]) _ H wn rfl rfl rfl rfl rfl rfl rfl rfl ?_;clear H;intro w H;dsimp only [List.set,setRow] at H;refine K9 _ _ ?_;clear K9;refine kP H (SR fun _ aZ=>ak aZ rfl ?_);clear H aZ;intro a H;refine lr H results144 rfl ?_
 have e:nZ bE x=0:=by rw [nZ,ah (by omega),ah rP]
 exact H.hp.dh (L':=jl D b _ n :: (L0++Zj)) (by repeat (first|exact dx _|apply List.Sublist.cons|apply List.Sublist.cons₂)) ⟨rfl,_,_,aC vi e.symm,rfl,by show yj _ (kg bE x) _ _;rw [kg,au e];exact ⟨Zj,rfl,by simpa using acp⟩⟩
end
section
open Go.RowKit
theorem Na:∀ args w,(callFunc 141 args).run prog w=.ok (.enter 141 args) w:=enters func141 rfl (by kernel_rfl)
theorem TM:∀ args w,(callFunc 142 args).run prog w=.ok (.enter 142 args) w:=enters func142 rfl (by kernel_rfl)
set_option maxHeartbeats 8000000 in
theorem anW (G:GH) (w0:World) (hG:Hold G w0) (D:kN) (st:List cK) (li:List eT) (rv:List fF) (b:Nat) (v:aj) (n:Int) (hck:CY G D st li rv) (hmz:Io st li rv) (hb:G b=some (jl D b v n).2)
  (e:Int) (h:jJ) (p d l:aj) (hh:mF G h p d l) (hz:pR h≤4294967296) :
  Calls prog 67 #[(aK b 0),vi e,Dw h p d l] w0 (bR w0 G fun u G'=>u=vi (gB (aN st li rv) e h)):=by
 obtain ⟨pA,pc,rfl,-,-,-⟩:=hh.props.slice;obtain ⟨dA,dc,rfl,-,-,-⟩:=hh.bU.slice;obtain ⟨lA,lc,rfl,-,-,-⟩:=hh.layers.slice;have hml:maxLen=9223372036854775807:=rfl;have hzz:=CP h;have hz1:=nM (h.props.map jq.dat);have hz2:=nM (h.marks.bU.map kK.dat);have hz3:=nM (h.marks.layers.map ku.dat)
 simp only [bZ] at hh hz1 hz2 hz3 ⊢
 generalize pR h=zz at hz hzz
 refine eN [(0,_),(1,_),(2,_)] func67 rfl ntmps67 rfl rfl hG ?_;intro a H;refine dz (fun _ K1=>?_);refine eU (cs:=[_,_,_,_,_]) H wn rfl rfl rfl ?_;clear H;intro b5 a w hb5 H;refine kH H (ak K1 rfl (SQ fun _ K2=>SQ fun _ K3=>?_));clear H K1;intro a H;obtain ⟨Ga,hma,zP,H⟩:=H.fD;replace hck:=hck.mono hma;replace hb:=hma _ _ hb;replace hh:=hh.mono hma
 have UE:aH Ga b5 0=some (.slice pA h.props.length pc):=by unfold aH;rw [zP];rfl
 have UG:∀ (j:Nat) (u:aj),[vi h.marks.ins,vi h.marks.move,.slice dA h.marks.bU.length dc,.slice lA h.marks.layers.length lc][j]?=some u→aH Ga b5 (1+j)=some u:=by
  intro j u hj
  unfold aH;rw [zP]
  match j,hj with
  | 0,hj=>exact hj
  | 1,hj=>exact hj
  | 2,hj=>exact hj
  | 3,hj=>exact hj
  | n+4,hj=>simp at hj
 refine kP H (SC (Rm rfl (Rf yH rfl (Rg vN rfl UE ?_))));clear H;intro a H;refine s_call TW H wn rfl (FP (Xw _ _ H.ro e h.props _ hh.props)) rfl ?_;clear H;rintro v19 _ a w ⟨⟨_,rfl⟩,rfl⟩ - H;refine kH H (aM K3 rfl (SR fun _ K4=>Rm rfl (Rc rfl (Kz K4 (Cd rfl ?_ ?_))))) <;> clear H K3 K4
 ·intro h21 a H
  try have oV:=dT h21
  refine aO (fun _ K5=>?_);have hE:=abH (C:=aN st li rv) (e:=e) (h:=h) oV;exact kP H (SC (Rm rfl (aM K5 rfl (LR results67 rfl fun H=>H.rt (by rw [hE])))))
 intro h21 a H
 try have oV:=dF h21
 have e1:jf e h.props=0:=by simpa using oV
 refine kP H (Kc K2 (SQ fun _ K6=>SR fun _ K7=>ak K7 rfl (SB ?_)));clear H K2 K7;intro a H;skip;refine fH (ι:=Nat × GH) (Tc:=[(0,_),(1,_),(5,_)]) (Lc:=[]) (fun gh=>[(8,vi gh.1)]) (fun gh=>[]) (fun gh=>gh.2) (fun gh=>gh.1≤h.props.length∧bV ((h.props.map fun p=>lT st (li.map eT.id) p.key p.value).drop gh.1)=yZ (aN st li rv) h.props∧∀ b o,Ga b=some o→gh.2 b=some o) (fun gh=>h.props.length - gh.1) ((0,Ga)) (by exact (H).sub ⟨rfl,rfl,rfl,rfl,av⟩) ?_ ?_
 ·exact ⟨iK _,rfl,fun _ _ h=>h⟩
 clear H;intro gh a w hI H;obtain ⟨k,g⟩:=gh;dsimp only at hI H;obtain ⟨hk,heq,hgm⟩:=hI;have UF:=aF hgm UE;have hh':=hh.mono hgm;dsimp only [lca,aS] at H;refine kP H (SQ fun _ K8=>SR fun _ K9=>Rm rfl (Rf yH rfl (Rg vN rfl UF (Rl oh rfl (Rc rfl (Kz K9 (Cd rfl ?_ ?_))))))) <;> clear H K9
 ·intro h27 a H
  try have p27:=dT h27
  have hk2:k < h.props.length:=by omega
  obtain ⟨xb,xo,rfl,hrow⟩:=OI hh'.props hk2;have r0:=hrow 0 _ rfl;have r1:=hrow 1 _ rfl;refine kP H (Kc K8 (SQ fun _ aZ=>SB (SQ fun _ bN=>?_)));clear H K8;intro a H;refine dI hmx [[],[],[1],[],[1,2,3],(ra 1 4),(ra 1 5),[],[7],[],[7,8,9],(ra 7 4),(ra 7 5),(ra 0 13),(ra 0 14)] [14] (by kernel_rfl) [_,_,_,_,_,_,_,_,_,_,_,_,_,vi (lT st (li.map eT.id) h.props[k].key h.props[k].value)] H (aG (Z0 rfl (Rm rfl)) (Z0 rfl (Rf yH rfl)) (X1 1 31 rfl fun hG=>Rg vN rfl (aF hG UF)) (Z0 rfl (Rm rfl)) (aG (Z2 2 32 3 33 rfl (Ri oh oZ rfl rfl)) (Z1 4 34 rfl (Rf yJ rfl)) (X1 5 35 rfl fun hG=>Rg aD rfl (aF hG r0)) (Z0 rfl (Rf yH rfl)) (aG (X1 7 37 rfl fun hG=>Rg vN rfl (aF hG UF)) (Z0 rfl (Rm rfl)) (Z2 8 38 9 39 rfl (Ri oh oZ rfl rfl)) (Z1 10 40 rfl (Rf Us rfl)) (bG (X1 11 41 rfl fun hG=>Rg aD rfl (aF hG r1)) (bG ?_ (bG (cZ rfl) dU)))))) ?_
  ·refine sW 0 30 6 36 12 42 rfl rfl fun _ a w G1 hG HT H fin=>?_;refine s_call Na H wn rfl (Ow _ _ H.ro D st li rv b v n ((hck.mono hgm).mono hG) hmz (hG _ _ (hgm _ _ hb)) h.props[k].key h.props[k].value) rfl ?_;clear H;rintro v43 CV a w ⟨rfl,-⟩ akK H;exact fin H akK (rfl)
  clear H;intro a w G Nw H hv;have H:=H.aU (hv 13 43 rfl rfl) rfl;clear hv;refine kH H (Ra rfl ?_);clear H;intro a H;refine aI ⟨rfl,?_⟩;refine bN _ _ ?_;clear bN;refine kP H (SR fun _ bQ=>Rm rfl (Rc rfl (Kz bQ (Cd rfl ?_ ?_)))) <;> clear H bQ
  ·intro h45 a H
   try have p45:=dT h45
   refine aO (fun _ bT=>?_)
   have hr:yZ (aN st li rv) h.props=lT st (li.map eT.id) h.props[k].key h.props[k].value:=by rw [← heq];exact (RI (C:=aN st li rv) hk2).trans (au p45)
   have hE:=(abI (C:=aN st li rv) (e:=e) (h:=h) e1 (by rw [hr];exact p45)).trans hr;exact kP H (SC (Rm rfl (aM bT rfl (LR results67 rfl fun H=>H.rt (by rw [hE])))))
  intro h45 a H
  try have p45:=dF h45
  refine kP H (Kc aZ (SC (Rm rfl (Rd rfl (Ra rfl ?_)))));clear H aZ;intro a H;refine aI ?_;refine dP ((k+1,G)) (by exact (H).sub ⟨rfl,rfl,rfl,rfl,av⟩) ?_ ?_
  ·(try dsimp only);exact ⟨by omega,by rw [RI (C:=aN st li rv) hk2,ah (by simpa using p45)] at heq;exact heq,fun b o h=>Nw b o (hgm b o h)⟩
  first|omega|(dsimp only;omega)
 intro h27 a H
 try have p27:=dF h27
 refine eD ?_;refine K6 _ _ ?_;clear K6;refine aO (fun _ cu=>?_)
 have e2:yZ (aN st li rv) h.props=0:=by rw [← heq,gy (by rw [bZ];omega)];rfl
 refine kP H (SC (Rf pG rfl ?_));clear H;intro a H;refine bD Bp (cs:=[vi h.marks.ins,vi h.marks.move,.slice dA h.marks.bU.length dc,.slice lA h.marks.layers.length lc]) H wn rfl rfl (fun j v hj=>H.hp.aH (aF hgm (UG j v hj))) rfl ?_;clear H;intro a H;refine dR Bp H wn rfl ?_;clear H;intro b10 a w KP H;refine bO Bp 0 (vs:=[_,_,_,_]) _ H wn rfl rfl rfl rfl rfl rfl rfl rfl ?_;clear H;intro w H;dsimp only [List.set,setRow] at H;obtain ⟨Gb,hmb,Qu,H⟩:=H.fD;have hgb:∀ b o,Ga b=some o→Gb b=some o:=fun b o h=>hmb b o (hgm b o h);replace hck:=hck.mono hgb;replace hb:=hgb _ _ hb;replace hh:=hh.mono hgb
 have q0:aH Gb b10 0=some (vi h.marks.ins):=by unfold aH;rw [Qu];rfl
 have q1:aH Gb b10 1=some (vi h.marks.move):=by unfold aH;rw [Qu];rfl
 have q2:aH Gb b10 2=some (.slice dA h.marks.bU.length dc):=by unfold aH;rw [Qu];rfl
 have q3:aH Gb b10 3=some (.slice lA h.marks.layers.length lc):=by unfold aH;rw [Qu];rfl
 refine aI ?_;refine cu _ _ ?_;clear cu;refine oO (ι:=Unit) (Tc:=[(0,_),(1,_),(10,_)]) (Lc:=[]) (fun gh=>[]) (fun gh=>[]) (fun gh=>Gb) (fun gh=>gI (aN st li rv) h.marks=0) (by exact (H).sub ⟨rfl,rfl,rfl,av⟩) ?_ ?_
 ·skip;refine kP H (SB (SR fun _ dL=>Rf vg rfl (Rg aD rfl q0 (Rc rfl (Rm rfl (Sp 53 rfl ?_ ?_)))))) <;> clear H
  ·intro gV a H
   try have p53:=dT gV
   refine kH H (YM gV rfl (YF vg gV rfl (YR aD gV rfl q0 ?_)));clear H;intro a H;refine s_call TM H (wg H rfl rfl gV) rfl (WV _ _ H.ro D st li rv b v n hck hmz hb h.marks.ins) rfl ?_;clear H;rintro v57 _ a w ⟨rfl,rfl⟩ - H;refine kH H (YN gV rfl (Pt gV rfl (ak dL rfl (Cd rfl ?_ ?_)))) <;> clear H dL
   ·intro qI a H
    try have p49:=dT qI
    refine aO (fun _ dO=>?_);have e3:gI (aN st li rv) h.marks=22:=au (by first|(simp_all;done)|exact ⟨p52,by simpa using qI⟩);have hE:=(sI (C:=aN st li rv) (e:=e) (h:=h) e1 e2 (by rw [e3];decide)).trans e3;exact kP H (SC (aM dO rfl (LR results67 rfl fun H=>H.rt (by rw [hE]))))
   intro qI a H
   try have p49:=dF qI
   refine aO (fun _ dJ=>?_)
   have hno:¬ (h.marks.ins≠0∧h.marks.ins∉(aN st li rv).DY):=by first|(simp_all;done)|exact fun h=>p52 h.1
   refine kP H (SC (Rf wV rfl (Rg aD rfl q1 (Rc rfl (Rm rfl (Sp 64 rfl ?_ ?_)))))) <;> clear H
   ·intro h64 a H
    try have p64:=dT h64
    refine kH H (aT h64 rfl (Pt h64 rfl (Rm rfl (aP rfl rfl (aP rfl rfl (Ku rfl (Ku rfl (Ku rfl (Ks rfl rfl (Pt rfl rfl (aM dJ rfl (Ct rfl rfl (SQ fun _ dW=>?_)))))))))))));clear H dJ;intro a H
    have e3:gI (aN st li rv) h.marks=21:=by unfold gI;rw [ah hno,au (by first|(simp_all;done)|(simp_all;omega)|omega)]
    have hE:=(sI (C:=aN st li rv) (e:=e) (h:=h) e1 e2 (by rw [e3];decide)).trans e3;exact kP H (SC (aM dW rfl (LR results67 rfl fun H=>H.rt (by rw [hE]))))
   intro h64 a H
   try have p64:=dF h64
   refine kH H (YF wV h64 rfl (YR aD h64 rfl q1 (YC h64 rfl (Pf h64 rfl (Rm rfl (Sp 69 rfl ?_ ?_)))))) <;> clear H
   ·intro iq a H
    try have p69:=dT iq
    refine kH H (aP iq rfl (aP iq rfl (Ku rfl (Ku rfl (Ku rfl (Ks iq rfl (Pt iq rfl (aM dJ rfl (Ct rfl rfl (SQ fun _ eG=>?_))))))))));clear H dJ;intro a H
    have e3:gI (aN st li rv) h.marks=21:=by unfold gI;rw [ah hno,au (by first|(simp_all;done)|(simp_all;omega)|omega)]
    have hE:=(sI (C:=aN st li rv) (e:=e) (h:=h) e1 e2 (by rw [e3];decide)).trans e3;exact kP H (SC (aM eG rfl (LR results67 rfl fun H=>H.rt (by rw [hE]))))
   intro iq a H
   try have p69:=dF iq
   refine kH H (YF wV iq rfl (YR aD iq rfl q1 (YC iq rfl (YM iq rfl (Sp 73 rfl ?_ ?_))))) <;> clear H
   ·intro lM a H
    try have p73:=dT lM
    refine kH H (YF vg lM rfl (YR aD lM rfl q0 (YC lM rfl (PT iq lM rfl (Pf iq rfl (aM dJ rfl (Cd rfl ?_ ?_))))))) <;> clear H dJ
    ·intro fU a H
     try have p60:=dT fU
     refine aO (fun _ eB=>?_)
     have e3:gI (aN st li rv) h.marks=21:=by unfold gI;rw [ah hno,au (by first|(simp_all;done)|(simp_all;omega)|omega)]
     have hE:=(sI (C:=aN st li rv) (e:=e) (h:=h) e1 e2 (by rw [e3];decide)).trans e3;exact kP H (SC (aM eB rfl (LR results67 rfl fun H=>H.rt (by rw [hE]))))
    intro fU a H
    try have p60:=dF fU
    refine aO (fun _ eH=>?_)
    have hn2:¬ (¬ (0≤h.marks.move∧h.marks.move≤1073741824)∨(h.marks.move≠0∧h.marks.ins=0)):=by first|(simp_all;done)|(simp_all;omega)|omega
    refine kP H (SC (Rf mV rfl (Rg mY rfl q2 (Rl lF rfl (Rc rfl (aM eH rfl (Cd rfl ?_ ?_))))))) <;> clear H eH
    ·intro jw a H
     refine aO (fun _ fO=>?_)
     have e3:gI (aN st li rv) h.marks=9:=by unfold gI;rw [ah hno,ah hn2,au (by simpa using jw)]
     have hE:=(sI (C:=aN st li rv) (e:=e) (h:=h) e1 e2 (by rw [e3];decide)).trans e3;exact kP H (SC (aM fO rfl (LR results67 rfl fun H=>H.rt (by rw [hE]))))
    intro jw a H
    have e3:gI (aN st li rv) h.marks=0:=by unfold gI;rw [ah hno,ah hn2,ah (by simpa using jw)]
    refine fI ?_;refine ⟨(),by exact (H).sub ⟨rfl,rfl,rfl,av⟩,?_⟩;exact e3
   intro lM a H
   try have p73:=dF lM
   refine kH H (aT lM rfl (PF iq lM rfl (Pf iq rfl (aM dJ rfl (Cf rfl rfl (SQ fun _ gJ=>?_))))));clear H dJ;intro a H
   have hn2:¬ (¬ (0≤h.marks.move∧h.marks.move≤1073741824)∨(h.marks.move≠0∧h.marks.ins=0)):=by first|(simp_all;done)|(simp_all;omega)|omega
   refine kP H (SC (Rf mV rfl (Rg mY rfl q2 (Rl lF rfl (Rc rfl (aM gJ rfl (Cd rfl ?_ ?_))))))) <;> clear H gJ
   ·intro jw a H
    refine aO (fun _ gT=>?_)
    have e3:gI (aN st li rv) h.marks=9:=by unfold gI;rw [ah hno,ah hn2,au (by simpa using jw)]
    have hE:=(sI (C:=aN st li rv) (e:=e) (h:=h) e1 e2 (by rw [e3];decide)).trans e3;exact kP H (SC (aM gT rfl (LR results67 rfl fun H=>H.rt (by rw [hE]))))
   intro jw a H
   have e3:gI (aN st li rv) h.marks=0:=by unfold gI;rw [ah hno,ah hn2,ah (by simpa using jw)]
   refine fI ?_;refine ⟨(),by exact (H).sub ⟨rfl,rfl,rfl,av⟩,?_⟩;exact e3
  intro gV a H
  try have p53:=dF gV
  refine kH H (aT gV rfl (aP gV rfl (Pf gV rfl (ak dL rfl (Cf rfl rfl (SQ fun _ gM=>?_))))));clear H dL;intro a H
  have hno:¬ (h.marks.ins≠0∧h.marks.ins∉(aN st li rv).DY):=by first|(simp_all;done)|exact fun h=>p52 h.1
  refine kP H (SC (Rf wV rfl (Rg aD rfl q1 (Rc rfl (Rm rfl (Sp 64 rfl ?_ ?_)))))) <;> clear H
  ·intro h64 a H
   try have p64:=dT h64
   refine kH H (aT h64 rfl (Pt h64 rfl (Rm rfl (aP rfl rfl (aP rfl rfl (Ku rfl (Ku rfl (Ku rfl (Ks rfl rfl (Pt rfl rfl (aM gM rfl (Ct rfl rfl (SQ fun _ jh=>?_)))))))))))));clear H gM;intro a H
   have e3:gI (aN st li rv) h.marks=21:=by unfold gI;rw [ah hno,au (by first|(simp_all;done)|(simp_all;omega)|omega)]
   have hE:=(sI (C:=aN st li rv) (e:=e) (h:=h) e1 e2 (by rw [e3];decide)).trans e3;exact kP H (SC (aM jh rfl (LR results67 rfl fun H=>H.rt (by rw [hE]))))
  intro h64 a H
  try have p64:=dF h64
  refine kH H (YF wV h64 rfl (YR aD h64 rfl q1 (YC h64 rfl (Pf h64 rfl (Rm rfl (Sp 69 rfl ?_ ?_)))))) <;> clear H
  ·intro iq a H
   try have p69:=dT iq
   refine kH H (aP iq rfl (aP iq rfl (Ku rfl (Ku rfl (Ku rfl (Ks iq rfl (Pt iq rfl (aM gM rfl (Ct rfl rfl (SQ fun _ jo=>?_))))))))));clear H gM;intro a H
   have e3:gI (aN st li rv) h.marks=21:=by unfold gI;rw [ah hno,au (by first|(simp_all;done)|(simp_all;omega)|omega)]
   have hE:=(sI (C:=aN st li rv) (e:=e) (h:=h) e1 e2 (by rw [e3];decide)).trans e3;exact kP H (SC (aM jo rfl (LR results67 rfl fun H=>H.rt (by rw [hE]))))
  intro iq a H
  try have p69:=dF iq
  refine kH H (YF wV iq rfl (YR aD iq rfl q1 (YC iq rfl (YM iq rfl (Sp 73 rfl ?_ ?_))))) <;> clear H
  ·intro lM a H
   try have p73:=dT lM
   refine kH H (YF vg lM rfl (YR aD lM rfl q0 (YC lM rfl (PT iq lM rfl (Pf iq rfl (aM gM rfl (Cd rfl ?_ ?_))))))) <;> clear H gM
   ·intro fU a H
    try have p60:=dT fU
    refine aO (fun _ iU=>?_)
    have e3:gI (aN st li rv) h.marks=21:=by unfold gI;rw [ah hno,au (by first|(simp_all;done)|(simp_all;omega)|omega)]
    have hE:=(sI (C:=aN st li rv) (e:=e) (h:=h) e1 e2 (by rw [e3];decide)).trans e3;exact kP H (SC (aM iU rfl (LR results67 rfl fun H=>H.rt (by rw [hE]))))
   intro fU a H
   try have p60:=dF fU
   refine aO (fun _ kX=>?_)
   have hn2:¬ (¬ (0≤h.marks.move∧h.marks.move≤1073741824)∨(h.marks.move≠0∧h.marks.ins=0)):=by first|(simp_all;done)|(simp_all;omega)|omega
   refine kP H (SC (Rf mV rfl (Rg mY rfl q2 (Rl lF rfl (Rc rfl (aM kX rfl (Cd rfl ?_ ?_))))))) <;> clear H kX
   ·intro jw a H
    refine aO (fun _ kY=>?_)
    have e3:gI (aN st li rv) h.marks=9:=by unfold gI;rw [ah hno,ah hn2,au (by simpa using jw)]
    have hE:=(sI (C:=aN st li rv) (e:=e) (h:=h) e1 e2 (by rw [e3];decide)).trans e3;exact kP H (SC (aM kY rfl (LR results67 rfl fun H=>H.rt (by rw [hE]))))
   intro jw a H
   have e3:gI (aN st li rv) h.marks=0:=by unfold gI;rw [ah hno,ah hn2,ah (by simpa using jw)]
   refine fI ?_;refine ⟨(),by exact (H).sub ⟨rfl,rfl,rfl,av⟩,?_⟩;exact e3
  intro lM a H
  try have p73:=dF lM
  refine kH H (aT lM rfl (PF iq lM rfl (Pf iq rfl (aM gM rfl (Cf rfl rfl (SQ fun _ jT=>?_))))));clear H gM;intro a H
  have hn2:¬ (¬ (0≤h.marks.move∧h.marks.move≤1073741824)∨(h.marks.move≠0∧h.marks.ins=0)):=by first|(simp_all;done)|(simp_all;omega)|omega
  refine kP H (SC (Rf mV rfl (Rg mY rfl q2 (Rl lF rfl (Rc rfl (aM jT rfl (Cd rfl ?_ ?_))))))) <;> clear H jT
  ·intro jw a H
   refine aO (fun _ lG=>?_)
   have e3:gI (aN st li rv) h.marks=9:=by unfold gI;rw [ah hno,ah hn2,au (by simpa using jw)]
   have hE:=(sI (C:=aN st li rv) (e:=e) (h:=h) e1 e2 (by rw [e3];decide)).trans e3;exact kP H (SC (aM lG rfl (LR results67 rfl fun H=>H.rt (by rw [hE]))))
  intro jw a H
  have e3:gI (aN st li rv) h.marks=0:=by unfold gI;rw [ah hno,ah hn2,ah (by simpa using jw)]
  refine fI ?_;refine ⟨(),by exact (H).sub ⟨rfl,rfl,rfl,av⟩,?_⟩;exact e3
 clear H;intro gh a w hI H;obtain ⟨un,hgh⟩:∃ x,x=gh:=⟨_,rfl⟩;subst hgh;have e3:=hI;dsimp only [lca,aS] at H;refine kP H (SQ fun _ lH=>SR fun _ kL=>ak kL rfl (SB ?_));clear H kL;intro a H;skip;refine fH (ι:=Nat × GH) (Tc:=[(0,_),(1,_),(10,_)]) (Lc:=[]) (fun gh=>[(11,vi gh.1)]) (fun gh=>[]) (fun gh=>gh.2) (fun gh=>gh.1≤h.marks.bU.length∧bV (((List.range h.marks.bU.length).map (uX (aN st li rv) h.marks.bU)).drop gh.1)=iQ (uX (aN st li rv) h.marks.bU) h.marks.bU.length∧(∀ b o,Gb b=some o→gh.2 b=some o)) (fun gh=>h.marks.bU.length - gh.1) ((0,Gb)) (by exact (H).sub ⟨rfl,rfl,rfl,rfl,av⟩) ?_ ?_
 ·exact ⟨iK _,rfl,fun _ _ h=>h⟩
 clear H;intro gh a w hI H;obtain ⟨k,g2⟩:=gh;dsimp only at hI H;obtain ⟨hk,heq,hgm⟩:=hI;have q2':=aF hgm q2;dsimp only [lca,aS] at H;refine kP H (SQ fun _ mQ=>SR fun _ mR=>Rm rfl (Rf mV rfl (Rg mY rfl q2' (Rl lF rfl (Rc rfl (Kz mR (Cd rfl ?_ ?_))))))) <;> clear H mR
 ·intro wo a H
  try have OD:=dT wo
  have hk2:k < h.marks.bU.length:=by omega
  have hd2:=hh.bU.mono hgm;obtain ⟨xb,xo,rfl,hrow⟩:=PW hd2 hk2
  have hk1:k - 1 < h.marks.bU.length:=by omega
  obtain ⟨b',o',he',hrow'⟩:=PW hd2 hk1
  injection he' with he'
  injection he' with M8 e2'
  subst M8;subst e2'
  have hde:uX (aN st li rv) h.marks.bU k=qb (aN st li rv) k h.marks.bU[k] h.marks.bU[k - 1].rev:=by unfold uX;rw [gD hk2,gD hk1];rfl
  have hX:∀ v,qb (aN st li rv) k h.marks.bU[k] h.marks.bU[k - 1].rev=v→v≠0→gB (aN st li rv) e h=v:=fun v h1 h2=>by
   have h4:iQ (uX (aN st li rv) h.marks.bU) h.marks.bU.length=v:=by rw [← heq,qZ hk2,hde,h1,au h2]
   exact (abJ e1 e2 e3 (by rw [h4];exact h2)).trans h4
  have hp:=hrow' 0 _ rfl;have r0:=hrow 0 _ rfl;have r1:=hrow 1 _ rfl;refine fI ?_;refine mQ _ _ ?_;clear mQ;refine aO (fun _ nD=>?_);(iterate 2 refine sw ?_);refine kP H (SR fun _ rX=>Rm rfl (Rf mV rfl (Rg mY rfl q2' (Rm rfl (Ri lF qV rfl rfl (Rf Dh rfl (Rg aD rfl r0 ?_)))))));clear H;intro a H;refine s_call TM H wn rfl (WV _ _ H.ro D st li rv b v n (hck.mono hgm) hmz (hgm _ _ hb) h.marks.bU[k].rev) rfl ?_;clear H;rintro v99 _ a w ⟨rfl,rfl⟩ - H;refine kH H (Rn rfl (ak rX rfl (Cd rfl ?_ ?_))) <;> clear H rX
  ·intro AV a H
   refine aO (fun _ wL=>?_);have hE:=hX 22 (by unfold qb;rw [au (by simpa using AV)]) (by decide);exact kP H (SC (aM wL rfl (LR results67 rfl fun H=>H.rt (by rw [hE]))))
  intro AV a H
  try have Ac:=dF AV
  have Jm:¬ (h.marks.bU[k].rev∉(aN st li rv).DY):=by simpa using AV
  refine aO (fun _ mg=>?_)
  by_cases c3:0 < (k:Int)
  ·skip
   by_cases c4:h.marks.bU[k].rev≤h.marks.bU[k - 1].rev
   ·skip;refine dI hmx [[],[0],[0,1],[0,1,2],(ra 0 4),[0,1,2],(ra 0 6),(ra 0 7),(ra 0 8),[0,1,2],[0,1,2,9],[0,1,2],[0,1,2,11],([0,1,2]++ra 9 4),([0,1,2]++ra 9 5),([0,1,2]++ra 9 6),(ra 0 16),(ra 0 17),(ra 0 18)] [18] (by kernel_rfl) [_,_,_,_,_,_,_,_,_,_,_,_,vi ((k - 1:Nat):Int),_,_,_,_,_] H (aG (Z0 rfl (Rm rfl)) (Z1 0 102 rfl (Rc rfl)) (Z1 1 103 rfl (Rm rfl)) (Z1 2 104 rfl (YF mV (aJ c3) rfl)) (aG (X2 3 105 2 104 rfl fun hG=>YR mY (aJ c3) rfl (aF hG q2')) (Z1 2 104 rfl (YM (aJ c3) rfl)) (Z3 4 106 5 107 2 104 rfl (YI lF qV (aJ c3) rfl rfl)) (Z2 6 108 2 104 rfl (YF Dh (aJ c3) rfl)) (aG (X2 7 109 2 104 rfl fun hG=>YR aD (aJ c3) rfl (aF hG r0)) (Z1 2 104 rfl (YF mV (aJ c3) rfl)) (X2 9 111 2 104 rfl fun hG=>YR mY (aJ c3) rfl (aF hG q2')) (Z1 2 104 rfl (YM (aJ c3) rfl)) (aG ?_ (Z3 10 112 12 114 2 104 rfl (YI lF qV (aJ c3) rfl rfl)) (Z2 13 115 2 104 rfl (YF Dh (aJ c3) rfl)) (X2 14 116 2 104 rfl fun hG=>YR aD (aJ c3) rfl (aF hG hp)) (bG (Z3 8 110 15 117 2 104 rfl (YC (aJ c3) rfl)) (bG (Z2 2 104 16 118 rfl (Pt (aJ c3) rfl)) (bG (cZ rfl) dU))))))) ?_
    ·refine fu 11 113 2 104 rfl rfl fun _ a w G1 hG HT H fin=>?_;refine og _ H (wg H rfl rfl (aJ c3)) rfl rfl rfl (by omega) (by omega) rfl ?_;clear H;intro a H;exact fin H iJ (by show _=_;first|rfl|exact aC vi (by omega))
    clear H;intro a w G yN H hv;have H:=H.aU (hv 17 119 rfl rfl) rfl;clear hv;refine kH H (Ra rfl ?_);clear H;intro a H;refine aI ⟨rfl,?_⟩;refine mg _ _ ?_;clear mg;refine BG H rfl (aJ c4) ?_;refine aO (fun _ zB=>?_);have hz:0 < k∧h.marks.bU[k].rev≤h.marks.bU[k - 1].rev:=⟨by omega,c4⟩;have hE:=hX 6 (by unfold qb;rw [ah Jm,au hz]) (by decide);exact kP H (SC (aM zB rfl (LR results67 rfl fun H=>H.rt (by rw [hE]))))
   skip;refine dI hmx [[],[0],[0,1],[0,1,2],(ra 0 4),[0,1,2],(ra 0 6),(ra 0 7),(ra 0 8),[0,1,2],[0,1,2,9],[0,1,2],[0,1,2,11],([0,1,2]++ra 9 4),([0,1,2]++ra 9 5),([0,1,2]++ra 9 6),(ra 0 16),(ra 0 17),(ra 0 18)] [18] (by kernel_rfl) [_,_,_,_,_,_,_,_,_,_,_,_,vi ((k - 1:Nat):Int),_,_,_,_,_] H (aG (Z0 rfl (Rm rfl)) (Z1 0 102 rfl (Rc rfl)) (Z1 1 103 rfl (Rm rfl)) (Z1 2 104 rfl (YF mV (aJ c3) rfl)) (aG (X2 3 105 2 104 rfl fun hG=>YR mY (aJ c3) rfl (aF hG q2')) (Z1 2 104 rfl (YM (aJ c3) rfl)) (Z3 4 106 5 107 2 104 rfl (YI lF qV (aJ c3) rfl rfl)) (Z2 6 108 2 104 rfl (YF Dh (aJ c3) rfl)) (aG (X2 7 109 2 104 rfl fun hG=>YR aD (aJ c3) rfl (aF hG r0)) (Z1 2 104 rfl (YF mV (aJ c3) rfl)) (X2 9 111 2 104 rfl fun hG=>YR mY (aJ c3) rfl (aF hG q2')) (Z1 2 104 rfl (YM (aJ c3) rfl)) (aG ?_ (Z3 10 112 12 114 2 104 rfl (YI lF qV (aJ c3) rfl rfl)) (Z2 13 115 2 104 rfl (YF Dh (aJ c3) rfl)) (X2 14 116 2 104 rfl fun hG=>YR aD (aJ c3) rfl (aF hG hp)) (bG (Z3 8 110 15 117 2 104 rfl (YC (aJ c3) rfl)) (bG (Z2 2 104 16 118 rfl (Pt (aJ c3) rfl)) (bG (cZ rfl) dU))))))) ?_
   ·refine fu 11 113 2 104 rfl rfl fun _ a w G1 hG HT H fin=>?_;refine og _ H (wg H rfl rfl (aJ c3)) rfl rfl rfl (by omega) (by omega) rfl ?_;clear H;intro a H;exact fin H iJ (by show _=_;first|rfl|exact aC vi (by omega))
   clear H;intro a w G yN H hv;have H:=H.aU (hv 17 119 rfl rfl) rfl;clear hv;refine kH H (Ra rfl ?_);clear H;intro a H;refine aI ⟨rfl,?_⟩;refine mg _ _ ?_;clear mg;refine nW H rfl (aR c4) ?_;refine aO (fun _ wM=>?_)
   have hz:¬ (0 < k∧h.marks.bU[k].rev≤h.marks.bU[k - 1].rev):=by first|exact fun h=>c4 h.2|exact fun h=>c3 (by omega)
   replace q2':=aF yN q2';replace r1:=aF yN r1;refine kP H (SC (Rf mV rfl (Rg mY rfl q2' (Rm rfl (Ri lF qV rfl rfl (Rf KF rfl (Rg aD rfl r1 (Rc rfl (Rm rfl (Sp 128 rfl ?_ ?_)))))))))) <;> clear H
   ·intro h128 a H
    try have EW:=dT h128
    refine kH H (aT h128 rfl (aP h128 rfl (aP h128 rfl (Pt h128 rfl (aM wM rfl (Ct rfl rfl (SQ fun _ Fx=>?_)))))));clear H wM;intro a H;have hE:=hX 21 (by unfold qb;rw [ah Jm,ah hz,au (by first|omega|(simp_all;omega))]) (by decide);exact kP H (SC (aM Fx rfl (LR results67 rfl fun H=>H.rt (by rw [hE]))))
   intro h128 a H
   try have EW:=dF h128
   refine kH H (YF mV h128 rfl (YR mY h128 rfl q2' (YM h128 rfl (YI lF qV h128 rfl rfl (YF KF h128 rfl (YR aD h128 rfl r1 (YC h128 rfl (Pf h128 rfl (aM wM rfl (Cd rfl ?_ ?_)))))))))) <;> clear H wM
   ·intro nS a H
    try have GQ:=dT nS
    refine aO (fun _ CW=>?_);have hE:=hX 21 (by unfold qb;rw [ah Jm,ah hz,au (by first|omega|(simp_all;omega))]) (by decide);exact kP H (SC (aM CW rfl (LR results67 rfl fun H=>H.rt (by rw [hE]))))
   intro nS a H
   try have GQ:=dF nS
   have Jf:qb (aN st li rv) k h.marks.bU[k] h.marks.bU[k - 1].rev=0:=by unfold qb;rw [ah Jm,ah hz,ah (by first|omega|(simp_all;omega))]
   refine kP H (Kc nD (SC (Rm rfl (Rd rfl (Ra rfl ?_)))));clear H nD;intro a H;refine aI ?_;refine dP ((k+1,G)) (by exact (H).sub ⟨rfl,rfl,rfl,rfl,av⟩) ?_ ?_
   ·(try dsimp only);exact ⟨by omega,by rw [qZ hk2,ah (by rw [hde];simpa using Jf)] at heq;exact heq,fun b o h=>yN b o (hgm b o h)⟩
   first|omega|(dsimp only;omega)
  skip;refine dI hmx [[],[0],[0,1],[0,1,2],(ra 0 4),[0,1,2],(ra 0 6),(ra 0 7),(ra 0 8),[0,1,2],[0,1,2,9],[0,1,2],[0,1,2,11],([0,1,2]++ra 9 4),([0,1,2]++ra 9 5),([0,1,2]++ra 9 6),(ra 0 16),(ra 0 17),(ra 0 18)] [18] (by kernel_rfl) [_,_,_,undef,undef,undef,undef,undef,undef,undef,undef,undef,undef,undef,undef,undef,undef,_] H (aG (Z0 rfl (Rm rfl)) (Z1 0 102 rfl (Rc rfl)) (Z1 1 103 rfl (Rm rfl)) (bg (j:=2) (by kernel_rfl) (fun _ _ _ _ _ h=>h) rfl rfl rfl rfl rfl (fun _ _ h=>bq h (aL (aR c3))) rfl (fun _=>rfl)) (aG (bg (j:=2) (by kernel_rfl) (fun _ _ _ _ _ h=>h) rfl rfl rfl rfl rfl (fun _ _ h=>bq h (aL (aR c3))) rfl (fun _=>rfl)) (bg (j:=2) (by kernel_rfl) (fun _ _ _ _ _ h=>h) rfl rfl rfl rfl rfl (fun _ _ h=>bq h (aL (aR c3))) rfl (fun _=>rfl)) (bg (j:=2) (by kernel_rfl) (fun _ _ _ _ _ h=>h) rfl rfl rfl rfl rfl (fun _ _ h=>bq h (aL (aR c3))) rfl (fun _=>rfl)) (bg (j:=2) (by kernel_rfl) (fun _ _ _ _ _ h=>h) rfl rfl rfl rfl rfl (fun _ _ h=>bq h (aL (aR c3))) rfl (fun _=>rfl)) (aG (bg (j:=2) (by kernel_rfl) (fun _ _ _ _ _ h=>h) rfl rfl rfl rfl rfl (fun _ _ h=>bq h (aL (aR c3))) rfl (fun _=>rfl)) (bg (j:=2) (by kernel_rfl) (fun _ _ _ _ _ h=>h) rfl rfl rfl rfl rfl (fun _ _ h=>bq h (aL (aR c3))) rfl (fun _=>rfl)) (bg (j:=2) (by kernel_rfl) (fun _ _ _ _ _ h=>h) rfl rfl rfl rfl rfl (fun _ _ h=>bq h (aL (aR c3))) rfl (fun _=>rfl)) (bg (j:=2) (by kernel_rfl) (fun _ _ _ _ _ h=>h) rfl rfl rfl rfl rfl (fun _ _ h=>bq h (aL (aR c3))) rfl (fun _=>rfl)) (aG (bg (j:=2) (by kernel_rfl) (fun _ _ _ _ _ h=>h) rfl rfl rfl rfl rfl (fun _ _ h=>bq h (aL (aR c3))) rfl (fun _=>rfl)) (bg (j:=2) (by kernel_rfl) (fun _ _ _ _ _ h=>h) rfl rfl rfl rfl rfl (fun _ _ h=>bq h (aL (aR c3))) rfl (fun _=>rfl)) (bg (j:=2) (by kernel_rfl) (fun _ _ _ _ _ h=>h) rfl rfl rfl rfl rfl (fun _ _ h=>bq h (aL (aR c3))) rfl (fun _=>rfl)) (bg (j:=2) (by kernel_rfl) (fun _ _ _ _ _ h=>h) rfl rfl rfl rfl rfl (fun _ _ h=>bq h (aL (aR c3))) rfl (fun _=>rfl)) (bG (bg (j:=2) (by kernel_rfl) (fun _ _ _ _ _ h=>h) rfl rfl rfl rfl rfl (fun _ _ h=>bq h (aL (aR c3))) rfl (fun _=>rfl)) (bG (Z2 2 104 16 118 rfl (Pf (aR c3) rfl)) (bG (cZ rfl) dU))))))) ?_
  clear H;intro a w G yN H hv;have H:=H.aU (hv 17 119 rfl rfl) rfl;clear hv;refine kH H (Ra rfl ?_);clear H;intro a H;refine aI ⟨rfl,?_⟩;refine mg _ _ ?_;clear mg;refine nW H rfl rfl ?_;refine aO (fun _ Bw=>?_)
  have hz:¬ (0 < k∧h.marks.bU[k].rev≤h.marks.bU[k - 1].rev):=by first|exact fun h=>c4 h.2|exact fun h=>c3 (by omega)
  replace q2':=aF yN q2';replace r1:=aF yN r1;refine kP H (SC (Rf mV rfl (Rg mY rfl q2' (Rm rfl (Ri lF qV rfl rfl (Rf KF rfl (Rg aD rfl r1 (Rc rfl (Rm rfl (Sp 128 rfl ?_ ?_)))))))))) <;> clear H
  ·intro h128 a H
   try have EW:=dT h128
   refine kH H (aT h128 rfl (aP h128 rfl (aP h128 rfl (Pt h128 rfl (aM Bw rfl (Ct rfl rfl (SQ fun _ Au=>?_)))))));clear H Bw;intro a H;have hE:=hX 21 (by unfold qb;rw [ah Jm,ah hz,au (by first|omega|(simp_all;omega))]) (by decide);exact kP H (SC (aM Au rfl (LR results67 rfl fun H=>H.rt (by rw [hE]))))
  intro h128 a H
  try have EW:=dF h128
  refine kH H (YF mV h128 rfl (YR mY h128 rfl q2' (YM h128 rfl (YI lF qV h128 rfl rfl (YF KF h128 rfl (YR aD h128 rfl r1 (YC h128 rfl (Pf h128 rfl (aM Bw rfl (Cd rfl ?_ ?_)))))))))) <;> clear H Bw
  ·intro nS a H
   try have GQ:=dT nS
   refine aO (fun _ Ea=>?_);have hE:=hX 21 (by unfold qb;rw [ah Jm,ah hz,au (by first|omega|(simp_all;omega))]) (by decide);exact kP H (SC (aM Ea rfl (LR results67 rfl fun H=>H.rt (by rw [hE]))))
  intro nS a H
  try have GQ:=dF nS
  have Jf:qb (aN st li rv) k h.marks.bU[k] h.marks.bU[k - 1].rev=0:=by unfold qb;rw [ah Jm,ah hz,ah (by first|omega|(simp_all;omega))]
  refine kP H (Kc nD (SC (Rm rfl (Rd rfl (Ra rfl ?_)))));clear H nD;intro a H;refine aI ?_;refine dP ((k+1,G)) (by exact (H).sub ⟨rfl,rfl,rfl,rfl,av⟩) ?_ ?_
  ·(try dsimp only);exact ⟨by omega,by rw [qZ hk2,ah (by rw [hde];simpa using Jf)] at heq;exact heq,fun b o h=>yN b o (hgm b o h)⟩
  first|omega|(dsimp only;omega)
 intro wo a H
 try have OD:=dF wo
 refine eD ?_;refine lH _ _ ?_;clear lH;refine aO (fun _ Eb=>?_);refine aO (fun _ CX=>?_)
 have e4:iQ (uX (aN st li rv) h.marks.bU) h.marks.bU.length=0:=by rw [← heq,gy (by simp;omega)];rfl
 replace hck:=hck.mono hgm;replace hb:=hgm _ _ hb;replace hh:=hh.mono hgm;replace q3:=aF hgm q3;refine kP H (SC (Rf vZ rfl (Rg wJ rfl q3 (Rl qy rfl (Rc rfl (Kn CX (Cd rfl ?_ ?_))))))) <;> clear H CX
 ·intro UR a H
  try have Xg:=dT UR
  refine aO (fun _ H8=>?_);have hE:=abK (C:=aN st li rv) (e:=e) (h:=h) e1 e2 e3 e4 Xg;exact kP H (SC (aM H8 rfl (LR results67 rfl fun H=>H.rt (by rw [hE]))))
 intro UR a H
 try have Xg:=dF UR
 refine kP H (Kc Eb (SQ fun _ H9=>SQ fun _ vQ=>?_));clear H Eb;intro a H;have hE:=abL (C:=aN st li rv) (e:=e) (h:=h) e1 e2 e3 e4 Xg;refine kP H (SC (aM vQ rfl (SB ?_)));clear H vQ;intro a H;skip;refine fH (ι:=Nat × GH) (Tc:=[(0,_),(1,_),(10,_)]) (Lc:=[]) (fun gh=>[(12,vi gh.1)]) (fun gh=>[]) (fun gh=>gh.2) (fun gh=>gh.1≤h.marks.layers.length∧bV (((List.range h.marks.layers.length).map (Cu (aN st li rv) e h.marks.layers)).drop gh.1)=iQ (Cu (aN st li rv) e h.marks.layers) h.marks.layers.length∧(∀ b o,g2 b=some o→gh.2 b=some o)) (fun gh=>h.marks.layers.length - gh.1) ((0,g2)) (by exact (H).sub ⟨rfl,rfl,rfl,rfl,av⟩) ?_ ?_
 ·exact ⟨iK _,rfl,fun _ _ h=>h⟩
 clear H;intro gh a w hI H;obtain ⟨k,g3⟩:=gh;dsimp only at hI H;obtain ⟨hk,uH,sK⟩:=hI;have q3':=aF sK q3;dsimp only [lca,aS] at H;refine kP H (SQ fun _ Fy=>SR fun _ Ia=>Rm rfl (Rf vZ rfl (Rg wJ rfl q3' (Rl qy rfl (Rc rfl (Kz Ia (Cd rfl ?_ ?_))))))) <;> clear H Ia
 ·intro UU a H
  try have aoF:=dT UU
  have hk2:k < h.marks.layers.length:=by omega
  have hl2:=hh.layers.mono sK;obtain ⟨xb,xo,rfl,hrow⟩:=QZ hl2 hk2
  have hk1:k - 1 < h.marks.layers.length:=by omega
  obtain ⟨b',o',he',hrow'⟩:=QZ hl2 hk1
  injection he' with he'
  injection he' with M8 e2'
  subst M8;subst e2'
  have EO:Cu (aN st li rv) e h.marks.layers k=mO (aN st li rv) e k h.marks.layers[k] h.marks.layers[k - 1].key:=by unfold Cu;rw [gD hk2,gD hk1];rfl
  have hX:∀ v,mO (aN st li rv) e k h.marks.layers[k] h.marks.layers[k - 1].key=v→v≠0→gB (aN st li rv) e h=v:=fun v h1 h2=>by rw [hE,← uH,qZ hk2,EO,h1,au h2]
  have hp:=hrow' 1 _ rfl;refine kP H (Kc Fy (SQ fun _ qB=>SB (SR fun _ Fz=>Rf vZ rfl (Rg wJ rfl q3' (Rm rfl (Ri qy um rfl rfl ?_))))));clear H Fy;intro a H;refine bD um (cs:=h.marks.layers[k].cells) H wn rfl rfl (fun j v hj=>H.hp.aH (hrow j v hj)) rfl ?_;clear H;intro a H;refine dR um H wn rfl ?_;clear H;intro b13 a w ND H;refine bO um 0 (vs:=[_,_,_,_]) _ H wn rfl rfl rfl rfl rfl rfl rfl rfl ?_;clear H;intro w H;dsimp only [List.set,setRow] at H;obtain ⟨Gc,hmc,KR,H⟩:=H.fD;have hgc:∀ b o,g2 b=some o→Gc b=some o:=fun b o h=>hmc b o (sK b o h);replace hp:=aF hmc hp;replace q3':=aF hmc q3'
  have y0:aH Gc b13 0=some (vi h.marks.layers[k].rev):=by unfold aH;rw [KR];rfl
  have y1:aH Gc b13 1=some (vi h.marks.layers[k].key):=by unfold aH;rw [KR];rfl
  have y2:aH Gc b13 2=some (vi h.marks.layers[k].before):=by unfold aH;rw [KR];rfl
  have y3:aH Gc b13 3=some (.bool h.marks.layers[k].had):=by unfold aH;rw [KR];rfl
  refine Fz _ _ ?_;clear Fz;refine kP H (SQ fun _ yu=>SB (SR fun _ FB=>Rm rfl (Rf abb rfl (Rg aD rfl y0 ?_))));clear H;intro a H;refine s_call TM H wn rfl (WV _ _ H.ro D st li rv b v n (hck.mono hgc) hmz (hgc _ _ hb) h.marks.layers[k].rev) rfl ?_;clear H;rintro v157 _ a w ⟨rfl,rfl⟩ - H;refine kH H (Rn rfl (ak FB rfl (Cd rfl ?_ ?_))) <;> clear H FB
  ·intro Ql a H
   refine aO (fun _ Ib=>?_);have hE:=hX 22 (by unfold mO;rw [au (by simpa using Ql)]) (by decide);exact kP H (SC (aM Ib rfl (LR results67 rfl fun H=>H.rt (by rw [hE]))))
  intro Ql a H
  try have atm:=dF Ql
  have AX:¬ (h.marks.layers[k].rev∉(aN st li rv).DY):=by simpa using Ql
  refine kP H (SR fun _ FC=>Rm rfl (Rf qH rfl (Rg aD rfl y1 ?_)));clear H;intro a H;refine s_call TH H wn rfl (FP (Uy _ _ H.ro e h.marks.layers[k].key)) rfl ?_;clear H;rintro atW _ a w ⟨⟨_,rfl⟩,rfl⟩ - H;refine kH H (Rn rfl (ak FC rfl (Cd rfl ?_ ?_))) <;> clear H FC
  ·intro Qm a H
   refine aO (fun _ Ic=>?_);have hE:=hX 4 (by unfold mO;rw [ah AX,au (by simpa using Qm)]) (by decide);exact kP H (SC (aM Ic rfl (LR results67 rfl fun H=>H.rt (by rw [hE]))))
  intro Qm a H
  try have ato:=dF Qm
  have Cg:¬ (BQ e h.marks.layers[k].key=false):=by simpa using Qm
  refine aO (fun _ Bz=>?_)
  by_cases c3:0 < (k:Int)
  ·skip
   by_cases c4:h.marks.layers[k].key < h.marks.layers[k - 1].key
   ·skip;refine dI hmx [[],[0],[0,1],[0,1,2],(ra 0 4),[0,1,2],[0,1,2,5],[0,1,2],[0,1,2,7],[0,1,2,5,6,7,8],[0,1,2,5,6,7,8,9],([0,1,2]++ra 5 6),(ra 0 12),(ra 0 13),(ra 0 14)] [14] (by kernel_rfl) [_,_,_,_,_,_,_,_,vi ((k - 1:Nat):Int),_,_,_,_,_] H (aG (Z0 rfl (Rm rfl)) (Z1 0 166 rfl (Rc rfl)) (Z1 1 167 rfl (Rm rfl)) (Z1 2 168 rfl (YF qH (aJ c3) rfl)) (aG (X2 3 169 2 168 rfl fun hG=>YR aD (aJ c3) rfl (aF hG y1)) (Z1 2 168 rfl (YF vZ (aJ c3) rfl)) (X2 5 171 2 168 rfl fun hG=>YR wJ (aJ c3) rfl (aF hG q3')) (Z1 2 168 rfl (YM (aJ c3) rfl)) (aG ?_ (Z3 6 172 8 174 2 168 rfl (YI qy um (aJ c3) rfl rfl)) (Z2 9 175 2 168 rfl (YF qH (aJ c3) rfl)) (X2 10 176 2 168 rfl fun hG=>YR aD (aJ c3) rfl (aF hG hp)) (bG (Z3 4 170 11 177 2 168 rfl (YC (aJ c3) rfl)) (bG (Z2 2 168 12 178 rfl (Pt (aJ c3) rfl)) (bG (cZ rfl) dU)))))) ?_
    ·refine fu 7 173 2 168 rfl rfl fun _ a w G1 hG HT H fin=>?_;refine og _ H (wg H rfl rfl (aJ c3)) rfl rfl rfl (by omega) (by omega) rfl ?_;clear H;intro a H;exact fin H iJ (by show _=_;first|rfl|exact aC vi (by omega))
    clear H;intro a w G Dt H hv;have H:=H.aU (hv 13 179 rfl rfl) rfl;clear hv;refine kH H (Ra rfl ?_);clear H;intro a H;refine aI ⟨rfl,?_⟩;refine Bz _ _ ?_;clear Bz;refine BG H rfl (aJ c4) ?_;refine aO (fun _ uO=>?_);have hz:0 < k∧h.marks.layers[k].key < h.marks.layers[k - 1].key:=⟨by omega,c4⟩;have hE:=hX 6 (by unfold mO;rw [ah AX,ah Cg,au hz]) (by decide);exact kP H (SC (aM uO rfl (LR results67 rfl fun H=>H.rt (by rw [hE]))))
   skip;refine dI hmx [[],[0],[0,1],[0,1,2],(ra 0 4),[0,1,2],[0,1,2,5],[0,1,2],[0,1,2,7],[0,1,2,5,6,7,8],[0,1,2,5,6,7,8,9],([0,1,2]++ra 5 6),(ra 0 12),(ra 0 13),(ra 0 14)] [14] (by kernel_rfl) [_,_,_,_,_,_,_,_,vi ((k - 1:Nat):Int),_,_,_,_,_] H (aG (Z0 rfl (Rm rfl)) (Z1 0 166 rfl (Rc rfl)) (Z1 1 167 rfl (Rm rfl)) (Z1 2 168 rfl (YF qH (aJ c3) rfl)) (aG (X2 3 169 2 168 rfl fun hG=>YR aD (aJ c3) rfl (aF hG y1)) (Z1 2 168 rfl (YF vZ (aJ c3) rfl)) (X2 5 171 2 168 rfl fun hG=>YR wJ (aJ c3) rfl (aF hG q3')) (Z1 2 168 rfl (YM (aJ c3) rfl)) (aG ?_ (Z3 6 172 8 174 2 168 rfl (YI qy um (aJ c3) rfl rfl)) (Z2 9 175 2 168 rfl (YF qH (aJ c3) rfl)) (X2 10 176 2 168 rfl fun hG=>YR aD (aJ c3) rfl (aF hG hp)) (bG (Z3 4 170 11 177 2 168 rfl (YC (aJ c3) rfl)) (bG (Z2 2 168 12 178 rfl (Pt (aJ c3) rfl)) (bG (cZ rfl) dU)))))) ?_
   ·refine fu 7 173 2 168 rfl rfl fun _ a w G1 hG HT H fin=>?_;refine og _ H (wg H rfl rfl (aJ c3)) rfl rfl rfl (by omega) (by omega) rfl ?_;clear H;intro a H;exact fin H iJ (by show _=_;first|rfl|exact aC vi (by omega))
   clear H;intro a w G Dt H hv;have H:=H.aU (hv 13 179 rfl rfl) rfl;clear hv;refine kH H (Ra rfl ?_);clear H;intro a H;refine aI ⟨rfl,?_⟩;refine Bz _ _ ?_;clear Bz;refine nW H rfl (aR c4) ?_;refine aO (fun _ Ec=>?_)
   have hz:¬ (0 < k∧h.marks.layers[k].key < h.marks.layers[k - 1].key):=by first|exact fun h=>c4 h.2|exact fun h=>c3 (by omega)
   replace y1:=aF Dt y1;replace y2:=aF Dt y2;replace y3:=aF Dt y3;have hge:=fun b o h=>Dt b o (hgc b o h);refine kP H (SC (Rf FX rfl (Rg nN rfl y3 (Rn rfl (Rm rfl (Sp 184 rfl ?_ ?_)))))) <;> clear H
   ·intro tL a H
    try have Xj:=dT tL
    refine kH H (YF vY tL rfl (YR aD tL rfl y2 (YC tL rfl (Pt tL rfl (aM Ec rfl (Cd rfl ?_ ?_)))))) <;> clear H Ec
    ·intro IY a H
     try have Xi:=dT IY
     refine aO (fun _ Ie=>?_);have hE:=hX 21 (by unfold mO;rw [ah AX,ah Cg,ah hz];simp_all [bS]) (by decide);exact kP H (SC (aM Ie rfl (LR results67 rfl fun H=>H.rt (by rw [hE]))))
    intro IY a H
    try have Xi:=dF IY
    refine kP H (Kc yu (SR fun _ Ig=>Rf FX rfl (Rg nN rfl y3 (Kz Ig (Cd rfl ?_ ?_))))) <;> clear H yu Ig
    ·intro xk a H
     try have JR:=dT xk
     have tX:mO (aN st li rv) e k h.marks.layers[k] h.marks.layers[k - 1].key=bV [uy h.marks.layers[k].key h.marks.layers[k].before,lT st (li.map eT.id) h.marks.layers[k].key h.marks.layers[k].before]:=by unfold mO;rw [ah AX,ah Cg,ah hz,ah (by simp_all)]
     refine kP H (SQ fun _ FD=>SR fun _ FE=>Rf qH rfl (Rg aD rfl y1 (Rf vY rfl (Rg aD rfl y2 ?_))));clear H;intro a H;refine s_call IG H wn rfl (FP (Ir _ _ H.ro h.marks.layers[k].key h.marks.layers[k].before)) rfl ?_;clear H;rintro Yf _ a w ⟨⟨_,rfl⟩,rfl⟩ - H;refine kH H (ak FE rfl (SR fun _ FH=>Rm rfl (Rc rfl (Kz FH (Cd rfl ?_ ?_))))) <;> clear H FE FH
     ·intro xq a H
      try have ug:=dT xq
      refine aO (fun _ Kh=>?_);have hE:=hX _ (tX.trans (wW ug)) ug;exact kP H (SC (Rm rfl (aM Kh rfl (LR results67 rfl fun H=>H.rt (by rw [hE])))))
     intro xq a H
     try have ug:=dF xq
     rw [jv (gF.1 ug),Dl] at tX;refine kP H (Kc FD (SR fun _ Ih=>Rm rfl (Rf qH rfl (Rg aD rfl y1 (Rf vY rfl (Rg aD rfl y2 ?_))))));clear H FD;intro a H;refine s_call Na H wn rfl (Ow _ _ H.ro D st li rv b v n (hck.mono hge) hmz (hge _ _ hb) h.marks.layers[k].key h.marks.layers[k].before) rfl ?_;clear H;rintro Yg _ a w ⟨rfl,rfl⟩ - H;refine kH H (ak Ih rfl (SR fun _ Mx=>Rm rfl (Rc rfl (Kz Mx (Cd rfl ?_ ?_))))) <;> clear H Ih Mx
     ·intro xu a H
      try have xO:=dT xu
      refine aO (fun _ Pk=>?_);have hE:=hX _ tX xO;exact kP H (SC (Rm rfl (aM Pk rfl (LR results67 rfl fun H=>H.rt (by rw [hE])))))
     intro xu a H
     try have xO:=dF xu
     have xH:=tX.trans (gF.1 xO);have tT:=hge;refine kP H (Kc qB (SC (Rm rfl (Rd rfl (Ra rfl ?_)))));clear H qB;intro a H;refine aI ?_;refine dP ((k+1,G)) (by exact (H).sub ⟨rfl,rfl,rfl,rfl,av⟩) ?_ ?_
     ·(try dsimp only);exact ⟨by omega,by rw [qZ hk2,ah (by rw [EO];simpa using xH)] at uH;exact uH,tT⟩
     first|omega|(dsimp only;omega)
    intro xk a H
    try have JR:=dF xk
    have xH:mO (aN st li rv) e k h.marks.layers[k] h.marks.layers[k - 1].key=0:=by unfold mO;rw [ah AX,ah Cg,ah hz];simp_all [bS]
    have tT:=hge;refine kP H (Kc qB (SC (Rm rfl (Rd rfl (Ra rfl ?_)))));clear H qB;intro a H;refine aI ?_;refine dP ((k+1,G)) (by exact (H).sub ⟨rfl,rfl,rfl,rfl,av⟩) ?_ ?_
    ·(try dsimp only);exact ⟨by omega,by rw [qZ hk2,ah (by rw [EO];simpa using xH)] at uH;exact uH,tT⟩
    first|omega|(dsimp only;omega)
   intro tL a H
   try have Xj:=dF tL
   refine kH H (aT tL rfl (Pf tL rfl (aM Ec rfl (Cf rfl rfl (Kc yu (SR fun _ YV=>Rf FX rfl (Rg nN rfl y3 (Kz YV (Cd rfl ?_ ?_))))))))) <;> clear H Ec yu YV
   ·intro xk a H
    try have JR:=dT xk
    have tX:mO (aN st li rv) e k h.marks.layers[k] h.marks.layers[k - 1].key=bV [uy h.marks.layers[k].key h.marks.layers[k].before,lT st (li.map eT.id) h.marks.layers[k].key h.marks.layers[k].before]:=by unfold mO;rw [ah AX,ah Cg,ah hz,ah (by simp_all)]
    refine kP H (SQ fun _ YW=>SR fun _ YX=>Rf qH rfl (Rg aD rfl y1 (Rf vY rfl (Rg aD rfl y2 ?_))));clear H;intro a H;refine s_call IG H wn rfl (FP (Ir _ _ H.ro h.marks.layers[k].key h.marks.layers[k].before)) rfl ?_;clear H;rintro Yf _ a w ⟨⟨_,rfl⟩,rfl⟩ - H;refine kH H (ak YX rfl (SR fun _ YZ=>Rm rfl (Rc rfl (Kz YZ (Cd rfl ?_ ?_))))) <;> clear H YX YZ
    ·intro xq a H
     try have ug:=dT xq
     refine aO (fun _ K78=>?_);have hE:=hX _ (tX.trans (wW ug)) ug;exact kP H (SC (Rm rfl (aM K78 rfl (LR results67 rfl fun H=>H.rt (by rw [hE])))))
    intro xq a H
    try have ug:=dF xq
    rw [jv (gF.1 ug),Dl] at tX;refine kP H (Kc YW (SR fun _ Y0=>Rm rfl (Rf qH rfl (Rg aD rfl y1 (Rf vY rfl (Rg aD rfl y2 ?_))))));clear H YW;intro a H;refine s_call Na H wn rfl (Ow _ _ H.ro D st li rv b v n (hck.mono hge) hmz (hge _ _ hb) h.marks.layers[k].key h.marks.layers[k].before) rfl ?_;clear H;rintro Yg _ a w ⟨rfl,rfl⟩ - H;refine kH H (ak Y0 rfl (SR fun _ Y1=>Rm rfl (Rc rfl (Kz Y1 (Cd rfl ?_ ?_))))) <;> clear H Y0 Y1
    ·intro xu a H
     try have xO:=dT xu
     refine aO (fun _ K81=>?_);have hE:=hX _ tX xO;exact kP H (SC (Rm rfl (aM K81 rfl (LR results67 rfl fun H=>H.rt (by rw [hE])))))
    intro xu a H
    try have xO:=dF xu
    have xH:=tX.trans (gF.1 xO);have tT:=hge;refine kP H (Kc qB (SC (Rm rfl (Rd rfl (Ra rfl ?_)))));clear H qB;intro a H;refine aI ?_;refine dP ((k+1,G)) (by exact (H).sub ⟨rfl,rfl,rfl,rfl,av⟩) ?_ ?_
    ·(try dsimp only);exact ⟨by omega,by rw [qZ hk2,ah (by rw [EO];simpa using xH)] at uH;exact uH,tT⟩
    first|omega|(dsimp only;omega)
   intro xk a H
   try have JR:=dF xk
   have xH:mO (aN st li rv) e k h.marks.layers[k] h.marks.layers[k - 1].key=0:=by unfold mO;rw [ah AX,ah Cg,ah hz];simp_all [bS]
   have tT:=hge;refine kP H (Kc qB (SC (Rm rfl (Rd rfl (Ra rfl ?_)))));clear H qB;intro a H;refine aI ?_;refine dP ((k+1,G)) (by exact (H).sub ⟨rfl,rfl,rfl,rfl,av⟩) ?_ ?_
   ·(try dsimp only);exact ⟨by omega,by rw [qZ hk2,ah (by rw [EO];simpa using xH)] at uH;exact uH,tT⟩
   first|omega|(dsimp only;omega)
  skip;refine dI hmx [[],[0],[0,1],[0,1,2],(ra 0 4),[0,1,2],[0,1,2,5],[0,1,2],[0,1,2,7],[0,1,2,5,6,7,8],[0,1,2,5,6,7,8,9],([0,1,2]++ra 5 6),(ra 0 12),(ra 0 13),(ra 0 14)] [14] (by kernel_rfl) [_,_,_,undef,undef,undef,undef,undef,undef,undef,undef,undef,undef,_] H (aG (Z0 rfl (Rm rfl)) (Z1 0 166 rfl (Rc rfl)) (Z1 1 167 rfl (Rm rfl)) (bg (j:=2) (by kernel_rfl) (fun _ _ _ _ _ h=>h) rfl rfl rfl rfl rfl (fun _ _ h=>bq h (aL (aR c3))) rfl (fun _=>rfl)) (aG (bg (j:=2) (by kernel_rfl) (fun _ _ _ _ _ h=>h) rfl rfl rfl rfl rfl (fun _ _ h=>bq h (aL (aR c3))) rfl (fun _=>rfl)) (bg (j:=2) (by kernel_rfl) (fun _ _ _ _ _ h=>h) rfl rfl rfl rfl rfl (fun _ _ h=>bq h (aL (aR c3))) rfl (fun _=>rfl)) (bg (j:=2) (by kernel_rfl) (fun _ _ _ _ _ h=>h) rfl rfl rfl rfl rfl (fun _ _ h=>bq h (aL (aR c3))) rfl (fun _=>rfl)) (bg (j:=2) (by kernel_rfl) (fun _ _ _ _ _ h=>h) rfl rfl rfl rfl rfl (fun _ _ h=>bq h (aL (aR c3))) rfl (fun _=>rfl)) (aG (bg (j:=2) (by kernel_rfl) (fun _ _ _ _ _ h=>h) rfl rfl rfl rfl rfl (fun _ _ h=>bq h (aL (aR c3))) rfl (fun _=>rfl)) (bg (j:=2) (by kernel_rfl) (fun _ _ _ _ _ h=>h) rfl rfl rfl rfl rfl (fun _ _ h=>bq h (aL (aR c3))) rfl (fun _=>rfl)) (bg (j:=2) (by kernel_rfl) (fun _ _ _ _ _ h=>h) rfl rfl rfl rfl rfl (fun _ _ h=>bq h (aL (aR c3))) rfl (fun _=>rfl)) (bg (j:=2) (by kernel_rfl) (fun _ _ _ _ _ h=>h) rfl rfl rfl rfl rfl (fun _ _ h=>bq h (aL (aR c3))) rfl (fun _=>rfl)) (bG (bg (j:=2) (by kernel_rfl) (fun _ _ _ _ _ h=>h) rfl rfl rfl rfl rfl (fun _ _ h=>bq h (aL (aR c3))) rfl (fun _=>rfl)) (bG (Z2 2 168 12 178 rfl (Pf (aR c3) rfl)) (bG (cZ rfl) dU)))))) ?_
  clear H;intro a w G Dt H hv;have H:=H.aU (hv 13 179 rfl rfl) rfl;clear hv;refine kH H (Ra rfl ?_);clear H;intro a H;refine aI ⟨rfl,?_⟩;refine Bz _ _ ?_;clear Bz;refine nW H rfl rfl ?_;refine aO (fun _ Pm=>?_)
  have hz:¬ (0 < k∧h.marks.layers[k].key < h.marks.layers[k - 1].key):=by first|exact fun h=>c4 h.2|exact fun h=>c3 (by omega)
  replace y1:=aF Dt y1;replace y2:=aF Dt y2;replace y3:=aF Dt y3;have hge:=fun b o h=>Dt b o (hgc b o h);refine kP H (SC (Rf FX rfl (Rg nN rfl y3 (Rn rfl (Rm rfl (Sp 184 rfl ?_ ?_)))))) <;> clear H
  ·intro tL a H
   try have Xj:=dT tL
   refine kH H (YF vY tL rfl (YR aD tL rfl y2 (YC tL rfl (Pt tL rfl (aM Pm rfl (Cd rfl ?_ ?_)))))) <;> clear H Pm
   ·intro IY a H
    try have Xi:=dT IY
    refine aO (fun _ K83=>?_);have hE:=hX 21 (by unfold mO;rw [ah AX,ah Cg,ah hz];simp_all [bS]) (by decide);exact kP H (SC (aM K83 rfl (LR results67 rfl fun H=>H.rt (by rw [hE]))))
   intro IY a H
   try have Xi:=dF IY
   refine kP H (Kc yu (SR fun _ Y2=>Rf FX rfl (Rg nN rfl y3 (Kz Y2 (Cd rfl ?_ ?_))))) <;> clear H yu Y2
   ·intro xk a H
    try have JR:=dT xk
    have tX:mO (aN st li rv) e k h.marks.layers[k] h.marks.layers[k - 1].key=bV [uy h.marks.layers[k].key h.marks.layers[k].before,lT st (li.map eT.id) h.marks.layers[k].key h.marks.layers[k].before]:=by unfold mO;rw [ah AX,ah Cg,ah hz,ah (by simp_all)]
    refine kP H (SQ fun _ Y3=>SR fun _ Y4=>Rf qH rfl (Rg aD rfl y1 (Rf vY rfl (Rg aD rfl y2 ?_))));clear H;intro a H;refine s_call IG H wn rfl (FP (Ir _ _ H.ro h.marks.layers[k].key h.marks.layers[k].before)) rfl ?_;clear H;rintro Yf _ a w ⟨⟨_,rfl⟩,rfl⟩ - H;refine kH H (ak Y4 rfl (SR fun _ Y5=>Rm rfl (Rc rfl (Kz Y5 (Cd rfl ?_ ?_))))) <;> clear H Y4 Y5
    ·intro xq a H
     try have ug:=dT xq
     refine aO (fun _ K88=>?_);have hE:=hX _ (tX.trans (wW ug)) ug;exact kP H (SC (Rm rfl (aM K88 rfl (LR results67 rfl fun H=>H.rt (by rw [hE])))))
    intro xq a H
    try have ug:=dF xq
    rw [jv (gF.1 ug),Dl] at tX;refine kP H (Kc Y3 (SR fun _ Y6=>Rm rfl (Rf qH rfl (Rg aD rfl y1 (Rf vY rfl (Rg aD rfl y2 ?_))))));clear H Y3;intro a H;refine s_call Na H wn rfl (Ow _ _ H.ro D st li rv b v n (hck.mono hge) hmz (hge _ _ hb) h.marks.layers[k].key h.marks.layers[k].before) rfl ?_;clear H;rintro Yg _ a w ⟨rfl,rfl⟩ - H;refine kH H (ak Y6 rfl (SR fun _ Y7=>Rm rfl (Rc rfl (Kz Y7 (Cd rfl ?_ ?_))))) <;> clear H Y6 Y7
    ·intro xu a H
     try have xO:=dT xu
     refine aO (fun _ K91=>?_);have hE:=hX _ tX xO;exact kP H (SC (Rm rfl (aM K91 rfl (LR results67 rfl fun H=>H.rt (by rw [hE])))))
    intro xu a H
    try have xO:=dF xu
    have xH:=tX.trans (gF.1 xO);have tT:=hge;refine kP H (Kc qB (SC (Rm rfl (Rd rfl (Ra rfl ?_)))));clear H qB;intro a H;refine aI ?_;refine dP ((k+1,G)) (by exact (H).sub ⟨rfl,rfl,rfl,rfl,av⟩) ?_ ?_
    ·(try dsimp only);exact ⟨by omega,by rw [qZ hk2,ah (by rw [EO];simpa using xH)] at uH;exact uH,tT⟩
    first|omega|(dsimp only;omega)
   intro xk a H
   try have JR:=dF xk
   have xH:mO (aN st li rv) e k h.marks.layers[k] h.marks.layers[k - 1].key=0:=by unfold mO;rw [ah AX,ah Cg,ah hz];simp_all [bS]
   have tT:=hge;refine kP H (Kc qB (SC (Rm rfl (Rd rfl (Ra rfl ?_)))));clear H qB;intro a H;refine aI ?_;refine dP ((k+1,G)) (by exact (H).sub ⟨rfl,rfl,rfl,rfl,av⟩) ?_ ?_
   ·(try dsimp only);exact ⟨by omega,by rw [qZ hk2,ah (by rw [EO];simpa using xH)] at uH;exact uH,tT⟩
   first|omega|(dsimp only;omega)
  intro tL a H
  try have Xj:=dF tL
  refine kH H (aT tL rfl (Pf tL rfl (aM Pm rfl (Cf rfl rfl (Kc yu (SR fun _ Y8=>Rf FX rfl (Rg nN rfl y3 (Kz Y8 (Cd rfl ?_ ?_))))))))) <;> clear H Pm yu Y8
  ·intro xk a H
   try have JR:=dT xk
   have tX:mO (aN st li rv) e k h.marks.layers[k] h.marks.layers[k - 1].key=bV [uy h.marks.layers[k].key h.marks.layers[k].before,lT st (li.map eT.id) h.marks.layers[k].key h.marks.layers[k].before]:=by unfold mO;rw [ah AX,ah Cg,ah hz,ah (by simp_all)]
   refine kP H (SQ fun _ Y9=>SR fun _ Za=>Rf qH rfl (Rg aD rfl y1 (Rf vY rfl (Rg aD rfl y2 ?_))));clear H;intro a H;refine s_call IG H wn rfl (FP (Ir _ _ H.ro h.marks.layers[k].key h.marks.layers[k].before)) rfl ?_;clear H;rintro Yf _ a w ⟨⟨_,rfl⟩,rfl⟩ - H;refine kH H (ak Za rfl (SR fun _ Zb=>Rm rfl (Rc rfl (Kz Zb (Cd rfl ?_ ?_))))) <;> clear H Za Zb
   ·intro xq a H
    try have ug:=dT xq
    refine aO (fun _ K96=>?_);have hE:=hX _ (tX.trans (wW ug)) ug;exact kP H (SC (Rm rfl (aM K96 rfl (LR results67 rfl fun H=>H.rt (by rw [hE])))))
   intro xq a H
   try have ug:=dF xq
   rw [jv (gF.1 ug),Dl] at tX;refine kP H (Kc Y9 (SR fun _ Zc=>Rm rfl (Rf qH rfl (Rg aD rfl y1 (Rf vY rfl (Rg aD rfl y2 ?_))))));clear H Y9;intro a H;refine s_call Na H wn rfl (Ow _ _ H.ro D st li rv b v n (hck.mono hge) hmz (hge _ _ hb) h.marks.layers[k].key h.marks.layers[k].before) rfl ?_;clear H;rintro Yg _ a w ⟨rfl,rfl⟩ - H;refine kH H (ak Zc rfl (SR fun _ Zd=>Rm rfl (Rc rfl (Kz Zd (Cd rfl ?_ ?_))))) <;> clear H Zc Zd
   ·intro xu a H
    try have xO:=dT xu
    refine aO (fun _ K99=>?_);have hE:=hX _ tX xO;exact kP H (SC (Rm rfl (aM K99 rfl (LR results67 rfl fun H=>H.rt (by rw [hE])))))
   intro xu a H
   try have xO:=dF xu
   have xH:=tX.trans (gF.1 xO);have tT:=hge;refine kP H (Kc qB (SC (Rm rfl (Rd rfl (Ra rfl ?_)))));clear H qB;intro a H;refine aI ?_;refine dP ((k+1,G)) (by exact (H).sub ⟨rfl,rfl,rfl,rfl,av⟩) ?_ ?_
   ·(try dsimp only);exact ⟨by omega,by rw [qZ hk2,ah (by rw [EO];simpa using xH)] at uH;exact uH,tT⟩
   first|omega|(dsimp only;omega)
  intro xk a H
  try have JR:=dF xk
  have xH:mO (aN st li rv) e k h.marks.layers[k] h.marks.layers[k - 1].key=0:=by unfold mO;rw [ah AX,ah Cg,ah hz];simp_all [bS]
  have tT:=hge;refine kP H (Kc qB (SC (Rm rfl (Rd rfl (Ra rfl ?_)))));clear H qB;intro a H;refine aI ?_;refine dP ((k+1,G)) (by exact (H).sub ⟨rfl,rfl,rfl,rfl,av⟩) ?_ ?_
  ·(try dsimp only);exact ⟨by omega,by rw [qZ hk2,ah (by rw [EO];simpa using xH)] at uH;exact uH,tT⟩
  first|omega|(dsimp only;omega)
 intro UU a H
 try have aoF:=dF UU
 refine eD ?_;refine H9 _ _ ?_;clear H9;refine aO (fun _ afB=>?_)
 replace hE:gB (aN st li rv) e h=0:=by rw [hE,← uH,gy (by simp;omega)];rfl
 exact kP H (SC (aM afB rfl (LR results67 rfl fun H=>H.rt (by rw [hE]))))
end
section
open Go.RowKit
def Dg (x:ay):Int:=if x.kind=4 then 3 else if x.kind=6 then 2 else if x.kind=8 then 4 else 0
theorem aaf (x:ay):decide (Dg x=0)=!BJ x:=by
 unfold Dg BJ
 by_cases h4:x.kind=4
 ·simp [h4]
 by_cases h6:x.kind=6
 ·simp [h6]
 by_cases h8:x.kind=8 <;> simp [h4,h6,h8]
theorem PU (x:ay):(decide (0 < Dg x) && (decide (x.code < 1) || decide (Dg x < x.code)))=!codeOk x:=by
 unfold Dg codeOk
 by_cases h4:x.kind=4
 ·simp only [h4,au];by_cases a:x.code < 1 <;> by_cases b:3 < x.code <;> simp [a,b] <;> omega
 by_cases h6:x.kind=6
 ·simp only [h6,au];by_cases a:x.code < 1 <;> by_cases b:2 < x.code <;> simp [a,b] <;> omega
 by_cases h8:x.kind=8
 ·simp only [h8,au];by_cases a:x.code < 1 <;> by_cases b:4 < x.code <;> simp [a,b] <;> omega
 simp [h4,h6,h8]
set_option maxHeartbeats 8000000 in
theorem anZ (G:GH) (w0:World) (hG:Hold G w0) (x:ay) (p d l:aj) (fA rA:Option Addr) (fc rc:Nat) (hs:x.text.size < 4611686018427387904) :
  Calls prog 143 #[.agg #[vi x.kind,vi x.code,vi x.id,.string x.text,p,vi x.head.marks.ins,vi x.head.marks.move,d,l,.slice fA x.flow.length fc,.slice rA x.rows.length rc]] w0 (bR w0 G fun u G'=>u=vi (jW x)∧G=G'):=by
 refine eN [(0,_)] func143 rfl ntmps143 rfl rfl hG ?_;intro a H;refine dz (fun _ K1=>?_);refine eU (cs:=[_,_,_,_,_,_,_,_,_,_,_]) H wn rfl rfl rfl ?_;clear H;intro b1 a w hb1 H;refine kH H (ak K1 rfl (SR fun _ K2=>ak K2 rfl ?_));clear H K1 K2;intro a H;refine oO (ι:=Int) (Tc:=[(1,_)]) (Lc:=[(_,_)]) (fun gh=>[(3,vi gh)]) (fun gh=>[]) (fun gh=>G) (fun gh=>gh=Dg x) (by exact (H).sub ⟨rfl,av⟩) ?_ ?_
 ·skip;refine kP H (SR fun _ K3=>aW gG aD 0 rfl rfl (Kz K3 (SB (SR fun _ K4=>Rc rfl (ak K4 rfl (Cd rfl ?_ ?_)))))) <;> clear H K3 K4
  ·intro h9 a H
   try have p9:=dT h9
   refine kP H (SC (Ra rfl ?_));clear H;intro a H;refine aI ?_;refine ⟨_,by exact (H).sub ⟨rfl,rfl,av⟩,?_⟩
   unfold Dg;first|(simp_all;done)
  intro h9 a H
  try have p9:=dF h9
  refine kP H (SR fun _ K5=>Rc rfl (ak K5 rfl (Cd rfl ?_ ?_))) <;> clear H K5
  ·intro h11 a H
   try have sN:=dT h11
   refine kP H (SC (Ra rfl ?_));clear H;intro a H;refine aI ?_;refine ⟨_,by exact (H).sub ⟨rfl,rfl,av⟩,?_⟩
   unfold Dg;first|(simp_all;done)
  intro h11 a H
  try have sN:=dF h11
  refine kP H (SR fun _ K6=>Rc rfl (ak K6 rfl (Cd rfl ?_ ?_))) <;> clear H K6
  ·intro fP a H
   try have qN:=dT fP
   refine kP H (SC (Ra rfl ?_));clear H;intro a H;refine aI ?_;refine ⟨_,by exact (H).sub ⟨rfl,rfl,av⟩,?_⟩
   unfold Dg;first|(simp_all;done)
  intro fP a H
  try have qN:=dF fP
  refine fI ?_;refine ⟨_,by exact (H).sub ⟨rfl,rfl,av⟩,?_⟩
  unfold Dg;first|(simp_all;done)
 clear H;intro gh a w hI H;obtain ⟨cs,hgh⟩:∃ x,x=gh:=⟨_,rfl⟩;subst hgh;have hcs:=hI;dsimp only [lca,aS] at H;refine dz (fun _ K7=>?_);refine oJ (ι:=Bool) (Tc:=[(1,_),(3,_)]) 8 (fun (st:Bool)=>[(22,.bool st)]) (fun (st:Bool)=>st=Bn x) (by exact H.sub ⟨rfl,rfl,av⟩) ?_ ?_
 ·intro abx;refine kH H (aW gG aD 0 rfl rfl (Rc rfl (Rm rfl (Sp 18 rfl ?_ ?_)))) <;> clear H
  ·intro h18 a H
   try have sO:=dT h18
   refine kH H (YF BN h18 rfl (YO aD 0 h18 rfl (YC h18 rfl (Pt h18 rfl ?_))));clear H;intro a H;refine abx (_) _ _ ?_ (by exact H.sub ⟨rfl,rfl,rfl,av⟩)
   unfold Bn;clear hcs;simp_all
  intro h18 a H
  try have sO:=dF h18
  refine kH H (aT h18 rfl (Pf h18 rfl ?_));clear H;intro a H;refine abx (_) _ _ ?_ (by exact H.sub ⟨rfl,rfl,rfl,av⟩)
  unfold Bn;clear hcs;simp_all
 clear H;intro st a w hI H;dsimp only [lca,aS] at H;simp only [ow,lK];have hst:=hI;refine kH H (ak K7 rfl (SR fun _ K8=>?_));clear H K7;intro a H;refine oJ (ι:=Bool) (Tc:=[(1,_),(3,_),(4,_)]) 8 (fun (Hq:Bool)=>[(30,.bool Hq)]) (fun (Hq:Bool)=>Hq=decide (x.kind=1∨x.kind=5)) (by exact H.sub ⟨rfl,rfl,rfl,av⟩) ?_ ?_
 ·intro abp;refine kH H (aW gG aD 0 rfl rfl (Rc rfl (Rm rfl (Sp 26 rfl ?_ ?_)))) <;> clear H
  ·intro fV a H
   try have p26:=dT fV
   refine kH H (aT fV rfl (Pt fV rfl ?_));clear H;intro a H;refine abp (_) _ _ ?_ (by exact H.sub ⟨rfl,rfl,rfl,rfl,av⟩);clear hst hcs;simp_all
  intro fV a H
  try have p26:=dF fV
  refine kH H (YF gG fV rfl (YO aD 0 fV rfl (YC fV rfl (Pf fV rfl ?_))));clear H;intro a H;refine abp (_) _ _ ?_ (by exact H.sub ⟨rfl,rfl,rfl,rfl,av⟩);clear hst hcs;simp_all
 clear H;intro Hq a w hI H;dsimp only [lca,aS] at H;simp only [ow,lK];have mD:=hI;refine kH H (ak K8 rfl (SR fun _ K9=>?_));clear H K8;intro a H;refine oJ (ι:=Bool) (Tc:=[(1,_),(3,_),(4,_),(5,_)]) 13 (fun (nm:Bool)=>[(43,.bool nm)]) (fun (nm:Bool)=>nm=zZ x) (by exact H.sub ⟨rfl,rfl,rfl,rfl,av⟩) ?_ ?_
 ·intro Ve;refine kH H (aW gG aD 0 rfl rfl (Rc rfl (Rm rfl (Sp 34 rfl ?_ ?_)))) <;> clear H
  ·intro fQ a H
   try have p34:=dT fQ
   refine kH H (aT fQ rfl (Pt fQ rfl (Rm rfl (aT rfl rfl (Pt rfl rfl ?_)))));clear H;intro a H;refine Ve (_) _ _ ?_ (by exact H.sub ⟨rfl,rfl,rfl,rfl,rfl,av⟩)
   unfold zZ;clear hst hcs;(try clear mD);simp_all
  intro fQ a H
  try have p34:=dF fQ
  refine kH H (YF gG fQ rfl (YO aD 0 fQ rfl (YC fQ rfl (Pf fQ rfl (Rm rfl (Sp 39 rfl ?_ ?_)))))) <;> clear H
  ·intro kT a H
   try have p39:=dT kT
   refine kH H (aT kT rfl (Pt kT rfl ?_));clear H;intro a H;refine Ve (_) _ _ ?_ (by exact H.sub ⟨rfl,rfl,rfl,rfl,rfl,av⟩)
   unfold zZ;clear hst hcs;(try clear mD);simp_all
  intro kT a H
  try have p39:=dF kT
  refine kH H (YF gG kT rfl (YO aD 0 kT rfl (YC kT rfl (Pf kT rfl ?_))));clear H;intro a H;refine Ve (_) _ _ ?_ (by exact H.sub ⟨rfl,rfl,rfl,rfl,rfl,av⟩)
  unfold zZ;clear hst hcs;(try clear mD);simp_all
 clear H;intro nm a w hI H;dsimp only [lca,aS] at H;simp only [ow,lK];have hnm:=hI;refine kH H (ak K9 rfl (SQ fun _ aZ=>SB (SR fun _ bN=>?_)));clear H K9;intro a H;refine oJ (ι:=Bool) (Tc:=[(1,_),(3,_),(4,_),(5,_),(6,_)]) 8 (fun (qa:Bool)=>[(52,.bool qa)]) (fun (qa:Bool)=>qa=!decide (1≤x.kind∧x.kind≤8)) (by exact H.sub ⟨rfl,rfl,rfl,rfl,rfl,av⟩) ?_ ?_
 ·intro Gj;refine kH H (aW gG aD 0 rfl rfl (Rc rfl (Rm rfl (Sp 48 rfl ?_ ?_)))) <;> clear H
  ·intro h48 a H
   try have p48:=dT h48
   refine kH H (aT h48 rfl (Pt h48 rfl ?_));clear H;intro a H;refine Gj (_) _ _ ?_ (by exact H.sub ⟨rfl,rfl,rfl,rfl,rfl,rfl,av⟩);rw [rZ];simp only [uS,vS,uq,true_iff,eq_self_iff_true];omega
  intro h48 a H
  try have p48:=dF h48
  refine kH H (YF gG h48 rfl (YO aD 0 h48 rfl (YC h48 rfl (Pf h48 rfl ?_))));clear H;intro a H;refine Gj (_) _ _ ?_ (by exact H.sub ⟨rfl,rfl,rfl,rfl,rfl,rfl,av⟩);rw [rZ];simp only [uS,vS,uq,true_iff,eq_self_iff_true];omega
 clear H;intro qa a w hI H;dsimp only [lca,aS] at H;simp only [ow,lK];have mq:=hI;refine oJ (ι:=Bool) (Tc:=[(1,_),(3,_),(4,_),(5,_),(6,_)]) 15 (fun (q0:Bool)=>[(67,.bool q0)]) (fun (q0:Bool)=>q0=(!decide (1≤x.kind∧x.kind≤8) || !codeOk x)) (by exact H.sub ⟨rfl,rfl,rfl,rfl,rfl,av⟩) ?_ ?_
 ·intro Qq;refine kH H (Rm rfl (Sp 53 rfl ?_ ?_)) <;> clear H
  ·intro gV a H
   try have p53:=dT gV
   refine kH H (aT gV rfl (Ku rfl (Ku rfl (Ku rfl (Ku rfl (Ku rfl (Ku rfl (Ku rfl (Ku rfl (Ku rfl (Ks gV rfl (Pt gV rfl ?_))))))))))));clear H;intro a H;refine Qq (_) _ _ ?_ (by exact H.sub ⟨rfl,rfl,rfl,rfl,rfl,rfl,av⟩)
   rw [← PU,← hcs,← mq];clear hst mD hnm hcs;(try clear hq1);(try clear hq2);(try clear hq3);(try clear hq0);(try clear mq);(try clear hq4);(try clear iF);(try clear iR);(try clear iT);first|(simp_all;done)|(simp_all;omega)
  intro gV a H
  try have p53:=dF gV
  refine kH H (YM gV rfl (YC gV rfl (YM gV rfl (Sp 56 rfl ?_ ?_)))) <;> clear H
  ·intro qJ a H
   try have p56:=dT qJ
   refine kH H (YF BN qJ rfl (YO aD 0 qJ rfl (YC qJ rfl (YM qJ rfl (Sp 60 rfl ?_ ?_))))) <;> clear H
   ·intro fU a H
    try have p60:=dT fU
    refine kH H (aP fU rfl (aP fU rfl (PT qJ fU rfl (PT gV qJ rfl (Pf gV rfl ?_)))));clear H;intro a H;refine Qq (_) _ _ ?_ (by exact H.sub ⟨rfl,rfl,rfl,rfl,rfl,rfl,av⟩)
    rw [← PU,← hcs,← mq];clear hst mD hnm hcs;(try clear hq1);(try clear hq2);(try clear hq3);(try clear hq0);(try clear mq);(try clear hq4);(try clear iF);(try clear iR);(try clear iT);first|(simp_all;done)|(simp_all;omega)
   intro fU a H
   try have p60:=dF fU
   refine kH H (YF BN fU rfl (YO aD 0 fU rfl (YM fU rfl (YC fU rfl (PF qJ fU rfl (PT gV qJ rfl (Pf gV rfl ?_)))))));clear H;intro a H;refine Qq (_) _ _ ?_ (by exact H.sub ⟨rfl,rfl,rfl,rfl,rfl,rfl,av⟩)
   rw [← PU,← hcs,← mq];clear hst mD hnm hcs;(try clear hq1);(try clear hq2);(try clear hq3);(try clear hq0);(try clear mq);(try clear hq4);(try clear iF);(try clear iR);(try clear iT);first|(simp_all;done)|(simp_all;omega)
  intro qJ a H
  try have p56:=dF qJ
  refine kH H (aP qJ rfl (aP qJ rfl (Ku rfl (Ku rfl (Ku rfl (Ku rfl (Ks qJ rfl (PF gV qJ rfl (Pf gV rfl ?_)))))))));clear H;intro a H;refine Qq (_) _ _ ?_ (by exact H.sub ⟨rfl,rfl,rfl,rfl,rfl,rfl,av⟩)
  rw [← PU,← hcs,← mq];clear hst mD hnm hcs;(try clear hq1);(try clear hq2);(try clear hq3);(try clear hq0);(try clear mq);(try clear hq4);(try clear iF);(try clear iR);(try clear iT);first|(simp_all;done)|(simp_all;omega)
 clear H;intro q0 a w hI H;dsimp only [lca,aS] at H;simp only [ow,lK];have hq0:=hI;refine kH H (ak bN rfl (Cd rfl ?_ ?_)) <;> clear H bN
 ·intro lX a H
  refine aO (fun _ bQ=>?_)
  have e:jW x=3:=by unfold jW;rw [au (by rw [← hq0];exact lX)]
  exact kP H (SC (aM bQ rfl (LR results143 rfl fun H=>H.rt ⟨by rw [e],rfl⟩)))
 intro lX a H
 try have p44:=dF lX
 have f0:¬ (!decide (1≤x.kind∧x.kind≤8) || !codeOk x)=true:=by rw [← hq0,lX];decide
 refine dz (fun _ bT=>?_);refine oJ (ι:=Bool) (Tc:=[(1,_),(4,_),(5,_),(6,_)]) 7 (fun (q1:Bool)=>[(75,.bool q1)]) (fun (q1:Bool)=>q1=(!BJ x && decide (x.code≠0))) (by exact H.sub ⟨rfl,rfl,rfl,rfl,av⟩) ?_ ?_
 ·intro Ny;refine kH H (Rm rfl (Rc rfl (Rm rfl (Sp 71 rfl ?_ ?_)))) <;> clear H
  ·intro vv a H
   try have p71:=dT vv
   refine kH H (YF BN vv rfl (YO aD 0 vv rfl (YC vv rfl (Pt vv rfl ?_))));clear H;intro a H;refine Ny (_) _ _ ?_ (by exact H.sub ⟨rfl,rfl,rfl,rfl,rfl,av⟩);rw [← aaf,← hcs];clear hst mD hnm hcs;(try clear hq1);(try clear hq2);(try clear hq3);(try clear hq0);(try clear mq);(try clear hq4);(try clear iF);(try clear iR);(try clear iT);simp_all
  intro vv a H
  try have p71:=dF vv
  refine kH H (aT vv rfl (Pf vv rfl ?_));clear H;intro a H;refine Ny (_) _ _ ?_ (by exact H.sub ⟨rfl,rfl,rfl,rfl,rfl,av⟩);rw [← aaf,← hcs];clear hst mD hnm hcs;(try clear hq1);(try clear hq2);(try clear hq3);(try clear hq0);(try clear mq);(try clear hq4);(try clear iF);(try clear iR);(try clear iT);simp_all
 clear H;intro q1 a w hI H;dsimp only [lca,aS] at H;simp only [ow,lK];have hq1:=hI;refine oJ (ι:=Bool) (Tc:=[(1,_),(4,_),(5,_)]) 9 (fun (q2:Bool)=>[(84,.bool q2)]) (fun (q2:Bool)=>q2=(q1 || !zZ x && decide (x.id≠0))) (by exact H.sub ⟨rfl,rfl,rfl,av⟩) ?_ ?_
 ·intro Vh;refine kH H (Rm rfl (Sp 76 rfl ?_ ?_)) <;> clear H
  ·intro tO a H
   try have Xm:=dT tO
   refine kH H (aT tO rfl (Ku rfl (Ku rfl (Ku rfl (Ks tO rfl (Pt tO rfl ?_))))));clear H;intro a H;refine Vh (_) _ _ ?_ (by exact H.sub ⟨rfl,rfl,rfl,rfl,av⟩);rw [← hnm];clear hst mD hnm hcs;(try clear hq1);(try clear hq2);(try clear hq3);(try clear hq0);(try clear mq);(try clear hq4);(try clear iF);(try clear iR);(try clear iT);simp_all
  intro tO a H
  try have Xm:=dF tO
  refine kH H (YM tO rfl (YN tO rfl (YM tO rfl (Sp 79 rfl ?_ ?_)))) <;> clear H
  ·intro jw a H
   try have Ab:=dT jw
   refine kH H (YF qg jw rfl (YO aD 0 jw rfl (YC jw rfl (PT tO jw rfl (Pf tO rfl ?_)))));clear H;intro a H;refine Vh (_) _ _ ?_ (by exact H.sub ⟨rfl,rfl,rfl,rfl,av⟩);rw [← hnm];clear hst mD hnm hcs;(try clear hq1);(try clear hq2);(try clear hq3);(try clear hq0);(try clear mq);(try clear hq4);(try clear iF);(try clear iR);(try clear iT);simp_all
  intro jw a H
  try have Ab:=dF jw
  refine kH H (aT jw rfl (PF tO jw rfl (Pf tO rfl ?_)));clear H;intro a H;refine Vh (_) _ _ ?_ (by exact H.sub ⟨rfl,rfl,rfl,rfl,av⟩);rw [← hnm];clear hst mD hnm hcs;(try clear hq1);(try clear hq2);(try clear hq3);(try clear hq0);(try clear mq);(try clear hq4);(try clear iF);(try clear iR);(try clear iT);simp_all
 clear H;intro q2 a w hI H;dsimp only [lca,aS] at H;simp only [ow,lK];have hq2:=hI;refine oJ (ι:=Bool) (Tc:=[(1,_),(4,_),(5,_)]) 13 (fun (q3:Bool)=>[(97,.bool q3)]) (fun (q3:Bool)=>q3=(q2 || !Ao x && !qF x.text)) (by exact H.sub ⟨rfl,rfl,rfl,av⟩) ?_ ?_
 ·intro Qr;refine kH H (Rm rfl (Sp 85 rfl ?_ ?_)) <;> clear H
  ·intro ng a H
   try have Xp:=dT ng
   refine kH H (aT ng rfl (Ku rfl (Ku rfl (aP ng rfl (Ku rfl (Ku rfl (Ku rfl (Ks ng rfl (Pt ng rfl ?_)))))))));clear H;intro a H;refine Qr (_) _ _ ?_ (by exact H.sub ⟨rfl,rfl,rfl,rfl,av⟩);rw [show Ao x=(Hq || st) by rw [mD,hst];rfl];clear hst mD hnm hcs;(try clear hq1);(try clear hq2);(try clear hq3);(try clear hq0);(try clear mq);(try clear hq4);(try clear iF);(try clear iR);(try clear iT);simp_all [qF]
  intro ng a H
  try have Xp:=dF ng
  refine kH H (YM ng rfl (YN ng rfl (YM ng rfl (Sp 88 rfl ?_ ?_)))) <;> clear H
  ·intro wo a H
   try have OD:=dT wo
   refine kH H (YM wo rfl (YN wo rfl (PT ng wo rfl (YM ng rfl (Sp 92 rfl ?_ ?_))))) <;> clear H
   ·intro zN a H
    try have LM:=dT zN
    refine kH H (YF uz zN rfl (YO gX 0 zN rfl ?_));clear H;intro a H;refine aee H (wg H rfl rfl zN) rfl rfl rfl ?_;clear H;intro a H;refine kH H (PT ng zN rfl (Pf ng rfl ?_));clear H;intro a H;refine Qr (_) _ _ ?_ (by exact H.sub ⟨rfl,rfl,rfl,rfl,av⟩);rw [show Ao x=(Hq || st) by rw [mD,hst];rfl];clear hst mD hnm hcs;(try clear hq1);(try clear hq2);(try clear hq3);(try clear hq0);(try clear mq);(try clear hq4);(try clear iF);(try clear iR);(try clear iT);simp_all [qF]
   intro zN a H
   try have LM:=dF zN
   refine kH H (aT zN rfl (PF ng zN rfl (Pf ng rfl ?_)));clear H;intro a H;refine Qr (_) _ _ ?_ (by exact H.sub ⟨rfl,rfl,rfl,rfl,av⟩);rw [show Ao x=(Hq || st) by rw [mD,hst];rfl];clear hst mD hnm hcs;(try clear hq1);(try clear hq2);(try clear hq3);(try clear hq0);(try clear mq);(try clear hq4);(try clear iF);(try clear iR);(try clear iT);simp_all [qF]
  intro wo a H
  try have OD:=dF wo
  refine kH H (aP wo rfl (PF ng wo rfl (YM ng rfl (aT rfl rfl (PF ng rfl rfl (Pf ng rfl ?_))))));clear H;intro a H;refine Qr (_) _ _ ?_ (by exact H.sub ⟨rfl,rfl,rfl,rfl,av⟩);rw [show Ao x=(Hq || st) by rw [mD,hst];rfl];clear hst mD hnm hcs;(try clear hq1);(try clear hq2);(try clear hq3);(try clear hq0);(try clear mq);(try clear hq4);(try clear iF);(try clear iR);(try clear iT);simp_all [qF]
 clear H;intro q3 a w hI H;dsimp only [lca,aS] at H;simp only [ow,lK];have hq3:=hI;refine oJ (ι:=Bool) (Tc:=[(1,_),(4,_),(5,_)]) 11 (fun (q4:Bool)=>[(108,.bool q4)]) (fun (q4:Bool)=>q4=(q3 || decide (x.kind≠6) && decide (0 < (x.flow.length:Int)))) (by exact H.sub ⟨rfl,rfl,rfl,av⟩) ?_ ?_
 ·intro Vf;refine kH H (Rm rfl (Sp 98 rfl ?_ ?_)) <;> clear H
  ·intro oQ a H
   try have OG:=dT oQ
   refine kH H (aP oQ rfl (aP oQ rfl (Ku rfl (Ku rfl (Ku rfl (Ku rfl (Ks oQ rfl (Pt oQ rfl ?_))))))));clear H;intro a H;refine Vf (_) _ _ ?_ (by exact H.sub ⟨rfl,rfl,rfl,rfl,av⟩);clear hst mD hnm hcs;(try clear hq1);(try clear hq2);(try clear hq3);(try clear hq0);(try clear mq);(try clear hq4);(try clear iF);(try clear iR);(try clear iT);simp_all
  intro oQ a H
  try have OG:=dF oQ
  refine kH H (YF gG oQ rfl (YO aD 0 oQ rfl (YC oQ rfl (YM oQ rfl (Sp 102 rfl ?_ ?_))))) <;> clear H
  ·intro BS a H
   try have aoz:=dT BS
   refine kH H (YF yI BS rfl (YO iM 0 BS rfl (YL iN BS rfl (YC BS rfl (PT oQ BS rfl (Pf oQ rfl ?_))))));clear H;intro a H;refine Vf (_) _ _ ?_ (by exact H.sub ⟨rfl,rfl,rfl,rfl,av⟩);clear hst mD hnm hcs;(try clear hq1);(try clear hq2);(try clear hq3);(try clear hq0);(try clear mq);(try clear hq4);(try clear iF);(try clear iR);(try clear iT);simp_all
  intro BS a H
  try have aoz:=dF BS
  refine kH H (aP BS rfl (aP BS rfl (PF oQ BS rfl (Pf oQ rfl ?_))));clear H;intro a H;refine Vf (_) _ _ ?_ (by exact H.sub ⟨rfl,rfl,rfl,rfl,av⟩);clear hst mD hnm hcs;(try clear hq1);(try clear hq2);(try clear hq3);(try clear hq0);(try clear mq);(try clear hq4);(try clear iF);(try clear iR);(try clear iT);simp_all
 clear H;intro q4 a w hI H;dsimp only [lca,aS] at H;simp only [ow,lK];have hq4:=hI;refine oJ (ι:=Bool) (Tc:=[(1,_),(4,_),(5,_)]) 11 (fun (q5:Bool)=>[(119,.bool q5)]) (fun (q5:Bool)=>q5=wY x) (by exact H.sub ⟨rfl,rfl,rfl,av⟩) ?_ ?_
 ·intro Vg;refine kH H (Rm rfl (Sp 109 rfl ?_ ?_)) <;> clear H
  ·intro nX a H
   try have Xc:=dT nX
   refine kH H (aP nX rfl (aP nX rfl (Ku rfl (Ku rfl (Ku rfl (Ku rfl (Ks nX rfl (Pt nX rfl ?_))))))));clear H;intro a H;refine Vg (_) _ _ ?_ (by exact H.sub ⟨rfl,rfl,rfl,rfl,av⟩);rw [show wY x=(q4 || decide (x.kind≠7) && decide (0 < (x.rows.length:Int))) by rw [hq4,hq3,hq2,hq1];rfl];clear hst mD hnm hcs;(try clear hq1);(try clear hq2);(try clear hq3);(try clear hq0);(try clear mq);(try clear hq4);(try clear iF);(try clear iR);(try clear iT);simp_all
  intro nX a H
  try have Xc:=dF nX
  refine kH H (YF gG nX rfl (YO aD 0 nX rfl (YC nX rfl (YM nX rfl (Sp 113 rfl ?_ ?_))))) <;> clear H
  ·intro sG a H
   try have GN:=dT sG
   refine kH H (YF rC sG rfl (YO rR 0 sG rfl (YL jH sG rfl (YC sG rfl (PT nX sG rfl (Pf nX rfl ?_))))));clear H;intro a H;refine Vg (_) _ _ ?_ (by exact H.sub ⟨rfl,rfl,rfl,rfl,av⟩);rw [show wY x=(q4 || decide (x.kind≠7) && decide (0 < (x.rows.length:Int))) by rw [hq4,hq3,hq2,hq1];rfl];clear hst mD hnm hcs;(try clear hq1);(try clear hq2);(try clear hq3);(try clear hq0);(try clear mq);(try clear hq4);(try clear iF);(try clear iR);(try clear iT);simp_all
  intro sG a H
  try have GN:=dF sG
  refine kH H (aP sG rfl (aP sG rfl (PF nX sG rfl (Pf nX rfl ?_))));clear H;intro a H;refine Vg (_) _ _ ?_ (by exact H.sub ⟨rfl,rfl,rfl,rfl,av⟩);rw [show wY x=(q4 || decide (x.kind≠7) && decide (0 < (x.rows.length:Int))) by rw [hq4,hq3,hq2,hq1];rfl];clear hst mD hnm hcs;(try clear hq1);(try clear hq2);(try clear hq3);(try clear hq0);(try clear mq);(try clear hq4);(try clear iF);(try clear iR);(try clear iT);simp_all
 clear H;intro q5 a w hI H;dsimp only [lca,aS] at H;simp only [ow,lK];have iF:=hI;refine kH H (ak bT rfl (Cd rfl ?_ ?_)) <;> clear H bT
 ·intro h68 a H
  refine aO (fun _ cu=>?_)
  have e:jW x=15:=by unfold jW;rw [ah f0,au (by rw [← iF];exact h68)]
  exact kP H (SC (aM cu rfl (LR results143 rfl fun H=>H.rt ⟨by rw [e],rfl⟩)))
 intro h68 a H
 try have p68:=dF h68
 have f1:¬ wY x=true:=by rw [← iF,h68];decide
 refine kP H (SR fun _ dL=>aW uz gX 0 rfl rfl ?_);clear H;intro a H;refine s_call FU H wn rfl (Ho _ _ H.ro x.text hs) rfl ?_;clear H;rintro atJ _ a w ⟨rfl,rfl⟩ - H;refine kH H (Rn rfl (ak dL rfl (Cd rfl ?_ ?_))) <;> clear H dL
 ·intro nS a H
  refine aO (fun _ dO=>?_)
  have e:jW x=12:=by unfold jW;rw [ah f0,ah f1,au (by simpa using nS)]
  exact kP H (SC (aM dO rfl (LR results143 rfl fun H=>H.rt ⟨by rw [e],rfl⟩)))
 intro nS a H
 try have GQ:=dF nS
 have f2:¬ rV x.text=false:=by simpa using nS
 refine dz (fun _ dJ=>?_);refine oJ (ι:=Bool) (Tc:=[(1,_),(4,_)]) 6 (fun (q6:Bool)=>[(131,.bool q6)]) (fun (q6:Bool)=>q6=(decide (x.kind=1∨x.kind=5) && qF x.text)) (by exact H.sub ⟨rfl,rfl,av⟩) ?_ ?_
 ·intro Nz;refine kH H (Rm rfl (Rm rfl (Sp 127 rfl ?_ ?_))) <;> clear H
  ·intro h127 a H
   try have adx:=dT h127
   refine kH H (YF uz h127 rfl (YO gX 0 h127 rfl ?_));clear H;intro a H;refine GY H (wg H rfl rfl h127) rfl rfl rfl ?_;clear H;intro a H;refine kH H (Pt h127 rfl ?_);clear H;intro a H;refine Nz (_) _ _ ?_ (by exact H.sub ⟨rfl,rfl,rfl,av⟩);rw [← mD];clear hst mD hnm hcs;(try clear hq1);(try clear hq2);(try clear hq3);(try clear hq0);(try clear mq);(try clear hq4);(try clear iF);(try clear iR);(try clear iT);simp_all [qF]
  intro h127 a H
  try have adx:=dF h127
  refine kH H (aT h127 rfl (Pf h127 rfl ?_));clear H;intro a H;refine Nz (_) _ _ ?_ (by exact H.sub ⟨rfl,rfl,rfl,av⟩);rw [← mD];clear hst mD hnm hcs;(try clear hq1);(try clear hq2);(try clear hq3);(try clear hq0);(try clear mq);(try clear hq4);(try clear iF);(try clear iR);(try clear iT);simp_all [qF]
 clear H;intro q6 a w hI H;dsimp only [lca,aS] at H;simp only [ow,lK];have iR:=hI;refine kH H (ak dJ rfl (Cd rfl ?_ ?_)) <;> clear H dJ
 ·intro yL a H
  refine aO (fun _ dW=>?_)
  have e:jW x=11:=by unfold jW;rw [ah f0,ah f1,ah f2,au (by rw [← iR];exact yL)]
  exact kP H (SC (aM dW rfl (LR results143 rfl fun H=>H.rt ⟨by rw [e],rfl⟩)))
 intro yL a H
 try have adw:=dF yL
 have f3:¬ (decide (x.kind=1∨x.kind=5) && qF x.text)=true:=by rw [← iR,yL];decide
 refine dz (fun _ eG=>?_);refine oJ (ι:=Bool) (Tc:=[(1,_),(4,_)]) 9 (fun (q7:Bool)=>[(141,.bool q7)]) (fun (q7:Bool)=>q7=(decide (x.kind=5) && decide (1024 < (x.text.size:Int)))) (by exact H.sub ⟨rfl,rfl,av⟩) ?_ ?_
 ·intro abt;refine kH H (aW gG aD 0 rfl rfl (Rc rfl (Rm rfl (Sp 136 rfl ?_ ?_)))) <;> clear H
  ·intro rD a H
   try have Xf:=dT rD
   refine kH H (YF uz rD rfl (YO gX 0 rD rfl ?_));clear H;intro a H;refine Cz iO H (wg H rfl rfl rD) rfl rfl ?_;clear H;intro a H;refine kH H (YC rD rfl (Pt rD rfl ?_));clear H;intro a H;refine abt (_) _ _ ?_ (by exact H.sub ⟨rfl,rfl,rfl,av⟩);clear hst mD hnm hcs;(try clear hq1);(try clear hq2);(try clear hq3);(try clear hq0);(try clear mq);(try clear hq4);(try clear iF);(try clear iR);(try clear iT);simp_all
  intro rD a H
  try have Xf:=dF rD
  refine kH H (aP rD rfl (aP rD rfl (Pf rD rfl ?_)));clear H;intro a H;refine abt (_) _ _ ?_ (by exact H.sub ⟨rfl,rfl,rfl,av⟩);clear hst mD hnm hcs;(try clear hq1);(try clear hq2);(try clear hq3);(try clear hq0);(try clear mq);(try clear hq4);(try clear iF);(try clear iR);(try clear iT);simp_all
 clear H;intro q7 a w hI H;dsimp only [lca,aS] at H;simp only [ow,lK];have iT:=hI;refine kH H (ak eG rfl (Cd rfl ?_ ?_)) <;> clear H eG
 ·intro EC a H
  refine aO (fun _ eB=>?_)
  have e:jW x=10:=by unfold jW;rw [ah f0,ah f1,ah f2,ah f3,au (by rw [← iT];exact EC)]
  exact kP H (SC (aM eB rfl (LR results143 rfl fun H=>H.rt ⟨by rw [e],rfl⟩)))
 intro EC a H
 try have aoB:=dF EC
 have f4:¬ (decide (x.kind=5) && decide (1024 < (x.text.size:Int)))=true:=by rw [← iT,EC];decide
 refine dz (fun _ eH=>?_);refine oJ (ι:=Bool) (Tc:=[]) 7 (fun (q8:Bool)=>[(149,.bool q8)]) (fun (q8:Bool)=>q8=(Bn x && !pX x.text)) (by exact H.sub trivial) ?_ ?_
 ·intro abv;refine kH H (Rm rfl (Rm rfl (Sp 144 rfl ?_ ?_))) <;> clear H
  ·intro xg a H
   try have Xh:=dT xg
   refine kH H (YF uz xg rfl (YO gX 0 xg rfl ?_));clear H;intro a H;refine s_call Nc H (wg H rfl rfl xg) rfl (MX _ _ H.ro x.text hs) rfl ?_;clear H;rintro atQ _ a w ⟨rfl,rfl⟩ - H;refine kH H (YN xg rfl (Pt xg rfl ?_));clear H;intro a H;refine abv (_) _ _ ?_ (by exact H.sub ⟨rfl,av⟩);rw [← hst];clear hst mD hnm hcs;(try clear hq1);(try clear hq2);(try clear hq3);(try clear hq0);(try clear mq);(try clear hq4);(try clear iF);(try clear iR);(try clear iT);simp_all
  intro xg a H
  try have Xh:=dF xg
  refine kH H (aP xg rfl (aP xg rfl (Pf xg rfl ?_)));clear H;intro a H;refine abv (_) _ _ ?_ (by exact H.sub ⟨rfl,av⟩);rw [← hst];clear hst mD hnm hcs;(try clear hq1);(try clear hq2);(try clear hq3);(try clear hq0);(try clear mq);(try clear hq4);(try clear iF);(try clear iR);(try clear iT);simp_all
 clear H;intro q8 a w hI H;dsimp only [lca,aS] at H;simp only [ow,lK];have hq8:=hI;refine kH H (ak eH rfl (Cd rfl ?_ ?_)) <;> clear H eH
 ·intro rE a H
  refine aO (fun _ fO=>?_)
  have e:jW x=13:=by unfold jW;rw [ah f0,ah f1,ah f2,ah f3,ah f4,au (by rw [← hq8];exact rE)]
  exact kP H (SC (aM fO rfl (LR results143 rfl fun H=>H.rt ⟨by rw [e],rfl⟩)))
 intro rE a H
 refine fI ?_;refine aZ _ _ ?_;clear aZ;refine aO (fun _ gJ=>?_)
 have e:jW x=0:=by unfold jW;rw [ah f0,ah f1,ah f2,ah f3,ah f4,ah (by rw [← hq8,rE];decide)]
 exact kP H (SC (aM gJ rfl (LR results143 rfl fun H=>H.rt ⟨by rw [e],rfl⟩)))
end
section
open Go.RowKit
theorem P7:∀ args w,(callFunc 67 args).run prog w=.ok (.enter 67 args) w:=enters func67 rfl (by kernel_rfl)
theorem aat:∀ args w,(callFunc 144 args).run prog w=.ok (.enter 144 args) w:=enters func144 rfl (by kernel_rfl)
theorem Ua:∀ args w,(callFunc 68 args).run prog w=.ok (.enter 68 args) w:=enters func68 rfl (by kernel_rfl)
abbrev Zo (D:kN) (b:Nat) (L0:OL) (r:CR):aj→OL→Prop:=fun u L'=>∃ v' L1 s',u=vi r.1∧L'=jl D b v' s'.n :: L1∧yj v' s'.bE L1 L0∧(r.1=0→s'=r.2)
def O8 (m:Nat):Prop:=∀ (G:GH) (L L0:OL) (w0:World) (D:kN) (st:List cK) (li:List eT) (rv:List fF) (b:Nat) (v:aj) (s:CS) (l:List ay) (u:aj) (body note:Bool) (t:Int),
 CY G D st li rv→Io st li rv→yj v s.bE L L0→jQ G (jl D b v s.n :: L) w0→aB G (.sl 11 (l.map ay.dat)) u→bM l < m→0≤t→t≤4→0≤s.n→s.n+(bM l:Nat)≤1099511627776→s.bE.length+bM l < 1099511627776 →
 Calls prog 68 #[(aK b 0),u,.bool body,.bool note,vi t] w0 (jk w0 G (jl D b v s.n :: L) fun u G' L'=>G=G'∧Zo D b L0 (iG (aN st li rv) body note t l s) u L')
theorem Rh (G:GH) (L:OL) (w0:World) (D:kN) (st:List cK) (li:List eT) (rv:List fF) (b:Nat) (v:aj) (n:Int) (hck:CY G D st li rv) (hmz:Io st li rv) (hO:jQ G (jl D b v n :: L) w0)
  (e:Int) (h:jJ) (p d l:aj) (hh:mF G h p d l) (hz:pR h≤4294967296) :
  Calls prog 67 #[(aK b 0),vi e,Dw h p d l] w0 (jk w0 G (jl D b v n :: L) fun u G' L'=>G=G'∧L'=jl D b v n :: L∧u=vi (gB (aN st li rv) e h)):=by
 have hm:=GH.Kl G (o:=(jl D b v n).2) (hO.sep _ jd);exact (anW (G.add b (jl D b v n).2) w0 hO.add D st li rv b v n (hck.mono hm) hmz (GH.MN _ _ _) e h p d l (hh.mono hm) hz).mono fun _ _=>XA (b:=b) (o:=(jl D b v n).2) (R':=fun u=>u=vi (gB (aN st li rv) e h)) hO fun _ _ h=>h
theorem apz {C:gQ} {h:jJ} {n:Nat} (e:gB C 9 h≠0):uh C h n=gB C 9 h:=by simp [uh,bV,e]
theorem apA {C:gQ} {h:jJ} {n:Nat} (e:gB C 9 h=0) (h0:n=0):uh C h n=11:=by simp [uh,bV,e,h0,bS]
theorem apB {C:gQ} {h:jJ} {n:Nat} (e:gB C 9 h=0) (h0:n≠0) (h1:32 < n):uh C h n=9:=by
 have h2:¬ (n:Int)=0:=by omega
 have h3:(32:Int) < n:=by omega
 simp only [uh,bV,e,bS,iC h2,gq h3];decide
theorem apC {C:gQ} {h:jJ} {n:Nat} (e:gB C 9 h=0) (h0:n≠0) (h1:¬ 32 < n):uh C h n=0:=by
 have h2:¬ (n:Int)=0:=by omega
 have h3:¬ (32:Int) < n:=by omega
 simp only [uh,bV,e,bS,iC h2,iC h3];decide
set_option maxHeartbeats 4000000 in
theorem aoa {m:Nat} (ih:O8 m) (hm:m≤4294967296) (G:GH) (L L0:OL) (w0:World) (D:kN) (st:List cK) (li:List eT) (rv:List fF) (b:Nat) (v:aj) (s:CS) (l:List bJ) (u:aj) (note:Bool) (t:Int)
  (hck:CY G D st li rv) (hmz:Io st li rv) (hi:yj v s.bE L L0) (hO:jQ G (jl D b v s.n :: L) w0) (hv:aB G (.sl 6 (l.map bJ.dat)) u) (hz:fq l < m) (ht0:0≤t) (Ck:t≤4) (hs0:0≤s.n) (hs1:s.n+(fq l:Nat)≤1099511627776) (hs2:s.bE.length+fq l < 1099511627776) :
  Calls prog 145 #[(aK b 0),u,.bool note,vi t] w0 (jk w0 G (jl D b v s.n :: L) fun u G' L'=>G=G'∧Zo D b L0 (lC l.length (fun s=>iw (aN st li rv) note t l s) s) u L'):=by
 obtain ⟨A,c,rfl,hc1,hc2,hg⟩:=hv.slice;rw [bZ] at *;have hll:=Fp l;obtain ⟨R,hR⟩:∃ R,R=lC l.length (fun s=>iw (aN st li rv) note t l s) s:=⟨_,rfl⟩;rw [← hR];refine mH (N:=97) (T:=[(0,_),(1,_),(2,_),(3,_)]) func145 rfl ntmps145 rfl rfl hO ?_;intro a H;refine kP H (SR fun _ K1=>ak K1 rfl (SQ fun _ K2=>SB (SR fun _ K3=>Rm rfl (Rl jH rfl (Rc rfl (ak K3 rfl (Cd rfl ?_ ?_))))))) <;> clear H K1 K3
 ·intro h16 a H
  try have p16:=dT h16
  refine aO (fun _ K4=>?_)
  have hF:R.1=11:=by rw [hR,lC,au (by omega)]
  exact kP H (SC (aM K4 rfl (LR results145 rfl fun H=>H.hp.dh (L':=jl D b v s.n :: L) (by repeat (first|exact dx _|apply List.Sublist.cons)) ⟨rfl,v,L,s,aC vi hF.symm,rfl,hi,fun h=>absurd (hF.symm.trans h) (by decide)⟩)))
 intro h16 a H
 try have p16:=dF h16
 refine kP H (SR fun _ K5=>Rm rfl (Rl jH rfl (Rc rfl (ak K5 rfl (Cd rfl ?_ ?_))))) <;> clear H K5
 ·intro h20 a H
  try have rP:=dT h20
  refine aO (fun _ K6=>?_)
  have hF:R.1=9:=by rw [hR,lC,ah (by omega),au (by omega)]
  exact kP H (SC (aM K6 rfl (LR results145 rfl fun H=>H.hp.dh (L':=jl D b v s.n :: L) (by repeat (first|exact dx _|apply List.Sublist.cons)) ⟨rfl,v,L,s,aC vi hF.symm,rfl,hi,fun h=>absurd (hF.symm.trans h) (by decide)⟩)))
 intro h20 a H
 try have rP:=dF h20
 rw [lC,ah (by omega),ah (by omega)] at hR;refine kP H (Kc K2 (SQ fun _ K7=>SR fun _ K8=>ak K8 rfl (SB ?_)));clear H K2 K8;intro a H;skip;refine fH (ι:=Nat × CS × aj × OL) (Tc:=[(0,_),(1,_),(2,_),(3,_)]) (Lc:=[]) (fun gh=>[(9,vi gh.1)]) (fun gh=>[jl D b gh.2.2.1 gh.2.1.n]++gh.2.2.2) (fun gh=>G) (fun gh=>gh.1≤l.length∧iw (aN st li rv) note t (l.drop gh.1) gh.2.1=R∧yj gh.2.2.1 gh.2.1.bE gh.2.2.2 L0∧0≤gh.2.1.n∧gh.2.1.n+(fq (l.drop gh.1):Nat)≤1099511627776∧gh.2.1.bE.length+fq (l.drop gh.1) < 1099511627776) (fun gh=>l.length - gh.1) ((0,s,v,L)) (by exact (H).sub ⟨rfl,rfl,rfl,rfl,rfl,av⟩) ?_ ?_
 ·exact ⟨iK _,hR.symm,hi,hs0,hs1,hs2⟩
 clear H;intro gh a w hI H;obtain ⟨k,s1,v1,L1⟩:=gh;dsimp only at hI H;obtain ⟨hk,hX,hv1,hn0,hn1,hn2⟩:=hI;dsimp only [lca,aS] at H;refine kP H (SQ fun _ K9=>SR fun _ aZ=>Rm rfl (Rm rfl (Rl jH rfl (Rc rfl (Kz aZ (Cd rfl ?_ ?_)))))) <;> clear H aZ
 ·intro h27 a H
  try have p27:=dT h27
  have hk2:k < l.length:=by omega
  obtain ⟨o,xo,pA,pn,pc,dA,dn,dc,yA,yn,yc,cA,cn,cc,rfl,hrow,hhd,hcl⟩:=GV hk2 hg;have hcn:=hcl.len;rw [bZ] at hcn;subst hcn;obtain ⟨_,cc',hce,alx,asP,hcg⟩:=hcl.slice
  injection hce with e1 e2 e3
  subst e1;subst e3;rw [bZ] at alx;have hzs:=Yr hk2;have hzi:=uN l[k];have Jy:=Yt (jr hk2);have alA:=Fh l[k].cells;rw [apD hk2,JU] at hX
  have rh:∀ (j:Nat) (u:aj),[.slice pA pn pc,vi l[k].head.marks.ins,vi l[k].head.marks.move,.slice dA dn dc,.slice yA yn yc][j]?=some u→aH G o (xo+k*6+0+j)=some u:=by
   intro j u hj;refine hrow j u ?_
   match j,hj with
   | 0,hj=>exact hj
   | 1,hj=>exact hj
   | 2,hj=>exact hj
   | 3,hj=>exact hj
   | 4,hj=>exact hj
   | n+5,hj=>simp at hj
  have rc:aH G o (xo+k*6+5)=some (.slice cA l[k].cells.length cc):=hrow 5 _ rfl
  have hEr:∀ e,e≠0→uh (aN st li rv) l[k].head l[k].cells.length=e→R.1=e:=fun e h1 h2=>by
   rw [← hX,uU (r:=(uh (aN st li rv) l[k].head l[k].cells.length,s1)) (by dsimp only;rw [h2];exact h1)];rw [uU (by dsimp only;rw [h2];exact h1)];exact h2
  refine kP H (Kc K9 (SQ fun _ bN=>SB (SQ fun _ bQ=>SR fun _ bT=>Rm rfl (Rm rfl (Rm rfl (Ri jH iI rfl rfl (Rf FV rfl ?_)))))));clear H K9;intro a H;refine bD nC (cs:=[.slice pA pn pc,vi l[k].head.marks.ins,vi l[k].head.marks.move,.slice dA dn dc,.slice yA yn yc]) H wn rfl rfl (fun j v hj=>H.hp.aH (rh j v hj)) rfl ?_;clear H;intro a H;refine iH P7 (Li:=[]) (L:=jl D b v1 s1.n :: L1) H wn rfl (Rh _ _ _ D st li rv b v1 s1.n hck hmz (Hp.owns (Li:=[]) H.hp) 9 l[k].head _ _ _ hhd (by omega)) rfl ?_;clear H;rintro v36 _ _ a w ⟨rfl,rfl,rfl⟩ - H;dsimp only [List.nil_append] at H;refine kH H (ak bT rfl (SR fun _ cu=>Rm rfl (Rc rfl (Kz cu (Cd rfl ?_ ?_))))) <;> clear H bT cu
  ·intro wm a H
   try have p38:=dT wm
   refine aO (fun _ dL=>?_);have hF:=hEr _ p38 (apz p38);exact kP H (SC (Rm rfl (aM dL rfl (LR results145 rfl fun H=>H.hp.dh (L':=jl D b v1 s1.n :: L1) (by repeat (first|exact dx _|apply List.Sublist.cons)) ⟨rfl,v1,L1,s1,aC vi hF.symm,rfl,hv1,fun h=>absurd (hF.symm.trans h) p38⟩))))
  intro wm a H
  try have p38:=dF wm
  have e1:gB (aN st li rv) 9 l[k].head=0:=gF.1 p38;refine kP H (Kc bQ (SQ fun _ dO=>SB (SR fun _ dJ=>Rm rfl (Rm rfl (Ri jH iI rfl rfl (Rf qG rfl (Rg qU rfl rc (Rl kV rfl (Rc rfl (ak dJ rfl (Cd rfl ?_ ?_))))))))))) <;> clear H bQ dJ
  ·intro rF a H
   try have p40:=dT rF
   refine aO (fun _ dW=>?_);have hF:=hEr 11 (by decide) (apA e1 (by omega));exact kP H (SC (aM dW rfl (LR results145 rfl fun H=>H.hp.dh (L':=jl D b v1 s1.n :: L1) (by repeat (first|exact dx _|apply List.Sublist.cons)) ⟨rfl,v1,L1,s1,aC vi hF.symm,rfl,hv1,fun h=>absurd (hF.symm.trans h) (by decide)⟩)))
  intro rF a H
  try have p40:=dF rF
  refine kP H (SR fun _ eG=>Rm rfl (Rm rfl (Ri jH iI rfl rfl (Rf qG rfl (Rg qU rfl rc (Rl kV rfl (Rc rfl (ak eG rfl (Cd rfl ?_ ?_))))))))) <;> clear H eG
  ·intro h48 a H
   try have p48:=dT h48
   refine aO (fun _ eB=>?_);have hF:=hEr 9 (by decide) (apB e1 (by omega) (by omega));exact kP H (SC (aM eB rfl (LR results145 rfl fun H=>H.hp.dh (L':=jl D b v1 s1.n :: L1) (by repeat (first|exact dx _|apply List.Sublist.cons)) ⟨rfl,v1,L1,s1,aC vi hF.symm,rfl,hv1,fun h=>absurd (hF.symm.trans h) (by decide)⟩)))
  intro h48 a H
  try have p48:=dF h48
  rw [uw (r:=(uh (aN st li rv) l[k].head l[k].cells.length,s1)) (apC e1 (by omega) (by omega))] at hX;dsimp only at hX;refine kP H (Kc dO (SR fun _ eH=>ak eH rfl (SB ?_)));clear H dO eH;intro a H;skip;refine fH (ι:=Nat × CS × aj × OL) (Tc:=[(0,_),(1,_),(2,_),(3,_),(9,_)]) (Lc:=[]) (fun gh=>[(11,vi gh.1)]) (fun gh=>[jl D b gh.2.2.1 gh.2.1.n]++gh.2.2.2) (fun gh=>G) (fun gh=>gh.1≤l[k].cells.length∧nQ (aN st li rv) note t (l[k].cells.drop gh.1) gh.2.1=nQ (aN st li rv) note t l[k].cells s1∧yj gh.2.2.1 gh.2.1.bE gh.2.2.2 L0∧0≤gh.2.1.n∧gh.2.1.n+(iD (l[k].cells.drop gh.1):Nat)≤s1.n+(iD l[k].cells:Nat)∧gh.2.1.bE.length+iD (l[k].cells.drop gh.1)≤s1.bE.length+iD l[k].cells) (fun gh=>l[k].cells.length - gh.1) ((0,s1,v1,L1)) (by exact (H).sub ⟨rfl,rfl,rfl,rfl,rfl,rfl,av⟩) ?_ ?_
  ·exact ⟨iK _,rfl,hv1,hn0,Int.le_refl _,dQ _⟩
  clear H;intro gh a w hI H;obtain ⟨j,s2,v2,L2⟩:=gh;dsimp only at hI H;obtain ⟨hj,hY,hv2,hm0,hm1,hm2⟩:=hI;dsimp only [lca,aS] at H;refine kP H (SQ fun _ fO=>SR fun _ gJ=>Rm rfl (Rm rfl (Rm rfl (Ri jH iI rfl rfl (Rf qG rfl (Rg qU rfl rc (Rl kV rfl (Rc rfl (Kz gJ (Cd rfl ?_ ?_)))))))))) <;> clear H gJ
  ·intro h63 a H
   try have p63:=dT h63
   have hj2:j < l[k].cells.length:=by omega
   obtain ⟨o2,xo2,EY,GU,pc2,Es,FT,Et,Ht,Hw,Hu,IJ,IW,IK,rfl,hrow2,NR,VI⟩:=Eo hj2 hcg;have anf:=Yn hj2;have ane:=uM l[k].cells[j];have ath:=Yo (jr hj2);rw [agw hj2,AB] at hY
   have pJ:∀ e s9,e≠0→cellC (aN st li rv) note t l[k].cells[j] s2=(e,s9)→R.1=e:=fun e s9 h1 h2=>by
    rw [AB] at h2;rw [h2,uU (by exact h1)] at hY;rw [← hX,← hY,uU (by exact h1)]
   refine kP H (Kc fO (SQ fun _ gT=>SB (SR fun _ gM=>Rm rfl (Rm rfl (Ri jH iI rfl rfl (Rf qG rfl (Rg qU rfl rc (Rm rfl (Ri kV iy rfl rfl ?_)))))))));clear H fO;intro a H;refine bD iy (cs:=[vi l[k].cells[j].id,.slice EY GU pc2,vi l[k].cells[j].head.marks.ins,vi l[k].cells[j].head.marks.move,.slice Es FT Et,.slice Ht Hw Hu,.slice IJ IW IK]) H wn rfl rfl (fun j v hj=>H.hp.aH (hrow2 j v hj)) rfl ?_;clear H;intro a H;refine dR iy H wn rfl ?_;clear H;intro b12 a w Gp H;refine bO iy 0 (vs:=[_,_,_,_,_,_,_]) _ H wn rfl rfl rfl rfl rfl rfl rfl rfl ?_;clear H;intro w H;dsimp only [List.set,setRow] at H;refine gM _ _ ?_;clear gM;refine kP H (SQ fun _ jh=>SR fun _ jo=>Rm rfl (aW AO aD 0 rfl rfl ?_));clear H;intro a H;refine iH aat (Li:=[_]) (L:=jl D b v2 s2.n :: L2) H wn rfl (adh _ _ L0 _ D b v2 s2 l[k].cells[j].id hv2 (Hp.owns (Li:=[_]) H.hp) (by omega)) rfl ?_;clear H;rintro v77 _ _ a w ⟨rfl,v3,L3,rfl,rfl,hv3⟩ - H;dsimp only [lca,aS] at H;refine kH H (ak jo rfl (SR fun _ iU=>Rm rfl (Rc rfl (Kz iU (Cd rfl ?_ ?_))))) <;> clear H jo iU
   ·intro jw a H
    try have Ab:=dT jw
    refine aO (fun _ kX=>?_);have hF:=pJ (jL s2 l[k].cells[j].id).1 _ Ab (by rw [AB,uU Ab]);exact kP H (SC (Rm rfl (aM kX rfl (LR results145 rfl fun H=>H.hp.dh (L':=jl D b v3 s2.n :: L3) (by repeat (first|exact dx _|apply List.Sublist.cons)) ⟨rfl,v3,L3,⟨s2.n,(jL s2 l[k].cells[j].id).2.bE⟩,aC vi hF.symm,rfl,hv3,fun h=>absurd (hF.symm.trans h) Ab⟩))))
   intro jw a H
   try have Ab:=dF jw
   have PX:(jL s2 l[k].cells[j].id).1=0:=gF.1 Ab;have hub:=Sb s2 l[k].cells[j].id
   unfold lV at hub
   obtain ⟨s3,hs3⟩:∃ s3,s3=(jL s2 l[k].cells[j].id).2:=⟨_,rfl⟩
   have Ll:s3.n=s2.n:=by rw [hs3];rfl
   rw [← hs3] at hv3 hub;rw [← Ll] at H;refine kP H (Kc jh (SQ fun _ kY=>SR fun _ jT=>Rm rfl (Rf KE rfl ?_)));clear H jh;intro a H;refine bD nC (cs:=[.slice EY GU pc2,vi l[k].cells[j].head.marks.ins,vi l[k].cells[j].head.marks.move,.slice Es FT Et,.slice Ht Hw Hu]) H wn rfl rfl (H.hp.eu 0 rfl rfl) rfl ?_;clear H;intro a H;refine iH P7 (Li:=[_]) (L:=jl D b v3 s3.n :: L3) H wn rfl (Rh _ _ _ D st li rv b v3 s3.n hck hmz (Hp.owns (Li:=[_]) H.hp) 10 l[k].cells[j].head _ _ _ NR (by omega)) rfl ?_;clear H;rintro v84 _ _ a w ⟨rfl,rfl,rfl⟩ - H;dsimp only [lca,aS] at H;refine kH H (ak jT rfl (SR fun _ lG=>Rm rfl (Rc rfl (Kz lG (Cd rfl ?_ ?_))))) <;> clear H jT lG
   ·intro U0 a H
    try have OC:=dT U0
    refine aO (fun _ lH=>?_);have hF:=pJ (gB (aN st li rv) 10 l[k].cells[j].head) s3 OC (by rw [AB,uw PX,← hs3,uU (by exact OC)]);exact kP H (SC (Rm rfl (aM lH rfl (LR results145 rfl fun H=>H.hp.dh (L':=jl D b v3 s3.n :: L3) (by repeat (first|exact dx _|apply List.Sublist.cons)) ⟨rfl,v3,L3,s3,aC vi hF.symm,rfl,hv3,fun h=>absurd (hF.symm.trans h) OC⟩))))
   intro U0 a H
   try have OC:=dF U0
   have e86:gB (aN st li rv) 10 l[k].cells[j].head=0:=gF.1 OC;refine kP H (Kc kY (SR fun _ kL=>Rm rfl (aW AQ iM 0 rfl rfl (Rm rfl (Rm rfl ?_)))));clear H kY;intro a H;refine iH Ua (Li:=[_]) (L:=jl D b v3 s3.n :: L3) H wn rfl (ih _ _ L0 _ D st li rv b v3 s3 l[k].cells[j].flow _ false note t hck hmz hv3 (Hp.owns (Li:=[_]) H.hp) VI (by omega) ht0 Ck (by omega) (by omega) (by omega)) rfl ?_;clear H;rintro v93 _ _ a w ⟨rfl,v5,L5,s5,rfl,rfl,hv5,h5⟩ - H;dsimp only [lca,aS] at H
   have abD:cellC (aN st li rv) note t l[k].cells[j] s2=iG (aN st li rv) false note t l[k].cells[j].flow s3:=by rw [AB,uw PX,← hs3,uw (r:=(gB (aN st li rv) 10 l[k].cells[j].head,s3)) e86]
   refine kH H (ak kL rfl (SR fun _ mQ=>Rm rfl (Rc rfl (Kz mQ (Cd rfl ?_ ?_))))) <;> clear H kL mQ
   ·intro IZ a H
    try have EX:=dT IZ
    refine aO (fun _ mR=>?_);have hF:=pJ _ _ EX abD;exact kP H (SC (Rm rfl (aM mR rfl (LR results145 rfl fun H=>H.hp.dh (L':=jl D b v5 s5.n :: L5) (by repeat (first|exact dx _|apply List.Sublist.cons)) ⟨rfl,v5,L5,s5,aC vi hF.symm,rfl,hv5,fun h=>absurd (hF.symm.trans h) EX⟩))))
   intro IZ a H
   try have EX:=dF IZ
   have e95:=gF.1 EX;have hs5:=h5 e95
   have hcell:cellC (aN st li rv) note t l[k].cells[j] s2=(0,s5):=by rw [abD,hs5,← e95]
   obtain ⟨z1,z2,z3⟩:=agc hcell
   have hC:nQ (aN st li rv) note t (l[k].cells.drop (j+1)) s5=nQ (aN st li rv) note t l[k].cells s1:=by
    rw [AB] at hcell;rw [hcell,uw rfl] at hY;exact hY
   refine kP H (Kc gT (SC (Rm rfl (Rd rfl (Ra rfl ?_)))));clear H gT;intro a H;refine aI ?_;refine dP ((j+1,s5,v5,L5)) (by exact (H.dK (Pl:=[_,_]) (dw:=[_]) [1] (by decide) rfl).sub ⟨rfl,rfl,rfl,rfl,rfl,rfl,av⟩) ?_ ?_
   ·(try dsimp only);exact ⟨by omega,hC,hv5,by omega,by omega,by omega⟩
   first|omega|(dsimp only;omega)
  intro h63 a H
  try have p63:=dF h63
  have hj3:l[k].cells.drop j=[]:=gy (by omega);rw [hj3,nQ] at hY;rw [← hY,uw rfl] at hX;have hB:iw (aN st li rv) note t (l.drop (k+1)) s2=iw (aN st li rv) note t (l.drop (k+1)) s2:=rfl;rw [hj3] at hm1 hm2;have hz0:iD []=0:=rfl;refine eD ?_;refine bN _ _ ?_;clear bN;refine kP H (SC (Rm rfl (Rd rfl (Ra rfl ?_))));clear H;intro a H;refine aI ?_;refine dP ((k+1,s2,v2,L2)) (by exact (H).sub ⟨rfl,rfl,rfl,rfl,rfl,av⟩) ?_ ?_
  ·(try dsimp only);exact ⟨by omega,by rw [hB];exact hX,hv2,by omega,by omega,by omega⟩
  first|omega|(dsimp only;omega)
 intro h27 a H
 try have p27:=dF h27
 have hk3:l.drop k=[]:=gy (by omega);rw [hk3,iw] at hX;refine eD ?_;refine K7 _ _ ?_;clear K7;exact kP H (SR fun _ nD=>ak nD rfl (LR results145 rfl fun H=>H.hp.gL ⟨rfl,v1,L1,s1,aC vi (by rw [← hX]),rfl,hv1,fun _=>by rw [← hX]⟩))
end
section
open Go.RowKit
theorem ahV:∀ args w,(callFunc 145 args).run prog w=.ok (.enter 145 args) w:=enters func145 rfl (by kernel_rfl)
theorem ahU:∀ args w,(callFunc 143 args).run prog w=.ok (.enter 143 args) w:=enters func143 rfl (by kernel_rfl)
theorem Ur:dV prog 143 3 13:=⟨by kernel_rfl⟩
theorem aoZ {body note:Bool} {t k i:Int} {s:CS} {q:Bool} (hq:q=(decide (k=3) && !body || decide (k=6) && note)) (h:q=true):kU body note t k i s=(19,s):=by
 subst hq
 unfold kU
 rcases Bool.or_eq_true_iff.1 h with h|h
 ·obtain ⟨h1,h2⟩:=Bool.and_eq_true_iff.1 h;rw [au (pE h1),h2];rfl
 obtain ⟨h1,h2⟩:=Bool.and_eq_true_iff.1 h;have h3:=pE h1;subst h3;rw [ah (by decide),au rfl,h2];rfl
theorem apb {body note:Bool} {t k i:Int} {s:CS} (h:¬ (decide (k=3) && !body || decide (k=6) && note)=true) (h7:k=7→¬ 4≤t) (h8:k=8→1≤i∧i≤1073741824):kU body note t k i s=if k=6∨k=7 then jL s i else (0,s):=by
 unfold kU
 by_cases k3:k=3
 ·subst k3;rw [au rfl,ah (by decide)]
  cases body
  ·exact absurd rfl h
  rfl
 rw [ah k3]
 by_cases k6:k=6
 ·subst k6;rw [au rfl,au (by decide)]
  cases note
  ·exact uw rfl
  exact absurd (by simp) h
 rw [ah k6]
 by_cases k7:k=7
 ·subst k7;rw [au rfl,au (by decide),show bS (decide (4≤t)) 17=0 by rw [bS,ah (by simpa using h7 rfl)]];exact uw rfl
 rw [ah k7,ah (show ¬ (k=6∨k=7) by omega)]
 by_cases k8:k=8
 ·rw [au k8,gq (h8 k8)];rfl
 rw [ah k8]
theorem aoX {body note:Bool} {t i:Int} {s:CS} (h:4≤t):kU body note t 7 i s=(17,s):=by
 unfold kU
 rw [ah (by decide),ah (by decide),au rfl,gq h];rfl
theorem aoY {body note:Bool} {t i:Int} {s:CS} (h:¬ (1≤i∧i≤1073741824)):kU body note t 8 i s=(18,s):=by
 unfold kU
 rw [ah (by decide),ah (by decide),ah (by decide),au rfl,iC h];rfl
set_option maxHeartbeats 8000000 in
theorem anV {m:Nat} (ih:O8 m) (hm:m≤4294967296):O8 (m+1):=by
 intro G L L0 w0 D st li rv b v s l u body note t hck hmz hi hO hv hz ht0 Ck hs0 hs1 hs2;obtain ⟨A,c,rfl,hc1,hc2,hg⟩:=hv.slice;rw [bZ] at *;have hll:=Fj l;obtain ⟨R,hR⟩:∃ R,R=iG (aN st li rv) body note t l s:=⟨_,rfl⟩;rw [← hR];refine mH (N:=139) (T:=[(0,_),(1,_),(2,_),(3,_),(4,_)]) func68 rfl ntmps68 rfl rfl hO ?_;intro a H;refine kP H (SR fun _ K1=>ak K1 rfl (SQ fun _ K2=>SR fun _ K3=>ak K3 rfl (SB ?_)));clear H K1 K3;intro a H;skip;refine fH (ι:=Nat × CS × aj × OL) (Tc:=[(0,_),(1,_),(2,_),(3,_),(4,_)]) (Lc:=[]) (fun gh=>[(11,vi gh.1)]) (fun gh=>[jl D b gh.2.2.1 gh.2.1.n]++gh.2.2.2) (fun gh=>G) (fun gh=>gh.1≤l.length∧iG (aN st li rv) body note t (l.drop gh.1) gh.2.1=R∧yj gh.2.2.1 gh.2.1.bE gh.2.2.2 L0∧0≤gh.2.1.n∧gh.2.1.n+(bM (l.drop gh.1):Nat)≤1099511627776∧gh.2.1.bE.length+bM (l.drop gh.1) < 1099511627776) (fun gh=>l.length - gh.1) ((0,s,v,L)) (by exact (H).sub ⟨rfl,rfl,rfl,rfl,rfl,rfl,av⟩) ?_ ?_
 ·exact ⟨iK _,hR.symm,hi,hs0,hs1,hs2⟩
 clear H;intro gh a w hI H;obtain ⟨k,s1,v1,L1⟩:=gh;dsimp only at hI H;obtain ⟨hk,hX,hv1,hn0,hn1,hn2⟩:=hI;dsimp only [lca,aS] at H;refine kP H (SQ fun _ K4=>SR fun _ K5=>Rm rfl (Rm rfl (Rl iN rfl (Rc rfl (Kz K5 (Cd rfl ?_ ?_)))))) <;> clear H K5
 ·intro h23 a H
  try have DU:=dT h23
  have hk2:k < l.length:=by omega
  obtain ⟨o,xo,pA,pn,pc,dA,dn,dc,yA,yn,yc,fA,fn,fc,rA,rn,rc,rfl,hrow,hhd,hfl,hrw⟩:=EB hk2 hg;have hfn:=hfl.len;rw [bZ] at hfn;subst hfn;have hrn:=hrw.len;rw [bZ] at hrn;subst hrn;have hzs:=Yp hk2;have hzi:=oK l[k];have Jy:=Mj (jr hk2);rw [anD hk2] at hX;obtain ⟨x,hx⟩:∃ x,x=l[k]:=⟨_,rfl⟩;rw [← hx] at hX hrow hhd hfl hrw hzs hzi Jy;have hcl:=FR x.text
  have Wy:gP x≤x.text.size+1:=by unfold gP;split <;> omega
  have pJ:∀ e s9,e≠0→fK (aN st li rv) body note t x s1=(e,s9)→R.1=e:=fun e s9 h1 h2=>by rw [← hX,h2,uU (by exact h1)]
  have hN:∀ {s9},fK (aN st li rv) body note t x s1=(0,s9)→iG (aN st li rv) body note t (l.drop (k+1)) s9=R:=fun {s9} h2=>by rw [h2,uw rfl] at hX;exact hX
  have jy:=Oq (aN st li rv) body note t x s1;refine kP H (Kc K4 (SQ fun _ K6=>SB (SR fun _ K7=>Rm rfl (Rm rfl (Ri iN dB rfl rfl ?_)))));clear H K4;intro a H;refine bD dB (cs:=[vi x.kind,vi x.code,vi x.id,.string x.text,.slice pA pn pc,vi x.head.marks.ins,vi x.head.marks.move,.slice dA dn dc,.slice yA yn yc,.slice fA x.flow.length fc,.slice rA x.rows.length rc]) H wn rfl rfl (fun j v hj=>H.hp.aH (hrow j v hj)) rfl ?_;clear H;intro a H;refine dR dB H wn rfl ?_;clear H;intro b12 a w Gp H;refine bO dB 0 (vs:=[_,_,_,_,_,_,_,_,_,_,_]) _ H wn rfl rfl rfl rfl rfl rfl rfl rfl ?_;clear H;intro w H;dsimp only [List.set,setRow] at H;refine K7 _ _ ?_;clear K7;refine aO (fun _ K8=>?_);refine dz (fun _ K9=>?_);refine bD dB (cs:=[vi x.kind,vi x.code,vi x.id,.string x.text,.slice pA pn pc,vi x.head.marks.ins,vi x.head.marks.move,.slice dA dn dc,.slice yA yn yc,.slice fA x.flow.length fc,.slice rA x.rows.length rc]) H wn rfl rfl (H.hp.eu 0 rfl rfl) rfl ?_;clear H;intro a H;refine s_call ahU H wn rfl (anZ _ _ H.ro x _ _ _ _ _ _ _ (by omega)) rfl ?_;clear H;rintro v31 _ a w ⟨rfl,rfl⟩ - H;refine kH H (ak K9 rfl (SR fun _ aZ=>Rm rfl (Rc rfl (Kz aZ (Cd rfl ?_ ?_))))) <;> clear H K9 aZ
  ·intro qh a H
   try have p33:=dT qh
   refine aO (fun _ bN=>?_);have hF:=pJ (jW x) s1 p33 (by rw [jy,uU (by exact p33)]);exact kP H (SC (Rm rfl (aM bN rfl (LR results68 rfl fun H=>H.hp.dh (L':=jl D b v1 s1.n :: L1) (by repeat (first|exact dx _|apply List.Sublist.cons)) ⟨rfl,v1,L1,s1,aC vi hF.symm,rfl,hv1,fun h=>absurd (hF.symm.trans h) p33⟩))))
  intro qh a H
  try have p33:=dF qh
  have e1:jW x=0:=gF.1 p33;rw [uw (r:=(jW x,s1)) e1] at jy;dsimp only at jy;refine kP H (Kc K8 (SR fun _ bQ=>aW uz gX 0 rfl rfl ?_));clear H K8;intro a H;refine s_call Qa H wn rfl (PV _ _ H.ro x.text (by omega)) rfl ?_;clear H;rintro v38 _ a w ⟨rfl,rfl⟩ - H;refine kH H (Rm rfl ?_);clear H;intro a H;(iterate 2 refine lD H wn rfl rfl rfl ?_;clear H;intro a H);refine kH H (Ra rfl (ak bQ rfl ?_));clear H bQ;intro a H;refine oO (ι:=Int) (Tc:=[(0,_),(1,_),(2,_),(3,_),(4,_),(11,_),(12,_)]) (Lc:=[(_,_),(_,_)]) (fun gh=>[(14,vi gh)]) (fun gh=>[]++L1) (fun gh=>G) (fun gh=>gh=(gP x:Nat)) (by exact (H).sub ⟨rfl,rfl,rfl,rfl,rfl,rfl,rfl,av⟩) ?_ ?_
  ·skip;refine kP H (SR fun _ bT=>aW gG aD 0 rfl rfl (Rc rfl (Kz bT (Cd rfl ?_ ?_)))) <;> clear H bT
   ·intro h43 a H
    try have p43:=dT h43
    refine kP H (SC (Ra rfl ?_));clear H;intro a H;refine aI ?_;refine ⟨_,by exact (H).sub ⟨rfl,rfl,rfl,rfl,rfl,rfl,rfl,rfl,av⟩,?_⟩
    unfold gP;first|rw [au (by simpa using p43)]|(rw [ah (by simpa using p43)];rfl)
   intro h43 a H
   try have p43:=dF h43
   refine fI ?_;refine ⟨_,by exact (H).sub ⟨rfl,rfl,rfl,rfl,rfl,rfl,rfl,rfl,av⟩,?_⟩
   unfold gP;first|rw [au (by simpa using p43)]|(rw [ah (by simpa using p43)];rfl)
  clear H;intro gh a w hI H;obtain ⟨un,hgh⟩:∃ x,x=gh:=⟨_,rfl⟩;subst hgh;have hun:=hI;dsimp only [lca,aS] at H;refine kP H (SR fun _ cu=>Rm rfl (Rm rfl (Rk rfl (aW Ur aD 1 rfl rfl (Rm rfl (Rd rfl (Rk rfl (Rf Ur rfl ?_))))))));clear H;intro a H;refine bO aD 1 (vs:=[_]) _ H wn rfl rfl rfl rfl rfl rfl rfl rfl ?_;clear H;intro w H;dsimp only [List.set,setRow] at H;refine cu _ _ ?_;clear cu;refine kP H (SQ fun _ dL=>SB (SQ fun _ dO=>?_));clear H;intro a H
  have hsn:s1.n+un=s1.n+(gP x:Nat):=by omega
  rw [hsn] at H;obtain ⟨s2,hs2⟩:∃ s2:CS,s2=⟨s1.n+(gP x:Nat),s1.bE⟩:=⟨_,rfl⟩;rw [← hs2] at jy
  have acv:s2.n=s1.n+(gP x:Nat):=by rw [hs2]
  have QU:s2.bE=s1.bE:=by rw [hs2]
  rw [← acv] at H;rw [← QU] at hv1;refine oD ?_;refine oJ (ι:=Bool) (Tc:=[(0,_),(1,_),(2,_),(3,_),(4,_),(11,_),(12,_)]) 15 (fun (q1:Bool)=>[(68,.bool q1)]) (fun (q1:Bool)=>q1=(decide (x.kind=3) && !body || decide (x.kind=6) && note)) (by exact H.sub ⟨rfl,rfl,rfl,rfl,rfl,rfl,rfl,av⟩) ?_ ?_
  ·intro Gj;refine kH H (aW gG aD 0 rfl rfl (Rc rfl (Rm rfl (Sp 57 rfl ?_ ?_)))) <;> clear H
   ·intro h57 a H
    try have p57:=dT h57
    refine kH H (YM h57 rfl (YN h57 rfl (Pt h57 rfl (Rm rfl (Sp 61 rfl ?_ ?_))))) <;> clear H
    ·intro ql a H
     try have p61:=dT ql
     refine kH H (aP ql rfl (aP ql rfl (Ku rfl (Ks ql rfl (Pt ql rfl ?_)))));clear H;intro a H;refine Gj (_) _ _ ?_ (by exact H.sub ⟨rfl,rfl,rfl,rfl,rfl,rfl,rfl,rfl,av⟩)
     clear jy pJ hN hX;first|(simp_all;done)|(simp_all;omega)
    intro ql a H
    try have p61:=dF ql
    refine kH H (YF gG ql rfl (YO aD 0 ql rfl (YC ql rfl (YM ql rfl (Sp 65 rfl ?_ ?_))))) <;> clear H
    ·intro lq a H
     try have p65:=dT lq
     refine kH H (YM lq rfl (PT ql lq rfl (Pf ql rfl ?_)));clear H;intro a H;refine Gj (_) _ _ ?_ (by exact H.sub ⟨rfl,rfl,rfl,rfl,rfl,rfl,rfl,rfl,av⟩)
     clear jy pJ hN hX;first|(simp_all;done)|(simp_all;omega)
    intro lq a H
    try have p65:=dF lq
    refine kH H (Ks lq rfl (PF ql lq rfl (Pf ql rfl ?_)));clear H;intro a H;refine Gj (_) _ _ ?_ (by exact H.sub ⟨rfl,rfl,rfl,rfl,rfl,rfl,rfl,rfl,av⟩)
    clear jy pJ hN hX;first|(simp_all;done)|(simp_all;omega)
   intro h57 a H
   try have p57:=dF h57
   refine kH H (aP h57 rfl (Pf h57 rfl (Rm rfl ?_)));clear H;intro a H;refine GZ gG H (wg H rfl rfl rfl) rfl rfl ?_;clear H;intro a H;refine Af aD H (wg H rfl rfl rfl) rfl (H.hp.pQ 0 rfl rfl) rfl ?_;clear H;intro a H;refine GX H (wg H rfl rfl rfl) rfl rfl rfl rfl ?_;clear H;intro a H;refine mE H (wg H rfl rfl rfl) rfl rfl ?_;clear H;intro a H;refine RU H 65 rfl ?_ ?_
   ·intro lq
    try have p65:=dT lq
    refine kH H (YM lq rfl ?_);clear H;intro a H;refine E8 H (wg H rfl rfl rfl) rfl lq rfl rfl ?_;clear H;intro a H;refine kH H (Pf rfl rfl ?_);clear H;intro a H;refine Gj (_) _ _ ?_ (by exact H.sub ⟨rfl,rfl,rfl,rfl,rfl,rfl,rfl,rfl,av⟩)
    clear jy pJ hN hX;first|(simp_all;done)|(simp_all;omega)
   intro lq
   try have p65:=dF lq
   refine kH H (Ks lq rfl ?_);clear H;intro a H;refine JY H (wg H rfl rfl rfl) rfl lq rfl rfl ?_;clear H;intro a H;refine kH H (Pf rfl rfl ?_);clear H;intro a H;refine Gj (_) _ _ ?_ (by exact H.sub ⟨rfl,rfl,rfl,rfl,rfl,rfl,rfl,rfl,av⟩)
   clear jy pJ hN hX;first|(simp_all;done)|(simp_all;omega)
  clear H;intro q1 a w hI H;dsimp only [lca,aS] at H;simp only [ow,lK];have hq1:=hI;refine kH H (aM dO rfl (Cd rfl ?_ ?_)) <;> clear H dO
  ·intro gV a H
   try have p53:=dT gV
   refine aO (fun _ dJ=>?_);have hF:=pJ 19 s2 (by decide) (by rw [jy,aoZ hq1 gV,uU (r:=(19,s2)) (show (19:Int)≠0 by decide)]);exact kP H (SC (aM dJ rfl (LR results68 rfl fun H=>H.hp.dh (L':=jl D b v1 s2.n :: L1) (by repeat (first|exact dx _|apply List.Sublist.cons)) ⟨rfl,v1,L1,s2,aC vi hF.symm,rfl,hv1,fun h=>absurd (hF.symm.trans h) (by decide)⟩)))
  intro gV a H
  try have p53:=dF gV
  have V7:¬ (decide (x.kind=3) && !body || decide (x.kind=6) && note)=true:=by rw [← hq1,gV];decide
  refine dz (fun _ dW=>?_);refine oJ (ι:=Bool) (Tc:=[(0,_),(1,_),(2,_),(3,_),(4,_),(11,_),(12,_)]) 7 (fun (q2:Bool)=>[(76,.bool q2)]) (fun (q2:Bool)=>q2=(decide (x.kind=7) && decide (4≤t))) (by exact H.sub ⟨rfl,rfl,rfl,rfl,rfl,rfl,rfl,av⟩) ?_ ?_
  ·intro Ny;refine kH H (aW gG aD 0 rfl rfl (Rc rfl (Rm rfl (Sp 73 rfl ?_ ?_)))) <;> clear H
   ·intro lM a H
    try have p73:=dT lM
    refine kH H (YM lM rfl (YC lM rfl (Pt lM rfl ?_)));clear H;intro a H;refine Ny (_) _ _ ?_ (by exact H.sub ⟨rfl,rfl,rfl,rfl,rfl,rfl,rfl,rfl,av⟩)
    clear jy pJ hN hX;first|(simp_all;done)|(simp_all;omega)
   intro lM a H
   try have p73:=dF lM
   refine kH H (aP lM rfl (Pf lM rfl ?_));clear H;intro a H;refine Ny (_) _ _ ?_ (by exact H.sub ⟨rfl,rfl,rfl,rfl,rfl,rfl,rfl,rfl,av⟩)
   clear jy pJ hN hX;first|(simp_all;done)|(simp_all;omega)
  clear H;intro q2 a w hI H;dsimp only [lca,aS] at H;simp only [ow,lK];have hq2:=hI;refine kH H (ak dW rfl (Cd rfl ?_ ?_)) <;> clear H dW
  ·intro iq a H
   try have p69:=dT iq
   refine aO (fun _ eG=>?_);rw [iq] at hq2;have hq3:=Bool.and_eq_true_iff.1 hq2.symm;have hF:=pJ 17 s2 (by decide) (by rw [jy,pE hq3.1,aoX (pE hq3.2),uU (r:=(17,s2)) (show (17:Int)≠0 by decide)]);exact kP H (SC (aM eG rfl (LR results68 rfl fun H=>H.hp.dh (L':=jl D b v1 s2.n :: L1) (by repeat (first|exact dx _|apply List.Sublist.cons)) ⟨rfl,v1,L1,s2,aC vi hF.symm,rfl,hv1,fun h=>absurd (hF.symm.trans h) (by decide)⟩)))
  intro iq a H
  try have p69:=dF iq
  have QS:x.kind=7→¬ 4≤t:=fun h1 h2=>by rw [iq,gq h1,gq h2] at hq2;cases hq2
  refine dz (fun _ eB=>?_);refine oJ (ι:=Bool) (Tc:=[(0,_),(1,_),(2,_),(3,_),(4,_),(11,_),(12,_)]) 13 (fun (q3:Bool)=>[(90,.bool q3)]) (fun (q3:Bool)=>q3=(decide (x.kind=8) && !decide (1≤x.id∧x.id≤1073741824))) (by exact H.sub ⟨rfl,rfl,rfl,rfl,rfl,rfl,rfl,av⟩) ?_ ?_
  ·intro Vm;refine kH H (aW gG aD 0 rfl rfl (Rc rfl (Rm rfl (Sp 81 rfl ?_ ?_)))) <;> clear H
   ·intro tQ a H
    try have Bg:=dT tQ
    refine kH H (YF qg tQ rfl (YO aD 0 tQ rfl (YC tQ rfl (YM tQ rfl (Sp 85 rfl ?_ ?_))))) <;> clear H
    ·intro ng a H
     try have Xp:=dT ng
     refine kH H (aT ng rfl (PT tQ ng rfl (Pt tQ rfl ?_)));clear H;intro a H;refine Vm (_) _ _ ?_ (by exact H.sub ⟨rfl,rfl,rfl,rfl,rfl,rfl,rfl,rfl,av⟩)
     clear jy pJ hN hX;first|(rw [iC Bg];rfl)|(rw [gq Bg,iC (by omega)];rfl)|(rw [gq Bg,vR,← decide_not];exact decide_eq_decide.2 (by omega))
    intro ng a H
    try have Xp:=dF ng
    refine kH H (YF qg ng rfl (YO aD 0 ng rfl (YC ng rfl (PF tQ ng rfl (Pt tQ rfl ?_)))));clear H;intro a H;refine Vm (_) _ _ ?_ (by exact H.sub ⟨rfl,rfl,rfl,rfl,rfl,rfl,rfl,rfl,av⟩)
    clear jy pJ hN hX;first|(rw [iC Bg];rfl)|(rw [gq Bg,iC (by omega)];rfl)|(rw [gq Bg,vR,← decide_not];exact decide_eq_decide.2 (by omega))
   intro tQ a H
   try have Bg:=dF tQ
   refine kH H (aP tQ rfl (aP tQ rfl (Ku rfl (Ku rfl (Ku rfl (Ks tQ rfl (Pf tQ rfl ?_)))))));clear H;intro a H;refine Vm (_) _ _ ?_ (by exact H.sub ⟨rfl,rfl,rfl,rfl,rfl,rfl,rfl,rfl,av⟩)
   clear jy pJ hN hX;first|(rw [iC Bg];rfl)|(rw [gq Bg,iC (by omega)];rfl)|(rw [gq Bg,vR,← decide_not];exact decide_eq_decide.2 (by omega))
  clear H;intro q3 a w hI H;dsimp only [lca,aS] at H;simp only [ow,lK];have hq3:=hI;refine kH H (ak eB rfl (Cd rfl ?_ ?_)) <;> clear H eB
  ·intro vw a H
   try have DV:=dT vw
   refine aO (fun _ eH=>?_);rw [vw] at hq3;have hq4:=Bool.and_eq_true_iff.1 hq3.symm
   have iF:¬ (1≤x.id∧x.id≤1073741824):=by have:=hq4.2;simp at this;omega
   have hF:=pJ 18 s2 (by decide) (by rw [jy,pE hq4.1,aoY iF,uU (r:=(18,s2)) (show (18:Int)≠0 by decide)]);exact kP H (SC (aM eH rfl (LR results68 rfl fun H=>H.hp.dh (L':=jl D b v1 s2.n :: L1) (by repeat (first|exact dx _|apply List.Sublist.cons)) ⟨rfl,v1,L1,s2,aC vi hF.symm,rfl,hv1,fun h=>absurd (hF.symm.trans h) (by decide)⟩)))
  intro vw a H
  try have DV:=dF vw
  have V8:x.kind=8→1≤x.id∧x.id≤1073741824:=fun h1=>by rw [vw,gq h1] at hq3;simpa using hq3
  rw [apb V7 QS V8] at jy;refine fI ?_;refine dL _ _ ?_;clear dL;refine oO (ι:=CS × aj × OL) (Tc:=[(0,_),(1,_),(2,_),(3,_),(4,_),(11,_),(12,_)]) (Lc:=[(_,_)]) (fun gh=>[]) (fun gh=>[jl D b gh.2.1 gh.1.n]++gh.2.2) (fun gh=>G) (fun gh=>(fK (aN st li rv) body note t x s1=gK (gB (aN st li rv) x.kind x.head,gh.1) fun s=>if x.kind=6 then iG (aN st li rv) false true t x.flow s else if x.kind=7 then lC x.rows.length (fun s=>iw (aN st li rv) note (t+1) x.rows s) s else (0,s))∧yj gh.2.1 gh.1.bE gh.2.2 L0∧gh.1.n=s1.n+(gP x:Nat)∧gh.1.bE.length≤s1.bE.length+1) (by exact (H).sub ⟨rfl,rfl,rfl,rfl,rfl,rfl,rfl,av⟩) ?_ ?_
  ·skip;refine dz (fun _ fO=>?_);refine oJ (ι:=Bool) (Tc:=[(0,_),(1,_),(2,_),(3,_),(4,_),(11,_),(12,_)]) 8 (fun (q4:Bool)=>[(98,.bool q4)]) (fun (q4:Bool)=>q4=decide (x.kind=6∨x.kind=7)) (by exact H.sub ⟨rfl,rfl,rfl,rfl,rfl,rfl,rfl,av⟩) ?_ ?_
   ·intro Nz;refine kH H (aW gG aD 0 rfl rfl (Rc rfl (Rm rfl (Sp 94 rfl ?_ ?_)))) <;> clear H
    ·intro EI a H
     try have p94:=dT EI
     refine kH H (aT EI rfl (Pt EI rfl ?_));clear H;intro a H;refine Nz (_) _ _ ?_ (by exact H.sub ⟨rfl,rfl,rfl,rfl,rfl,rfl,rfl,rfl,av⟩)
     clear jy pJ hN hX V7 QS V8;first|(simp_all;done)|(simp_all;omega)
    intro EI a H
    try have p94:=dF EI
    refine kH H (YF gG EI rfl (YO aD 0 EI rfl (YC EI rfl (Pf EI rfl ?_))));clear H;intro a H;refine Nz (_) _ _ ?_ (by exact H.sub ⟨rfl,rfl,rfl,rfl,rfl,rfl,rfl,rfl,av⟩)
    clear jy pJ hN hX V7 QS V8;first|(simp_all;done)|(simp_all;omega)
   clear H;intro q4 a w hI H;dsimp only [lca,aS] at H;simp only [ow,lK];have hq4:=hI;refine fO _ _ ?_;clear fO;refine oN H rfl ?_ ?_
   ·intro oQ
    try have OG:=dT oQ
    have xC:x.kind=6∨x.kind=7:=by rw [oQ] at hq4;exact pE hq4.symm
    rw [au xC] at jy;refine kP H (SR fun _ gJ=>Rm rfl (aW qg aD 0 rfl rfl ?_));clear H;intro a H;refine iH aat (Li:=[_]) (L:=jl D b v1 s2.n :: L1) H wn rfl (adh _ _ L0 _ D b v1 s2 x.id hv1 (Hp.owns (Li:=[_]) H.hp) (by rw [QU];omega)) rfl ?_;clear H;rintro atz _ _ a w ⟨rfl,v2,L2,rfl,rfl,hv2⟩ - H;dsimp only [lca,aS] at H;refine kH H (ak gJ rfl (SR fun _ gT=>Rm rfl (Rc rfl (Kz gT (Cd rfl ?_ ?_))))) <;> clear H gJ gT
    ·intro UH a H
     try have OA:=dT UH
     refine aO (fun _ gM=>?_);have hF:=pJ (jL s2 x.id).1 _ OA (by rw [jy,uU OA]);exact kP H (SC (Rm rfl (aM gM rfl (LR results68 rfl fun H=>H.hp.dh (L':=jl D b v2 s2.n :: L2) (by repeat (first|exact dx _|apply List.Sublist.cons)) ⟨rfl,v2,L2,⟨s2.n,(jL s2 x.id).2.bE⟩,aC vi hF.symm,rfl,hv2,fun h=>absurd (hF.symm.trans h) OA⟩))))
    intro UH a H
    try have OA:=dF UH
    have PX:(jL s2 x.id).1=0:=gF.1 OA;rw [uw PX] at jy;have hub:=Sb s2 x.id
    unfold lV at hub
    obtain ⟨s3,hs3⟩:∃ s3,s3=(jL s2 x.id).2:=⟨_,rfl⟩
    have Ll:s3.n=s2.n:=by rw [hs3];rfl
    rw [← hs3] at hv2 hub jy;rw [← Ll] at H
    have hsb:s3.bE.length≤s1.bE.length+1:=by rw [← QU];omega
    refine fI ?_;refine ⟨(s3,v2,L2),by exact (H).sub ⟨rfl,rfl,rfl,rfl,rfl,rfl,rfl,av⟩,?_⟩;(try dsimp only);exact ⟨jy,hv2,by omega,hsb⟩
   intro oQ
   try have OG:=dF oQ
   have xC:¬ (x.kind=6∨x.kind=7):=by rw [oQ] at hq4;exact of_decide_eq_false hq4.symm
   rw [ah xC,uw rfl] at jy;dsimp only at jy;have hw2:=hv1
   have hsb:s2.bE.length≤s1.bE.length+1:=by rw [QU];omega
   refine fI ?_;refine ⟨(s2,v1,L1),by exact (H).sub ⟨rfl,rfl,rfl,rfl,rfl,rfl,rfl,av⟩,?_⟩;(try dsimp only);exact ⟨jy,hv1,acv,hsb⟩
  clear H;intro gh a w hI H;obtain ⟨s3,v3,L3⟩:=gh;dsimp only at hI H;clear jy hv1;obtain ⟨jy,hv3,Ll,hsb⟩:=hI;dsimp only [lca,aS] at H;refine kP H (SQ fun _ jh=>SR fun _ jo=>Rm rfl (aW gG aD 0 rfl rfl (Rf Ew rfl ?_)));clear H;intro a H;refine bD nC (cs:=[.slice pA pn pc,vi x.head.marks.ins,vi x.head.marks.move,.slice dA dn dc,.slice yA yn yc]) H wn rfl rfl (H.hp.eu 0 rfl rfl) rfl ?_;clear H;intro a H;refine iH P7 (Li:=[_]) (L:=jl D b v3 s3.n :: L3) H wn rfl (Rh _ _ _ D st li rv b v3 s3.n hck hmz (Hp.owns (Li:=[_]) H.hp) x.kind x.head _ _ _ hhd (by omega)) rfl ?_;clear H;rintro aeW _ _ a w ⟨rfl,rfl,rfl⟩ - H;dsimp only [lca,aS] at H;refine kH H (ak jo rfl (SR fun _ iU=>Rm rfl (Rc rfl (Kz iU (Cd rfl ?_ ?_))))) <;> clear H jo iU
  ·intro sG a H
   try have GN:=dT sG
   refine aO (fun _ kX=>?_);have hF:=pJ (gB (aN st li rv) x.kind x.head) s3 GN (by rw [jy,uU (by exact GN)]);exact kP H (SC (Rm rfl (aM kX rfl (LR results68 rfl fun H=>H.hp.dh (L':=jl D b v3 s3.n :: L3) (by repeat (first|exact dx _|apply List.Sublist.cons)) ⟨rfl,v3,L3,s3,aC vi hF.symm,rfl,hv3,fun h=>absurd (hF.symm.trans h) GN⟩))))
  intro sG a H
  try have GN:=dF sG
  rw [uw (r:=(gB (aN st li rv) x.kind x.head,s3)) (gF.1 GN)] at jy;dsimp only at jy;refine fI ?_;refine jh _ _ ?_;clear jh;refine oO (ι:=CS × aj × OL) (Tc:=[(0,_),(1,_),(2,_),(3,_),(4,_),(11,_),(12,_)]) (Lc:=[(_,_)]) (fun gh=>[]) (fun gh=>[jl D b gh.2.1 gh.1.n]++gh.2.2) (fun gh=>G) (fun gh=>(fK (aN st li rv) body note t x s1=if x.kind=7 then lC x.rows.length (fun s=>iw (aN st li rv) note (t+1) x.rows s) gh.1 else (0,gh.1))∧yj gh.2.1 gh.1.bE gh.2.2 L0∧(x.kind=7→gh.1.n=s1.n+(gP x:Nat)∧gh.1.bE.length≤s1.bE.length+1)) (by exact (H).sub ⟨rfl,rfl,rfl,rfl,rfl,rfl,rfl,av⟩) ?_ ?_
  ·skip;refine kP H (SR fun _ kY=>aW gG aD 0 rfl rfl (Rc rfl (Kz kY (Cd rfl ?_ ?_)))) <;> clear H kY
   ·intro UK a H
    try have Xe:=dT UK
    rw [au Xe] at jy;refine kP H (SR fun _ jT=>Rm rfl (aW yI iM 0 rfl rfl (Rm rfl ?_)));clear H;intro a H;refine iH Ua (Li:=[_]) (L:=jl D b v3 s3.n :: L3) H wn rfl (ih _ _ L0 _ D st li rv b v3 s3 x.flow _ false true t hck hmz hv3 (Hp.owns (Li:=[_]) H.hp) hfl (by omega) ht0 Ck (by omega) (by omega) (by omega)) rfl ?_;clear H;rintro atI _ _ a w ⟨rfl,v5,L5,s5,rfl,rfl,hv5,h5⟩ - H;dsimp only [lca,aS] at H;refine kH H (ak jT rfl (SR fun _ lG=>Rm rfl (Rc rfl (Kz lG (Cd rfl ?_ ?_))))) <;> clear H jT lG
    ·intro UM a H
     try have Rt:=dT UM
     refine aO (fun _ lH=>?_);have hF:=pJ _ _ Rt jy;exact kP H (SC (Rm rfl (aM lH rfl (LR results68 rfl fun H=>H.hp.dh (L':=jl D b v5 s5.n :: L5) (by repeat (first|exact dx _|apply List.Sublist.cons)) ⟨rfl,v5,L5,s5,aC vi hF.symm,rfl,hv5,fun h=>absurd (hF.symm.trans h) Rt⟩))))
    intro UM a H
    try have Rt:=dF UM
    have aar:=gF.1 Rt;have hs5:=h5 aar
    have alT:fK (aN st li rv) body note t x s1=if x.kind=7 then lC x.rows.length (fun s=>iw (aN st li rv) note (t+1) x.rows s) s5 else (0,s5):=by rw [ah (by omega),jy,hs5,← aar]
    refine fI ?_;refine ⟨(s5,v5,L5),by exact (H).sub ⟨rfl,rfl,rfl,rfl,rfl,rfl,rfl,av⟩,?_⟩;(try dsimp only);exact ⟨alT,hv5,fun h=>by omega⟩
   intro UK a H
   try have Xe:=dF UK
   rw [ah Xe] at jy;refine fI ?_;refine ⟨(s3,v3,L3),by exact (H).sub ⟨rfl,rfl,rfl,rfl,rfl,rfl,rfl,av⟩,?_⟩;(try dsimp only);exact ⟨jy,hv3,fun _=>⟨Ll,hsb⟩⟩
  clear H;intro gh a w hI H;obtain ⟨s3,v3,L3⟩:=gh;dsimp only at hI H;clear jy hv3;obtain ⟨jy,hv3,amF⟩:=hI;dsimp only [lca,aS] at H;refine kP H (SR fun _ kL=>aW gG aD 0 rfl rfl (Rc rfl (Kz kL (Cd rfl ?_ ?_)))) <;> clear H kL
  ·intro h128 a H
   try have EW:=dT h128
   rw [au EW] at jy;obtain ⟨Ll,hsb⟩:=amF EW;have ht7:=QS EW;refine kP H (SR fun _ mQ=>Rm rfl (aW rC rR 0 rfl rfl (Rm rfl (Rm rfl (Rd rfl ?_)))));clear H;intro a H;refine iH ahV (Li:=[_]) (L:=jl D b v3 s3.n :: L3) H wn rfl (aoa ih hm _ _ L0 _ D st li rv b v3 s3 x.rows _ note (t+1) hck hmz hv3 (Hp.owns (Li:=[_]) H.hp) hrw (by omega) (by omega) (by omega) (by omega) (by omega) (by omega)) rfl ?_;clear H;rintro atN _ _ a w ⟨rfl,v6,L6,s6,rfl,rfl,hv6,h6⟩ - H;dsimp only [lca,aS] at H;refine kH H (ak mQ rfl (SR fun _ mR=>Rm rfl (Rc rfl (Kz mR (Cd rfl ?_ ?_))))) <;> clear H mQ mR
   ·intro UO a H
    try have Ru:=dT UO
    refine aO (fun _ nD=>?_);have hF:=pJ _ _ Ru jy;exact kP H (SC (Rm rfl (aM nD rfl (LR results68 rfl fun H=>H.hp.dh (L':=jl D b v6 s6.n :: L6) (by repeat (first|exact dx _|apply List.Sublist.cons)) ⟨rfl,v6,L6,s6,aC vi hF.symm,rfl,hv6,fun h=>absurd (hF.symm.trans h) Ru⟩))))
   intro UO a H
   try have Ru:=dF UO
   have e137:=gF.1 Ru
   have QA:fK (aN st li rv) body note t x s1=(0,s6):=by rw [jy,h6 e137,← e137]
   refine kP H (Kc K6 (SC (Rm rfl (Rd rfl (Ra rfl ?_)))));clear H K6;intro a H;refine aI ?_;refine dP ((k+1,s6,v6,L6)) (by exact (H.dK (Pl:=[_,_]) (dw:=[_]) [1] (by decide) rfl).sub ⟨rfl,rfl,rfl,rfl,rfl,rfl,av⟩) ?_ ?_
   ·(try dsimp only);exact ⟨by omega,hN QA,hv6,by have:=Kq QA;omega,by have:=Kq QA;omega,by have:=Kq QA;omega⟩
   first|omega|(dsimp only;omega)
  intro h128 a H
  try have EW:=dF h128
  rw [ah EW] at jy;refine kP H (Kc K6 (SC (Rm rfl (Rd rfl (Ra rfl ?_)))));clear H K6;intro a H;refine aI ?_;refine dP ((k+1,s3,v3,L3)) (by exact (H.dK (Pl:=[_,_]) (dw:=[_]) [1] (by decide) rfl).sub ⟨rfl,rfl,rfl,rfl,rfl,rfl,av⟩) ?_ ?_
  ·(try dsimp only);exact ⟨by omega,hN jy,hv3,by have:=Kq jy;omega,by have:=Kq jy;omega,by have:=Kq jy;omega⟩
  first|omega|(dsimp only;omega)
 intro h23 a H
 try have DU:=dF h23
 have hk3:l.drop k=[]:=gy (by omega);rw [hk3,iG] at hX;refine eD ?_;refine K2 _ _ ?_;clear K2;exact kP H (SR fun _ rX=>ak rX rfl (LR results68 rfl fun H=>H.hp.gL ⟨rfl,v1,L1,s1,aC vi (by rw [← hX]),rfl,hv1,fun _=>by rw [← hX]⟩))
theorem adg:∀ m:Nat,m≤4294967297→O8 m
 | 0,_=>fun _ _ _ _ _ _ _ _ _ _ _ _ _ _ _ _ _ _ _ _ _ h=>absurd h (by omega)
 | m+1,hm=>anV (adg m (by omega)) (by omega)
end
section
open Go.RowKit
theorem aqy (G:GH) (w0:World) (hG:Hold G w0) (s:wO) (a b c d:aj) (hR:Ef G s a b c d) (hsl:s.styles.length≤4294967296) (hz:MK s) :
  Calls prog 16 #[.agg #[a,b,c,d]] w0 (bR w0 G fun u G'=>∃ r,u=.bool r):=by
 obtain ⟨sA,sc,rfl,-,-,-⟩:=hR.st.slice;obtain ⟨lA,lc,rfl,-,-,-⟩:=hR.li.slice;obtain ⟨cA,cc,rfl,-,-,-⟩:=hR.cm.slice;obtain ⟨vA,vc,rfl,-,-,-⟩:=hR.va.slice;have hl1:=hz.ln
 simp only [bZ] at hR ⊢
 refine eN [(0,_)] func16 rfl ntmps16 rfl rfl hG ?_;intro a H;refine dz (fun _ K1=>?_);refine eU (cs:=[_,_,_,_]) H wn rfl rfl rfl ?_;clear H;intro b1 a w hb1 H;refine kH H (ak K1 rfl (SQ fun _ K2=>SQ fun _ K3=>?_));clear H K1;intro a H;obtain ⟨Ga,hma,hb1',H⟩:=H.fD
 have hc0:aH Ga b1 0=some (.slice sA s.styles.length sc):=by unfold aH;rw [hb1'];rfl
 have hc1:aH Ga b1 1=some (.slice lA s.lists.length lc):=by unfold aH;rw [hb1'];rfl
 have hc2:aH Ga b1 2=some (.slice cA s.comments.length cc):=by unfold aH;rw [hb1'];rfl
 have hc3:aH Ga b1 3=some (.slice vA s.vars.length vc):=by unfold aH;rw [hb1'];rfl
 have hst:=hR.st.mono hma;have xG:=hR.li.mono hma;refine kP H (SC (Rf FY rfl (Rg rT rfl (by assumption) ?_)));clear H;intro a H;refine kH H (Rl oo rfl (Rc rfl (Rm rfl (Sp 9 rfl ?_ ?_)))) <;> clear H
 ·intro h9 a H
  exact kH H (aP h9 rfl (aP h9 rfl (Pt h9 rfl (Rm rfl (aP rfl rfl (aP rfl rfl (Pt rfl rfl (Rm rfl (aP rfl rfl (aP rfl rfl (Pt rfl rfl (Kn K3 (Ct rfl rfl (SR fun _ K4=>ak K4 rfl (LR results16 rfl fun H=>H.rt ⟨_,rfl⟩)))))))))))))))
 intro h9 a H
 try have p9:=dF h9
 refine kH H (YF BO h9 rfl (YR xV h9 rfl (by assumption) ?_));clear H;intro a H;refine kH H (YL xW h9 rfl (YC h9 rfl (Pf h9 rfl (Rm rfl (Sp 15 rfl ?_ ?_))))) <;> clear H
 ·intro jO a H
  exact kH H (aP jO rfl (aP jO rfl (Pt jO rfl (Rm rfl (aP rfl rfl (aP rfl rfl (Pt rfl rfl (Kn K3 (Ct rfl rfl (SR fun _ K5=>ak K5 rfl (LR results16 rfl fun H=>H.rt ⟨_,rfl⟩)))))))))))
 intro jO a H
 try have qw:=dF jO
 refine kH H (YF IQ jO rfl (YR Br jO rfl (by assumption) ?_));clear H;intro a H;refine kH H (YL Ai jO rfl (YC jO rfl (Pf jO rfl (Rm rfl (Sp 21 rfl ?_ ?_))))) <;> clear H
 ·intro h21 a H
  exact kH H (aP h21 rfl (aP h21 rfl (Pt h21 rfl (Kn K3 (Ct rfl rfl (SR fun _ K6=>ak K6 rfl (LR results16 rfl fun H=>H.rt ⟨_,rfl⟩)))))))
 intro h21 a H
 try have oV:=dF h21
 refine kH H (YF IU h21 rfl (YR vO h21 rfl (by assumption) ?_));clear H;intro a H;refine kH H (YL wK h21 rfl (YC h21 rfl (Pf h21 rfl (Kn K3 (Cd rfl ?_ ?_))))) <;> clear H K3
 ·intro fV a H
  exact kP H (SR fun _ K7=>ak K7 rfl (LR results16 rfl fun H=>H.rt ⟨_,rfl⟩))
 intro fV a H
 try have p26:=dF fV
 refine kP H (Kc K2 (SQ fun _ K8=>SR fun _ K9=>ak K9 rfl (SB ?_)));clear H K2 K9;intro a H;skip;refine fH (ι:=Nat) (Tc:=[(1,_)]) (Lc:=[]) (fun gh=>[(3,vi gh)]) (fun gh=>[]) (fun gh=>Ga) (fun gh=>gh≤s.styles.length) (fun gh=>s.styles.length - gh) (0) (by exact (H).sub ⟨rfl,rfl,av⟩) ?_ ?_
 ·exact iK _
 clear H;intro gh a w hI H;obtain ⟨k,hgh⟩:∃ x,x=gh:=⟨_,rfl⟩;subst hgh;have hk:=hI;dsimp only [lca,aS] at H;refine kP H (SQ fun _ aZ=>SR fun _ bN=>Rm rfl (Rf FY rfl (Rg rT rfl (by assumption) ?_)));clear H;intro a H;refine kH H (Rl oo rfl (Rc rfl (Kz bN (Cd rfl ?_ ?_)))) <;> clear H bN
 ·intro h31 a H
  try have p31:=dT h31
  have hk2:k < s.styles.length:=by omega
  obtain ⟨b',o',pA,pc,rfl,hrow,-,-⟩:=CF hst hk2;have hq:=hrow 5 _ rfl;refine kP H (Kc aZ (SQ fun _ bQ=>SB (SR fun _ bT=>Rf FY rfl (Rg rT rfl (by assumption) ?_))));clear H aZ;intro a H;refine kH H (Rm rfl (Ri oo lU rfl rfl (Rf Uj rfl (Rg vN rfl (by assumption) ?_))));clear H;intro a H;refine kH H (Rl oh rfl (Rc rfl (Kz bT (Cd rfl ?_ ?_)))) <;> clear H bT
  ·intro nI a H
   exact kP H (SR fun _ cu=>ak cu rfl (LR results16 rfl fun H=>H.rt ⟨_,rfl⟩))
  intro nI a H
  try have p41:=dF nI
  refine kP H (Kc bQ (SC (Rm rfl (Rd rfl (Ra rfl ?_)))));clear H bQ;intro a H;refine aI ?_;refine dP ((k+1)) (by exact (H).sub ⟨rfl,rfl,av⟩) ?_ ?_
  ·omega
  first|omega|(dsimp only;omega)
 intro h31 a H
 try have p31:=dF h31
 refine eD ?_;refine K8 _ _ ?_;clear K8;refine kP H (SQ fun _ dL=>SR fun _ dO=>ak dO rfl (SB ?_));clear H dO;intro a H;skip;refine fH (ι:=Nat) (Tc:=[(1,_)]) (Lc:=[]) (fun gh=>[(4,vi gh)]) (fun gh=>[]) (fun gh=>Ga) (fun gh=>gh≤s.lists.length) (fun gh=>s.lists.length - gh) (0) (by exact (H).sub ⟨rfl,rfl,av⟩) ?_ ?_
 ·exact iK _
 clear H;intro gh a w hI H;obtain ⟨n,hgh⟩:∃ x,x=gh:=⟨_,rfl⟩;subst hgh;have hn:=hI;dsimp only [lca,aS] at H;refine kP H (SQ fun _ dJ=>SR fun _ dW=>Rm rfl (Rf BO rfl (Rg xV rfl (by assumption) ?_)));clear H;intro a H;refine kH H (Rl xW rfl (Rc rfl (Kz dW (Cd rfl ?_ ?_)))) <;> clear H dW
 ·intro h46 a H
  try have p46:=dT h46
  have hn2:n < s.lists.length:=by omega
  obtain ⟨b',o',B,d,rfl,hrow,-⟩:=JH xG hn2;have hq:=hrow 1 _ rfl;refine kP H (Kc dJ (SQ fun _ eG=>SB (SR fun _ eB=>Rf BO rfl (Rg xV rfl (by assumption) ?_))));clear H dJ;intro a H;refine kH H (Rm rfl (Ri xW Ag rfl rfl (Rf Uk rfl (Rg X9 rfl (by assumption) ?_))));clear H;intro a H;refine kH H (Rl OU rfl (Rc rfl (Kz eB (Cd rfl ?_ ?_)))) <;> clear H eB
  ·intro qJ a H
   exact kP H (SR fun _ eH=>ak eH rfl (LR results16 rfl fun H=>H.rt ⟨_,rfl⟩))
  intro qJ a H
  try have p56:=dF qJ
  refine kP H (Kc eG (SC (Rm rfl (Rd rfl (Ra rfl ?_)))));clear H eG;intro a H;refine aI ?_;refine dP ((n+1)) (by exact (H).sub ⟨rfl,rfl,av⟩) ?_ ?_
  ·omega
  first|omega|(dsimp only;omega)
 intro h46 a H
 refine eD ?_;refine dL _ _ ?_;clear dL;exact kP H (SR fun _ fO=>ak fO rfl (LR results16 rfl fun H=>H.rt ⟨_,rfl⟩))
end
section
open Go.RowKit
end
section
open Go.RowKit
end
section
open Go.RowKit
def akl (t:Int) (a:Nat × ay):Bool:=decide ((a.1:Int)+gP a.2≤t)
def lA (t:Int) (A:List (Nat × ay)):List ay:=(A.filter (akl t)).map (·.2)
end
section
open Go.RowKit
section
variable {N:Nat} {D:List Deferred} {w0:World} {F:Nat→Prop} {G0 G:GH} {L Lo:OL} {T:List (Nat × aj)}
variable {r:Option Nat} {P:Program} {ops:Array Oper} {Q:Exit→Act→World→Prop} {rest:List Oper} {a:Act} {w:World}
variable {d:Nat} {ty:TypeId} {pos:String} {aV:Array Edge} {g:Option (Nat × Bool)}
end
end
section
open Go.RowKit
theorem iP.at {w0 w:World} {F:Nat→Prop} {G0 G:GH} {L Lo:OL} {e sz n c b o:Nat} {xs:List aj} (h:iP e sz (.slice (some ⟨b,o,none⟩) n c) n xs Lo) (H:Hp w0 F G0 G L w) (hsub:∀ x∈Lo,x∈L) {i:Nat} {u:aj} (hi:xs[i]?=some u):w.cell? ⟨b,i,none⟩=some u:=by
 rcases h.2 with ⟨h1,_⟩|⟨b2,cap,cur,he,hl,h1,h2,h3,h4⟩
 ·cases h1
 ·injection he with e1
  injection e1 with e1
  injection e1 with e1
  subst e1
  refine H.adn (c:=cur) (e:=e) (fz:=(0,0)) (hsub _ (by rw [hl];exact List.mem_singleton_self _)) ?_
  have hx:i < xs.length:=(mM.1 hi).1
  rw [h.1] at hx
  rw [← h4,Ay,au hx,Array.getElem?_toList] at hi
  exact hi
theorem flat_get {sz:Nat}:∀ {css:List (List aj)} {k:Nat} (hk:k < css.length) (h:∀ cs∈css,cs.length=sz) (j:Nat),j < sz→css.flatten[k*sz+j]?=css[k][j]?
 | c :: css,0,_,h,j,hj=>by
  rw [List.flatten_cons,Nat.zero_mul,pz,List.getElem_cons_zero,Ei (by rw [h c jd];exact hj)]
 | c :: css,k+1,hk,h,j,hj=>by
  have ih:=flat_get (css:=css) (k:=k) (by simpa using hk) (fun cs hc=>h cs (lg _ hc)) j hj
  rw [List.flatten_cons,List.getElem_cons_succ,BF (by rw [h c jd,Nat.succ_mul];omega),h c jd,show (k+1)*sz+j - sz=k*sz+j by rw [Nat.succ_mul];omega]
  exact ih
theorem ji.at {G:GH} {sz:Nat} {rows:List (List Dat)} {xs:List aj} (h:ji G sz rows xs) {k:Nat} {r:List Dat} (hk:rows[k]?=some r):∃ cs,cs.length=sz∧(∀ j u,cs[j]?=some u→xs[k*sz+j]?=some u)∧bH G r cs:=by
 obtain ⟨css,rfl,h2,h3⟩:=h
 have hkl:k < css.length:=by rw [h2];exact (mM.1 hk).1
 obtain ⟨hr,hl⟩:=h3 k r css[k] hk (gD hkl)
 refine ⟨css[k],hl,fun j u hj=>?_,hr⟩
 rw [flat_get hkl (fun cs hc=>?_) j (by rw [← hl];exact (mM.1 hj).1)]
 ·exact hj
 ·obtain ⟨i,hi,rfl⟩:=List.getElem_of_mem hc
  exact (h3 i rows[i] css[i] (gD (by omega)) (gD hi)).2
end
section
open Go.RowKit
def Zp (l:List ay):Prop:=∀ (k:Nat) (h:k+1 < l.length),¬ (l[k].kind=1∧l[k+1].kind=1∧l[k].head=l[k+1].head)
theorem Zp.one {l:List ay} (h:l.length≤1):Zp l:=fun k hk=>by omega
end
section
open Go.RowKit
end
section
open Go.RowKit
end
section
open Go.RowKit
end
section
open Go.RowKit
theorem arQ (l m:List ay):bM (l++m)=bM l+bM m:=by simp [bM,RX]
end
section
open Go.RowKit
end
section
open Go.RowKit
end
section
open Go.RowKit
theorem Yq:∀ {m l:List ay},m.Sublist l→bM m≤bM l
 | _,_,.slnil=>dQ _
 | _,_,.cons a h=>by have:=Yq h;simp only [bM,fJ,fB] at *;omega
 | _,_,.cons_cons a h=>by have:=Yq h;simp only [bM,fJ,fB] at *;omega
end
section
open Go.RowKit
end
section
open Go.RowKit
structure Zq where
 from_:Int
 to:Int
 mark:Bool
 props:List jq
def Zq.dat (a:Zq):List Dat:=[li a.from_,li a.to,.lf (.bool a.mark),.sl 2 (a.props.map jq.dat)]
end
section
open Go.RowKit
theorem X8:rV ⟨#[97,98]⟩=true∧vX ⟨#[97,98]⟩ 0=2:=by
 have d0:pY ⟨#[97,98]⟩ 0=(97,1,true):=by decide
 have d1:pY ⟨#[97,98]⟩ 1=(98,1,true):=by decide
 have e2:wh ⟨#[97,98]⟩ 2=-1:=by rw [wh,dif_neg (by decide)]
 have e1:wh ⟨#[97,98]⟩ 1=-1:=by rw [wh,dif_pos (by decide),dif_pos (by rw [d1]),d1];exact e2
 have e0:wh ⟨#[97,98]⟩ 0=-1:=by rw [wh,dif_pos (by decide),dif_pos (by rw [d0]),d0];exact e1
 have c2:vX ⟨#[97,98]⟩ 2=0:=by rw [vX,ah (by decide)]
 have c1:vX ⟨#[97,98]⟩ 1=1:=by rw [vX,au (by decide),c2];decide
 have c0:vX ⟨#[97,98]⟩ 0=2:=by rw [vX,au (by decide),c1];decide
 exact ⟨by unfold rV;rw [e0];decide,c0⟩
abbrev hd0:jJ:=⟨[],⟨0,0,[],[]⟩⟩
def nH:ay:=.mk 1 0 0 ⟨#[97,98]⟩ hd0 [] []
theorem uA:gP nH=2∧Bv nH=0:=by simp [gP,Bv,nH,ay.kind,ay.text,yE,Mf,X8.1,X8.2]
theorem KT {G:GH}:mF G hd0 (.slice none 0 0) (.slice none 0 0) (.slice none 0 0):=⟨aB.jP rfl (by decide),aB.jP rfl (by decide),aB.jP rfl (by decide)⟩
end
section
open Go.RowKit
def cl0:bB:=.mk 0 hd0 []
def XC:bJ:=.mk hd0 [cl0]
end
section
open Go.RowKit
theorem aqD:uP prog 50 [(0,1),(1,5),(6,1),(7,4)] [.slice none 0 0,.slice none 0 0,.int .i64 0,.int .i64 0,.slice none 0 0,.slice none 0 0,.slice none 0 0,.slice none 0 0,.slice none 0 0,.slice none 0 0,.slice none 0 0]:=⟨by kernel_rfl,by kernel_rfl⟩
end
section
open Go.RowKit
theorem TK:∀ args w,(callFunc 133 args).run prog w=.ok (.enter 133 args) w:=enters func133 rfl (by kernel_rfl)
theorem aiA:∀ args w,(callFunc 196 args).run prog w=.ok (.enter 196 args) w:=enters func196 rfl (by kernel_rfl)
theorem Fg (n:Nat):0≤(n:Int).tdiv 8∧(n:Int).tdiv 8≤n:=by
 rw [Int.tdiv_eq_ediv_of_nonneg (by omega)];omega
abbrev tu (b:Nat) (n:Int):Nat × Obj:=(b,.cells #[vi n] 3 (0,0))
def SY (bl:Nat) (left:Int) (z:Nat) (u:aj) (_:GH) (L':OL):Prop:=∃ b lf,u=.bool b∧L'=[tu bl lf]∧left - 4*(z:Int)≤lf∧lf≤left
def Pq (n:Nat):Prop:=∀ (G:GH) (w0:World) (l:List ay) (v:aj) (vE left:Int) (bl:Nat),jQ G [tu bl left] w0→aB G (.sl 11 (l.map ay.dat)) v→bM l < n→0≤vE→vE≤1000→left≤1000→-1000000000000≤left - 4*(bM l:Int) →
 Calls prog 133 #[v,vi vE,(aK bl 0)] w0 (jk w0 G [tu bl left] (SY bl left (bM l)))
theorem afv (l m:List bJ):fq (l++m)=fq l+fq m:=by simp [fq,RX]
theorem afr (l m:List bB):iD (l++m)=iD l+iD m:=by simp [iD,RX]
theorem arR {l:List ay} {k:Nat} (h:k < l.length):bM (l.take (k+1))=bM (l.take k)+(1+dG l[k].dat):=by rw [jZ h,arQ];simp [bM,fB]
theorem arS {l:List bJ} {k:Nat} (h:k < l.length):fq (l.take (k+1))=fq (l.take k)+(1+dG l[k].dat):=by rw [jZ h,afv];simp [fq,fB]
theorem arP {l:List bB} {k:Nat} (h:k < l.length):iD (l.take (k+1))=iD (l.take k)+(1+dG l[k].dat):=by rw [jZ h,afr];simp [iD,fB]
theorem afu (l:List ay) (k:Nat):bM (l.take k)≤bM l:=Yq (List.take_sublist k l)
theorem afw (l:List bJ) (k:Nat):fq (l.take k)≤fq l:=by
 have:=afv (l.take k) (l.drop k);rw [List.take_append_drop] at this;omega
theorem afs (l:List bB) (k:Nat):iD (l.take k)≤iD l:=by
 have:=afr (l.take k) (l.drop k);rw [List.take_append_drop] at this;omega
theorem alL {G:GH} {b o:Nat} {x q1 q2 q3 q4 q5 f:aj} (h:∀ j u,[x,q1,q2,q3,q4,q5,f][j]?=some u→aH G b (o+j)=some u):∀ j u,[q1,q2,q3,q4,q5][j]?=some u→aH G b (o+1+j)=some u:=by
 intro j u hj;rw [Nat.add_assoc,Nat.add_comm 1 j];refine h (j+1) u ?_
 match j,hj with
 | 0,hj=>exact hj
 | 1,hj=>exact hj
 | 2,hj=>exact hj
 | 3,hj=>exact hj
 | 4,hj=>exact hj
 | n+5,hj=>simp at hj
set_option maxHeartbeats 1000000 in
theorem aqv {n:Nat} (ih:Pq n) (hn:n≤4294967296)
  (hrows:∀ (G:GH) (w0:World) (l:List bJ) (v:aj) (vE left:Int) (bl:Nat),jQ G [tu bl left] w0→aB G (.sl 6 (l.map bJ.dat)) v→fq l < n→0≤vE→vE≤1000→left≤1000→-1000000000000≤left - 4*(fq l:Int) →
   Calls prog 196 #[v,vi vE,(aK bl 0)] w0 (jk w0 G [tu bl left] (SY bl left (fq l)))):Pq (n+1):=by
 intro G w0 l v vE left bl hO hv hz hl0 hl1 hf1 hf0;obtain ⟨A,c,rfl,hc1,hc2,hg⟩:=hv.slice;rw [bZ] at *;have hll:=Fj l;refine mH (N:=89) (T:=[(0,_),(1,_),(2,_)]) func133 rfl ntmps133 rfl rfl hO ?_;intro a H;refine kP H (SR fun _ K1=>ak K1 rfl (SQ fun _ K2=>SR fun _ K3=>ak K3 rfl (SB ?_)));clear H K1 K3;intro a H;skip;refine fH (ι:=Nat × Int × GH) (Tc:=[(0,_),(1,_),(2,_)]) (Lc:=[]) (fun gh=>[(7,vi gh.1)]) (fun gh=>[tu bl gh.2.1]) (fun gh=>gh.2.2) (fun gh=>gh.1≤l.length∧left - 4*(bM (l.take gh.1):Int)≤gh.2.1∧gh.2.1≤left∧(∀ b o,G b=some o→gh.2.2 b=some o)) (fun gh=>l.length - gh.1) ((0,left,G)) (by exact (H).sub ⟨rfl,rfl,rfl,rfl,av⟩) ?_ ?_
 ·exact ⟨by omega,by show left - 4*((0:Nat):Int)≤left;omega,Int.le_refl _,fun _ _ h=>h⟩
 clear H;intro gh a w hI H;obtain ⟨k,lf,g⟩:=gh;dsimp only at hI H;obtain ⟨hk,hlo,hhi,hgm⟩:=hI;have hzk:=afu l k;dsimp only [lca,aS] at H;refine kP H (SQ fun _ K4=>SR fun _ K5=>Rm rfl (Rm rfl (Rl iN rfl (Rc rfl (Kz K5 (Cd rfl ?_ ?_)))))) <;> clear H K5
 ·intro h11 a H
  try have sN:=dT h11
  have hk2:k < l.length:=by omega
  obtain ⟨b,o,pA,pn,pc,dA,dn,dc,yA,yn,yc,fA,fn,fc,rA,rn,rc,rfl,hrow,hhd,hfl,hrw⟩:=EB hk2 hg;have r3:aH g b (o+k*11+3)=some (.string l[k].text):=aF hgm (hrow 3 _ rfl);have r4:aH g b (o+k*11+4+0)=some (.slice pA pn pc):=aF hgm (hrow 4 _ rfl);have r7:aH g b (o+k*11+4+1+2)=some (.slice dA dn dc):=aF hgm (hrow 7 _ rfl);have r8:aH g b (o+k*11+4+1+3)=some (.slice yA yn yc):=aF hgm (hrow 8 _ rfl);have r9:aH g b (o+k*11+9)=some (.slice fA fn fc):=aF hgm (hrow 9 _ rfl);have RG:aH g b (o+k*11+10)=some (.slice rA rn rc):=aF hgm (hrow 10 _ rfl);have q1:=Fg pn;have q2:=Fg dn;have q3:=Fg yn;have hzi:=oK l[k];have WC:=CP l[k].head;have l1:=hhd.props.len;have l2:=hhd.bU.len;have l3:=hhd.layers.len;have m1:=nM (l[k].head.props.map jq.dat);have m2:=nM (l[k].head.marks.bU.map kK.dat);have m3:=nM (l[k].head.marks.layers.map ku.dat);have hzs:=arR hk2;have hzt:=afu l (k+1);refine kP H (Kc K4 (SQ fun _ K6=>SB (SQ fun _ K7=>?_)));clear H K4;intro a H;refine dI hmx [[],[],[1],[1,2],[1,2,3],[],[],[5,6],[5,6,7],(ra 5 4),(ra 5 5),(ra 5 6),(ra 5 7),(ra 1 12),[],[],[14,15],[14,15,16],(ra 14 4),(ra 14 5),(ra 14 6),(ra 14 7),(ra 14 8),(ra 1 22),[],[],[24,25],[24,25,26],(ra 24 4),(ra 24 5),(ra 24 6),(ra 24 7),(ra 24 8),(ra 1 32),(ra 0 34),(ra 0 35)] [35] (by kernel_rfl) [_,_,_,vi lf,_,_,_,_,_,_,_,_,vi ((pn:Int).tdiv 8),_,_,_,_,_,_,_,_,_,vi ((dn:Int).tdiv 8),_,_,_,_,_,_,_,_,_,vi ((yn:Int).tdiv 8),_,_] H (aG (Z0 rfl (Rm rfl)) (Z0 rfl (Rm rfl)) (Z1 1 15 rfl (Rk rfl)) (Z1 2 16 rfl (Ro aD 0 rfl)) (aG (Z1 3 17 rfl (Rs rfl)) (Z0 rfl (Rm rfl)) (Z0 rfl (Rm rfl)) (Z2 5 19 6 20 rfl (Ri iN dB rfl rfl)) (aG (Z1 7 21 rfl (Rf Ew rfl)) (Z1 8 22 rfl (Rf yH rfl)) (X1 9 23 rfl fun hG=>Rg vN rfl (aF hG r4)) (Z1 10 24 rfl (Rl oh rfl)) (aG ?_ (Z2 4 18 12 26 rfl (Rs rfl)) (Z0 rfl (Rm rfl)) (Z0 rfl (Rm rfl)) (aG (Z2 14 28 15 29 rfl (Ri iN dB rfl rfl)) (Z1 16 30 rfl (Rf Ew rfl)) (Z1 17 31 rfl (Rf pG rfl)) (Z1 18 32 rfl (Rf mV rfl)) (aG (X1 19 33 rfl fun hG=>Rg mY rfl (aF hG r7)) (Z1 20 34 rfl (Rl lF rfl)) ?_ (Z2 13 27 22 36 rfl (Rs rfl)) (aG (Z0 rfl (Rm rfl)) (Z0 rfl (Rm rfl)) (Z2 24 38 25 39 rfl (Ri iN dB rfl rfl)) (Z1 26 40 rfl (Rf Ew rfl)) (aG (Z1 27 41 rfl (Rf pG rfl)) (Z1 28 42 rfl (Rf vZ rfl)) (X1 29 43 rfl fun hG=>Rg wJ rfl (aF hG r8)) (Z1 30 44 rfl (Rl qy rfl)) (aG ?_ (Z2 23 37 32 46 rfl (Rs rfl)) (Z1 0 14 rfl (Rk rfl)) (cZ rfl) dU))))))))) ?_
  ·refine eF 11 25 rfl rfl fun _ a w G1 hG HT H fin=>?_;refine E9 _ H wn rfl rfl (by omega) rfl (by omega) (by omega) rfl ?_;clear H;intro a H;exact fin H iJ rfl
  ·refine eF 21 35 rfl rfl fun _ a w G1 hG HT H fin=>?_;refine E9 _ H wn rfl rfl (by omega) rfl (by omega) (by omega) rfl ?_;clear H;intro a H;exact fin H iJ rfl
  ·refine eF 31 45 rfl rfl fun _ a w G1 hG HT H fin=>?_;refine E9 _ H wn rfl rfl (by omega) rfl (by omega) (by omega) rfl ?_;clear H;intro a H;exact fin H iJ rfl
  clear H;intro a w G uE H hv;have H:=H.aU (hv 33 47 rfl rfl) rfl;have H:=H.aU (hv 34 48 rfl rfl) rfl;clear hv;refine bO aD 0 (vs:=[_]) _ H wn rfl rfl rfl rfl rfl rfl rfl rfl ?_;clear H;intro w H;dsimp only [List.set,setRow] at H;refine aI ⟨rfl,?_⟩;refine K7 _ _ ?_;clear K7;refine kP H (SR fun _ K8=>Rm rfl (Rk rfl (Ro aD 0 rfl (Rc rfl (Rm rfl (Sp 53 rfl ?_ ?_)))))) <;> clear H
  ·intro gV a H
   try have p53:=dT gV
   refine kH H (aP gV rfl (Pt gV rfl (Rm rfl (aT rfl rfl (aP rfl rfl (aP rfl rfl (Pt rfl rfl (Rm rfl (aT rfl rfl (aT rfl rfl (aP rfl rfl (aP rfl rfl (Pt rfl rfl (Rm rfl (aT rfl rfl (aT rfl rfl (aT rfl rfl (Pt rfl rfl (Kz K8 (Ct rfl rfl (SR fun _ K9=>ak K9 rfl ?_)))))))))))))))))))));clear H K8 K9;intro a H;refine lr H results133 rfl ?_;exact H.hp.gL ⟨_,_,rfl,rfl,by omega,by omega⟩
  intro gV a H
  try have p53:=dF gV
  replace r3:=aF uE r3;replace r9:=aF uE r9;replace RG:=aF uE RG;refine kH H (YM gV rfl (YC gV rfl (Pf gV rfl (Rm rfl (Sp 57 rfl ?_ ?_))))) <;> clear H
  ·intro h57 a H
   try have p57:=dT h57
   exact kH H (aT h57 rfl (aP h57 rfl (aP h57 rfl (Pt h57 rfl (Rm rfl (aT rfl rfl (aT rfl rfl (aP rfl rfl (aP rfl rfl (Pt rfl rfl (Rm rfl (aT rfl rfl (aT rfl rfl (aT rfl rfl (Pt rfl rfl (Kz K8 (Ct rfl rfl (SR fun _ aZ=>ak aZ rfl (LR results133 rfl fun H=>H.hp.gL ⟨_,_,rfl,rfl,by omega,by omega⟩)))))))))))))))))))
  intro h57 a H
  try have p57:=dF h57
  refine kH H (YM h57 rfl (YM h57 rfl (YI iN dB h57 rfl rfl (YF uz h57 rfl (YR gX h57 rfl (by assumption) ?_)))));clear H;intro a H;refine Cz iO H (wg H rfl rfl h57) rfl rfl ?_;clear H;intro a H;refine kH H (YC h57 rfl (Pf h57 rfl (Rm rfl (Sp 66 rfl ?_ ?_)))) <;> clear H
  ·intro qm a H
   try have p66:=dT qm
   exact kH H (aT qm rfl (aT qm rfl (aP qm rfl (aP qm rfl (Pt qm rfl (Rm rfl (aT rfl rfl (aT rfl rfl (aT rfl rfl (Pt rfl rfl (Kz K8 (Ct rfl rfl (SR fun _ bN=>ak bN rfl (LR results133 rfl fun H=>H.hp.gL ⟨_,_,rfl,rfl,by omega,by omega⟩))))))))))))))
  intro qm a H
  try have p66:=dF qm
  refine kH H (YM qm rfl (YM qm rfl (YI iN dB qm rfl rfl (YF yI qm rfl (YR iM qm rfl (by assumption) ?_)))));clear H;intro a H;refine kH H (YM qm rfl ?_);clear H;intro a H;refine og _ H (wg H rfl rfl qm) rfl rfl rfl (by omega) (by omega) rfl ?_;clear H;intro a H;refine kH H (YM qm rfl ?_);clear H;intro a H;refine iH TK (Li:=[]) (L:=[tu bl _]) H (wg H rfl rfl qm) rfl (ih _ _ l[k].flow _ (vE - 1) _ bl (Hp.owns (Li:=[]) H.hp) (hfl.mono fun b o h=>uE b o (hgm b o h)) (by omega) (by omega) (by omega) (by omega) (by omega)) rfl ?_;clear H;rintro v75 G75 L75 a w ⟨b75,lf75,rfl,rfl,asU,asS⟩ VW H;dsimp only [List.nil_append] at H;replace RG:=aF VW RG;refine kH H (YN qm rfl (Pf qm rfl (Rm rfl (Sp 78 rfl ?_ ?_)))) <;> clear H
  ·intro rG a H
   try have Xn:=dT rG
   exact kH H (aT rG rfl (aT rG rfl (aT rG rfl (Pt rG rfl (Kz K8 (Ct rfl rfl (SR fun _ bQ=>ak bQ rfl (LR results133 rfl fun H=>H.hp.gL ⟨_,_,rfl,rfl,by omega,by omega⟩))))))))
  intro rG a H
  try have Xn:=dF rG
  refine kH H (YM rG rfl (YM rG rfl (YI iN dB rG rfl rfl (YF rC rG rfl (YR rR rG rfl (by assumption) ?_)))));clear H;intro a H;refine kH H (YM rG rfl (YM rG rfl ?_));clear H;intro a H;refine iH aiA (Li:=[]) (L:=[tu bl _]) H (wg H rfl rfl rG) rfl (hrows _ _ l[k].rows _ vE _ bl (Hp.owns (Li:=[]) H.hp) (hrw.mono fun b o h=>VW b o (uE b o (hgm b o h))) (by omega) (by omega) (by omega) (by omega) (by omega)) rfl ?_;clear H;rintro v86 G86 L86 a w ⟨b86,anL,rfl,rfl,asV,asT⟩ ame H;dsimp only [List.nil_append] at H;refine kH H (YN rG rfl (Pf rG rfl (Kz K8 (Cd rfl ?_ ?_)))) <;> clear H K8
  ·intro wo a H
   try have OD:=dT wo
   exact kP H (SR fun _ bT=>ak bT rfl (LR results133 rfl fun H=>H.hp.gL ⟨_,_,rfl,rfl,by omega,by omega⟩))
  intro wo a H
  try have OD:=dF wo
  refine kP H (Kc K6 (SC (Rm rfl (Rd rfl (Ra rfl ?_)))));clear H K6;intro a H;refine aI ?_;refine dP ((k+1,anL,G86)) (by exact (H).sub ⟨rfl,rfl,rfl,rfl,av⟩) ?_ ?_
  ·(try dsimp only);exact ⟨by omega,by omega,by omega,fun b o h=>ame b o (VW b o (uE b o (hgm b o h)))⟩
  first|omega|(dsimp only;omega)
 intro h11 a H
 try have sN:=dF h11
 refine eD ?_;refine K2 _ _ ?_;clear K2;exact kP H (SR fun _ cu=>ak cu rfl (LR results133 rfl fun H=>H.hp.gL ⟨_,_,rfl,rfl,by omega,by omega⟩))
set_option maxHeartbeats 1000000 in
theorem aqx {n:Nat} (ih:Pq n) (hn:n≤4294967296) (G:GH) (w0:World) (l:List bJ) (v:aj) (vE left:Int) (bl:Nat) (hO:jQ G [tu bl left] w0) (hv:aB G (.sl 6 (l.map bJ.dat)) v) (hz:fq l < n) (hl0:0≤vE) (hl1:vE≤1000) (hf1:left≤1000) (hf0:-1000000000000≤left - 4*(fq l:Int)) :
  Calls prog 196 #[v,vi vE,(aK bl 0)] w0 (jk w0 G [tu bl left] (SY bl left (fq l))):=by
 obtain ⟨A,c,rfl,hc1,hc2,hg⟩:=hv.slice;rw [bZ] at *;have hll:=Fp l;refine mH (N:=121) (T:=[(0,_),(1,_),(2,_)]) func196 rfl ntmps196 rfl rfl hO ?_;intro a H;refine kP H (SR fun _ K1=>ak K1 rfl (SQ fun _ K2=>SR fun _ K3=>ak K3 rfl (SB ?_)));clear H K1 K3;intro a H;skip;refine fH (ι:=Nat × Int × GH) (Tc:=[(0,_),(1,_),(2,_)]) (Lc:=[]) (fun gh=>[(7,vi gh.1)]) (fun gh=>[tu bl gh.2.1]) (fun gh=>gh.2.2) (fun gh=>gh.1≤l.length∧left - 4*(fq (l.take gh.1):Int)≤gh.2.1∧gh.2.1≤left∧(∀ b o,G b=some o→gh.2.2 b=some o)) (fun gh=>l.length - gh.1) ((0,left,G)) (by exact (H).sub ⟨rfl,rfl,rfl,rfl,av⟩) ?_ ?_
 ·exact ⟨by omega,by show left - 4*((0:Nat):Int)≤left;omega,Int.le_refl _,fun _ _ h=>h⟩
 clear H;intro gh a w hI H;obtain ⟨k,lf,g⟩:=gh;dsimp only at hI H;obtain ⟨hk,hlo,hhi,hgm⟩:=hI;have hzk:=afw l k;dsimp only [lca,aS] at H;refine kP H (SQ fun _ K4=>SR fun _ K5=>Rm rfl (Rm rfl (Rl jH rfl (Rc rfl (Kz K5 (Cd rfl ?_ ?_)))))) <;> clear H K5
 ·intro fP a H
  try have qN:=dT fP
  have hk2:k < l.length:=by omega
  obtain ⟨b,o,pA,pn,pc,dA,dn,dc,yA,yn,yc,cA,cn,cc,rfl,hrow,hhd,hcl⟩:=GV hk2 hg;have r0:aH g b (o+k*6+0+0)=some (.slice pA pn pc):=aF hgm (hrow 0 _ rfl);have r3:aH g b (o+k*6+0+1+2)=some (.slice dA dn dc):=aF hgm (hrow 3 _ rfl);have r4:aH g b (o+k*6+0+1+3)=some (.slice yA yn yc):=aF hgm (hrow 4 _ rfl);have r5:aH g b (o+k*6+5)=some (.slice cA cn cc):=aF hgm (hrow 5 _ rfl);have hcn:=hcl.len;rw [bZ] at hcn;subst hcn;have hcc:=hcl.slice;have q1:=Fg pn;have q2:=Fg dn;have q3:=Fg yn;have hzi:=uN l[k];have WC:=CP l[k].head;have l1:=hhd.props.len;have l2:=hhd.bU.len;have l3:=hhd.layers.len;have m1:=nM (l[k].head.props.map jq.dat);have m2:=nM (l[k].head.marks.bU.map kK.dat);have m3:=nM (l[k].head.marks.layers.map ku.dat);have hzs:=arS hk2;have hzt:=afw l (k+1);have alA:=Fh l[k].cells;refine kP H (Kc K4 (SQ fun _ K6=>SB (SQ fun _ K7=>?_)));clear H K4;intro a H;refine dI hmx [[],[],[1],[1,2],[1,2,3],[],[],[5,6],[5,6,7],(ra 5 4),(ra 5 5),(ra 5 6),(ra 5 7),(ra 1 12),[],[],[14,15],[14,15,16],(ra 14 4),(ra 14 5),(ra 14 6),(ra 14 7),(ra 14 8),(ra 1 22),[],[],[24,25],[24,25,26],(ra 24 4),(ra 24 5),(ra 24 6),(ra 24 7),(ra 24 8),(ra 1 32),(ra 0 34),(ra 0 35)] [35] (by kernel_rfl) [_,_,_,vi lf,_,_,_,_,_,_,_,_,vi ((pn:Int).tdiv 8),_,_,_,_,_,_,_,_,_,vi ((dn:Int).tdiv 8),_,_,_,_,_,_,_,_,_,vi ((yn:Int).tdiv 8),_,_] H (aG (Z0 rfl (Rm rfl)) (Z0 rfl (Rm rfl)) (Z1 1 17 rfl (Rk rfl)) (Z1 2 18 rfl (Ro aD 0 rfl)) (aG (Z1 3 19 rfl (Rs rfl)) (Z0 rfl (Rm rfl)) (Z0 rfl (Rm rfl)) (Z2 5 21 6 22 rfl (Ri jH iI rfl rfl)) (aG (Z1 7 23 rfl (Rf FV rfl)) (Z1 8 24 rfl (Rf yH rfl)) (X1 9 25 rfl fun hG=>Rg vN rfl (aF hG r0)) (Z1 10 26 rfl (Rl oh rfl)) (aG ?_ (Z2 4 20 12 28 rfl (Rs rfl)) (Z0 rfl (Rm rfl)) (Z0 rfl (Rm rfl)) (aG (Z2 14 30 15 31 rfl (Ri jH iI rfl rfl)) (Z1 16 32 rfl (Rf FV rfl)) (Z1 17 33 rfl (Rf pG rfl)) (Z1 18 34 rfl (Rf mV rfl)) (aG (X1 19 35 rfl fun hG=>Rg mY rfl (aF hG r3)) (Z1 20 36 rfl (Rl lF rfl)) ?_ (Z2 13 29 22 38 rfl (Rs rfl)) (aG (Z0 rfl (Rm rfl)) (Z0 rfl (Rm rfl)) (Z2 24 40 25 41 rfl (Ri jH iI rfl rfl)) (Z1 26 42 rfl (Rf FV rfl)) (aG (Z1 27 43 rfl (Rf pG rfl)) (Z1 28 44 rfl (Rf vZ rfl)) (X1 29 45 rfl fun hG=>Rg wJ rfl (aF hG r4)) (Z1 30 46 rfl (Rl qy rfl)) (aG ?_ (Z2 23 39 32 48 rfl (Rs rfl)) (Z1 0 16 rfl (Rk rfl)) (cZ rfl) dU))))))))) ?_
  ·refine eF 11 27 rfl rfl fun _ a w G1 hG HT H fin=>?_;refine E9 _ H wn rfl rfl (by omega) rfl (by omega) (by omega) rfl ?_;clear H;intro a H;exact fin H iJ rfl
  ·refine eF 21 37 rfl rfl fun _ a w G1 hG HT H fin=>?_;refine E9 _ H wn rfl rfl (by omega) rfl (by omega) (by omega) rfl ?_;clear H;intro a H;exact fin H iJ rfl
  ·refine eF 31 47 rfl rfl fun _ a w G1 hG HT H fin=>?_;refine E9 _ H wn rfl rfl (by omega) rfl (by omega) (by omega) rfl ?_;clear H;intro a H;exact fin H iJ rfl
  clear H;intro a w G uE H hv;have H:=H.aU (hv 33 49 rfl rfl) rfl;have H:=H.aU (hv 34 50 rfl rfl) rfl;clear hv;refine bO aD 0 (vs:=[_]) _ H wn rfl rfl rfl rfl rfl rfl rfl rfl ?_;clear H;intro w H;dsimp only [List.set,setRow] at H;refine aI ⟨rfl,?_⟩;refine K7 _ _ ?_;clear K7;refine aO (fun _ K8=>?_);refine aO (fun _ K9=>?_);obtain ⟨lf1,alU⟩:∃ x,x=lf - 1 - (pn:Int).tdiv 8 - (dn:Int).tdiv 8 - (yn:Int).tdiv 8:=⟨_,rfl⟩;rw [← alU] at H;have NP:∀ b o,g b=some o→G b=some o:=uE;obtain ⟨g1,hg1⟩:∃ x,x=G:=⟨_,rfl⟩;rw [← hg1] at H NP;refine kP H (SC (aM K9 rfl (SB ?_)));clear H K9;intro a H;skip;refine fH (ι:=Nat × Int × GH) (Tc:=[(0,_),(1,_),(2,_),(7,_)]) (Lc:=[]) (fun gh=>[(8,vi gh.1)]) (fun gh=>[tu bl gh.2.1]) (fun gh=>gh.2.2) (fun gh=>gh.1≤l[k].cells.length∧lf1 - 4*(iD (l[k].cells.take gh.1):Int)≤gh.2.1∧gh.2.1≤lf1∧(∀ b o,g b=some o→gh.2.2 b=some o)) (fun gh=>l[k].cells.length - gh.1) ((0,lf1,g1)) (by exact (H).sub ⟨rfl,rfl,rfl,rfl,rfl,av⟩) ?_ ?_
  ·exact ⟨by omega,by show lf1 - 4*((0:Nat):Int)≤lf1;omega,Int.le_refl _,NP⟩
  clear H;intro gh a w hI H;obtain ⟨j,lf2,g2⟩:=gh;dsimp only at hI H;obtain ⟨hj,hlo2,hhi2,qo⟩:=hI;have jX:=fun b o h=>qo b o (hgm b o h);have atg:=afs l[k].cells j;replace r5:=aF qo r5;dsimp only [lca,aS] at H;refine kP H (SQ fun _ aZ=>SR fun _ bN=>Rm rfl (Rm rfl (Rm rfl (Ri jH iI rfl rfl (Rf qG rfl (Rg qU rfl (by assumption) ?_))))));clear H;intro a H;refine kH H (Rl kV rfl (Rc rfl (Kz bN (Cd rfl ?_ ?_)))) <;> clear H bN
  ·intro jD a H
   try have p58:=dT jD
   have hj2:j < l[k].cells.length:=by omega
   obtain ⟨b2,o2,qA,qn,qc,eA,en,ec,zA,zn,zc,fA,fn,fc,rfl,hrow2,NR,VI⟩:=Eo hj2 hcl.at_;have t2:aH g2 b2 (o2+j*7+6)=some (.slice fA fn fc):=aF jX (hrow2 6 _ rfl);have p1:=Fg qn;have p2:=Fg en;have p3:=Fg zn;have ane:=uM l[k].cells[j];have atf:=CP l[k].cells[j].head;have l4:=NR.props.len;have l5:=NR.bU.len;have l6:=NR.layers.len;have m4:=nM (l[k].cells[j].head.props.map jq.dat);have m5:=nM (l[k].cells[j].head.marks.bU.map kK.dat);have m6:=nM (l[k].cells[j].head.marks.layers.map ku.dat);have anf:=arP hj2;have ati:=afs l[k].cells (j+1);refine kP H (Kc aZ (SQ fun _ bQ=>SB (SR fun _ bT=>Rm rfl (Rm rfl (Ri jH iI rfl rfl (Rf qG rfl (Rg qU rfl (by assumption) ?_)))))));clear H aZ;intro a H;refine kH H (Rm rfl (Ri kV iy rfl rfl (Rf KE rfl ?_)));clear H;intro a H;refine bD nC (cs:=[.slice qA qn qc,vi l[k].cells[j].head.marks.ins,vi l[k].cells[j].head.marks.move,.slice eA en ec,.slice zA zn zc]) H wn rfl rfl (fun i v hi=>H.hp.aH (aF jX (alL hrow2 i v hi))) rfl ?_;clear H;intro a H;refine dR nC H wn rfl ?_;clear H;intro b9 a w uG H;refine bO nC 0 (vs:=[_,_,_,_,_]) _ H wn rfl rfl rfl rfl rfl rfl rfl rfl ?_;clear H;intro w H;dsimp only [List.set,setRow] at H;refine bT _ _ ?_;clear bT;refine aO (fun _ cu=>?_);refine dI hmx [[],[],[1],[1,2],[1,2,3],[],[5],[5,6],[5,6,7],(ra 1 8),[],[10],[10,11],[10,11,12],(ra 10 4),(ra 1 14),[],[16],[16,17],[16,17,18],(ra 16 4),(ra 1 20),(ra 0 22),(ra 0 23)] [23] (by kernel_rfl) [_,_,_,vi lf2,_,_,.slice qA qn qc,_,vi ((qn:Int).tdiv 8),_,_,_,.slice eA en ec,_,vi ((en:Int).tdiv 8),_,_,_,.slice zA zn zc,_,vi ((zn:Int).tdiv 8),_,_] H (aG (Z0 rfl (Rm rfl)) (Z0 rfl (Rm rfl)) (Z1 1 71 rfl (Rk rfl)) (Z1 2 72 rfl (Ro aD 1 rfl)) (aG (Z1 3 73 rfl (Rs rfl)) (Z0 rfl (Rf yH rfl)) (Z1 5 75 rfl (Ro vN 0 rfl)) (Z1 6 76 rfl (Rl oh rfl)) (aG ?_ (Z2 4 74 8 78 rfl (Rs rfl)) (Z0 rfl (Rf pG rfl)) (Z1 10 80 rfl (Rf mV rfl)) (aG (Z1 11 81 rfl (Ro mY 0 rfl)) (Z1 12 82 rfl (Rl lF rfl)) ?_ (Z2 9 79 14 84 rfl (Rs rfl)) (aG (Z0 rfl (Rf pG rfl)) (Z1 16 86 rfl (Rf vZ rfl)) (Z1 17 87 rfl (Ro wJ 0 rfl)) (Z1 18 88 rfl (Rl qy rfl)) (aG ?_ (Z2 15 85 20 90 rfl (Rs rfl)) (Z1 0 70 rfl (Rk rfl)) (cZ rfl) dU)))))) ?_
   ·refine eF 7 77 rfl rfl fun _ a w G1 hG HT H fin=>?_;refine E9 _ H wn rfl rfl (by omega) rfl (by omega) (by omega) rfl ?_;clear H;intro a H;exact fin H iJ rfl
   ·refine eF 13 83 rfl rfl fun _ a w G1 hG HT H fin=>?_;refine E9 _ H wn rfl rfl (by omega) rfl (by omega) (by omega) rfl ?_;clear H;intro a H;exact fin H iJ rfl
   ·refine eF 19 89 rfl rfl fun _ a w G1 hG HT H fin=>?_;refine E9 _ H wn rfl rfl (by omega) rfl (by omega) (by omega) rfl ?_;clear H;intro a H;exact fin H iJ rfl
   clear H;intro a w G Gg H hv;have H:=H.aU (hv 21 91 rfl rfl) rfl;have H:=H.aU (hv 22 92 rfl rfl) rfl;clear hv;refine bO aD 1 (vs:=[_]) _ H wn rfl rfl rfl rfl rfl rfl rfl rfl ?_;clear H;intro w H;dsimp only [List.set,setRow] at H;refine aI ⟨rfl,?_⟩;refine cu _ _ ?_;clear cu;refine kP H (SR fun _ dL=>Rm rfl (Rk rfl (Ro aD 1 rfl (Rc rfl (Rm rfl (Sp 97 rfl ?_ ?_)))))) <;> clear H
   ·intro h97 a H
    try have p97:=dT h97
    exact kH H (aP h97 rfl (Pt h97 rfl (Rm rfl (aT rfl rfl (aT rfl rfl (aT rfl rfl (aT rfl rfl (aP rfl rfl (Pt rfl rfl (Kz dL (Ct rfl rfl (SR fun _ dO=>ak dO rfl (LR results196 rfl fun H=>H.hp.dh (L':=[tu bl _]) (by repeat (first|exact dx _|apply List.Sublist.cons)) ⟨_,_,rfl,rfl,by omega,by omega⟩)))))))))))))
   intro h97 a H
   try have p97:=dF h97
   replace r5:=aF Gg r5;replace t2:=aF Gg t2;refine kH H (YM h97 rfl (YC h97 rfl (Pf h97 rfl (Rm rfl (Sp 101 rfl ?_ ?_))))) <;> clear H
   ·intro nR a H
    try have Oz:=dT nR
    exact kH H (aT nR rfl (aT nR rfl (aT nR rfl (aT nR rfl (aP nR rfl (Pt nR rfl (Kz dL (Ct rfl rfl (SR fun _ dJ=>ak dJ rfl (LR results196 rfl fun H=>H.hp.dh (L':=[tu bl _]) (by repeat (first|exact dx _|apply List.Sublist.cons)) ⟨_,_,rfl,rfl,by omega,by omega⟩))))))))))
   intro nR a H
   try have Oz:=dF nR
   refine kH H (YM nR rfl (YM nR rfl (YI jH iI nR rfl rfl (YF qG nR rfl (YR qU nR rfl (by assumption) ?_)))));clear H;intro a H;refine kH H (YM nR rfl (YI kV iy nR rfl rfl (YF AQ nR rfl (YR iM nR rfl (by assumption) ?_))));clear H;intro a H;refine kH H (YM nR rfl ?_);clear H;intro a H;refine og _ H (wg H rfl rfl nR) rfl rfl rfl (by omega) (by omega) rfl ?_;clear H;intro a H;refine kH H (YM nR rfl ?_);clear H;intro a H;refine iH TK (Li:=[_]) (L:=[tu bl _]) (H.dK (Pl:=[_,_]) (dw:=[_,_]) [0,1] (by decide) rfl) (wg H rfl rfl nR) rfl (ih _ _ l[k].cells[j].flow _ (vE - 1) _ bl (Hp.owns (Li:=[_]) (H.dK (Pl:=[_,_]) (dw:=[_,_]) [0,1] (by decide) rfl).hp) (VI.mono fun b o h=>Gg b o (jX b o h)) (by omega) (by omega) (by omega) (by omega) (by omega)) rfl ?_;clear H;rintro atD afz asc a w ⟨ash,lf3,rfl,rfl,hlo3,hhi3⟩ alW H;dsimp only [lca,aS] at H;refine kH H (YN nR rfl (Pf nR rfl (Kz dL (Cd rfl ?_ ?_)))) <;> clear H dL
   ·intro h116 a H
    try have Rq:=dT h116
    exact kP H (SR fun _ dW=>ak dW rfl (LR results196 rfl fun H=>H.hp.dh (L':=[tu bl _]) (by repeat (first|exact dx _|apply List.Sublist.cons)) ⟨_,_,rfl,rfl,by omega,by omega⟩))
   intro h116 a H
   try have Rq:=dF h116
   refine kP H (Kc bQ (SC (Rm rfl (Rd rfl (Ra rfl ?_)))));clear H bQ;intro a H;refine aI ?_;refine dP ((j+1,lf3,afz)) (by exact (H.dK (Pl:=[_,_]) (dw:=[_]) [1] (by decide) rfl).sub ⟨rfl,rfl,rfl,rfl,rfl,av⟩) ?_ ?_
   ·(try dsimp only);exact ⟨by omega,by omega,by omega,fun b o h=>alW b o (Gg b o (qo b o h))⟩
   first|omega|(dsimp only;omega)
  intro jD a H
  try have p58:=dF jD
  refine eD ?_;refine K8 _ _ ?_;clear K8;refine kP H (SR fun _ eG=>Rm rfl (Rk rfl (Ro aD 0 rfl (Rc rfl (Kz eG (Cd rfl ?_ ?_)))))) <;> clear H eG
  ·intro nS a H
   try have GQ:=dT nS
   exact kP H (SR fun _ eB=>ak eB rfl (LR results196 rfl fun H=>H.hp.dh (L':=[tu bl _]) (by repeat (first|exact dx _|apply List.Sublist.cons)) ⟨_,_,rfl,rfl,by omega,by omega⟩))
  intro nS a H
  try have GQ:=dF nS
  refine kP H (Kc K6 (SC (Rm rfl (Rd rfl (Ra rfl ?_)))));clear H K6;intro a H;refine aI ?_;refine dP ((k+1,lf2,g2)) (by exact (H).sub ⟨rfl,rfl,rfl,rfl,av⟩) ?_ ?_
  ·(try dsimp only);exact ⟨by omega,by omega,by omega,jX⟩
  first|omega|(dsimp only;omega)
 intro fP a H
 try have qN:=dF fP
 refine eD ?_;refine K2 _ _ ?_;clear K2;exact kP H (SR fun _ eH=>ak eH rfl (LR results196 rfl fun H=>H.hp.dh (L':=[tu bl _]) (by repeat (first|exact dx _|apply List.Sublist.cons)) ⟨_,_,rfl,rfl,by omega,by omega⟩))
theorem XK:∀ n:Nat,n≤4294967296→Pq n
 | 0,_=>fun _ _ _ _ _ _ _ _ _ hz=>absurd hz (Nat.not_lt_zero _)
 | n+1,h=>aqv (XK n (by omega)) (by omega) (fun G w0 l v vE left bl hO hv hz h1 h2 h3 h4=>aqx (XK n (by omega)) (by omega) G w0 l v vE left bl hO hv hz h1 h2 h3 h4)
theorem aqw (G:GH) (w0:World) (hG:Hold G w0) (l:List ay) (v:aj) (hv:aB G (.sl 11 (l.map ay.dat)) v) (hz:bM l≤1073741824) :
  Calls prog 61 #[v] w0 (bR w0 G fun u G'=>∃ b,u=.bool b):=by
 refine eN [(0,_)] func61 rfl ntmps61 rfl rfl hG ?_;intro a H;refine kP H (SR fun _ K1=>ak K1 rfl (SR fun _ K2=>?_));clear H K1;intro a H;refine dR aD H wn rfl ?_;clear H;intro b3 a w hb3 H;refine bO aD 0 (vs:=[_]) _ H wn rfl rfl rfl rfl rfl rfl rfl rfl ?_;clear H;intro w H;dsimp only [List.set,setRow] at H;refine K2 _ _ ?_;clear K2;refine kP H (SR fun _ K3=>Rm rfl ?_);clear H;intro a H;refine iH TK (Li:=[]) (L:=[tu b3 300]) H wn rfl (XK 4294967296 (dQ _) _ _ l v 12 300 b3 (Hp.owns (Li:=[]) H.hp) hv (by omega) (by decide) (by decide) (by decide) (by omega)) rfl ?_;clear H;rintro v5 G5 L5 a w ⟨b5,lf5,rfl,rfl,-,-⟩ QD H;exact kH H (ak K3 rfl (LR results61 rfl fun H=>H.rt ⟨_,rfl⟩))
end
section
open Go.RowKit
theorem ait:∀ args w,(callFunc 18 args).run prog w=.ok (.enter 18 args) w:=enters func18 rfl (by kernel_rfl)
theorem aqA:uP prog 143 [(0,11),(11,1),(12,1),(13,1)] [.slice none 0 0,.slice none 0 0,.int .i64 0,.int .i64 0,.slice none 0 0,.slice none 0 0,.slice none 0 0,.slice none 0 0,.slice none 0 0,.slice none 0 0,.slice none 0 0,.slice none 0 0,.slice none 0 0,.int .i64 0]:=⟨by kernel_rfl,by kernel_rfl⟩
theorem ajl:∀ args w,(callFunc 61 args).run prog w=.ok (.enter 61 args) w:=enters func61 rfl (by kernel_rfl)
theorem aik:∀ args w,(callFunc 16 args).run prog w=.ok (.enter 16 args) w:=enters func16 rfl (by kernel_rfl)
theorem Dn {G:GH} {b:Nat} {cs:List aj} {e:TypeId} {q:Nat × Nat} (h:G b=some (.cells cs.toArray e q)) (k:Nat) (ds:List aj) (hd:ds=(cs.drop k).take ds.length) (j:Nat) (v:aj) (hj:ds[j]?=some v):aH G b (k+j)=some v:=by
 unfold aH
 rw [h]
 show cs.toArray[k+j]?=some v
 rw [hd,Ay] at hj
 split at hj
 ·simpa using hj
 cases hj
set_option maxHeartbeats 4000000 in
theorem anU (G:GH) (w0:World) (hG:Hold G w0) (D:kN) (d:zw) (hR:D9 G D d) (hz:J9 d) :
  Calls prog 21 #[D.val] w0 (bR w0 G fun u G'=>u=vi (jV d)):=by
 obtain ⟨df,dp,dd,dy,⟨rA,rn,rc⟩,d1,d2,d3,d4,ins,mv⟩:=D;obtain ⟨hfl,hhd,hin,hmv,oI,hst⟩:=hR;dsimp only at hfl hhd hin hmv oI hst;subst hin;subst hmv;obtain ⟨zf,zh,zr,zt,zs,zg⟩:=hz;have hdl:=hhd.bU.len;rw [bZ] at hdl
 have hdn:d.fin.marks.bU.length≤4294967296:=by
  have h1:=CP d.fin;have h2:=nM (d.fin.marks.bU.map kK.dat);rw [bZ] at h2;omega
 have hrl:=oI.len;rw [bZ] at hrl;dsimp only at hrl;subst hrl;refine eN [(0,_)] func21 rfl ntmps21 rfl rfl hG ?_;intro a H;refine dz (fun _ K1=>?_);refine eU (cs:=[_,_,_,_,_,_,_,_,_,_,_]) H wn rfl rfl rfl ?_;clear H;intro b1 a w hb1 H;refine kH H (ak K1 rfl (SQ fun _ K2=>SQ fun _ K3=>?_));clear H K1;intro a H;obtain ⟨Ga,hma,hb1',H⟩:=H.fD;have hgs:=fun j v hj=>Dn hb1' 7 [dD d1,dD d2,dD d3,dD d4] rfl j v hj;have hgh:=fun j v hj=>Dn hb1' 1 [dD dp,vi d.fin.marks.ins,vi d.fin.marks.move,dD dd,dD dy] rfl j v hj;have hgm:=fun j v hj=>Dn hb1' 2 [vi d.fin.marks.ins,vi d.fin.marks.move,dD dd,dD dy] rfl j v hj
 have hgr:aH Ga b1 6=some (.slice rA d.revs.length rc):=by unfold aH;rw [hb1'];rfl
 have hgf:aH Ga b1 0=some (dD df):=by unfold aH;rw [hb1'];rfl
 have hga:=fun j v hj=>Dn hb1' 0 [dD df,dD dp,vi d.fin.marks.ins,vi d.fin.marks.move,dD dd,dD dy,.slice rA d.revs.length rc,dD d1,dD d2,dD d3,dD d4] rfl j v hj;replace hfl:=hfl.mono hma;replace hhd:=hhd.mono hma;replace oI:=oI.mono hma;replace hst:=hst.mono hma;refine kP H (SC (Rf Ez rfl ?_));clear H;intro a H;refine bD Yb (cs:=[dD d1,dD d2,dD d3,dD d4]) H wn rfl rfl (fun j v hj=>H.hp.aH (hgs j v hj)) rfl ?_;clear H;intro a H;refine s_call ait H wn rfl (aog _ _ H.ro d.mP _ _ _ _ hst zg) rfl ?_;clear H;rintro v13 CQ a w rfl uI H;refine kH H (aM K3 rfl (SR fun _ K4=>Rm rfl (Rc rfl (Kz K4 (Cd rfl ?_ ?_))))) <;> clear H K3 K4
 ·intro jO a H
  try have qw:=dT jO
  refine aO (fun _ K5=>?_)
  have e:jV d=lW d.mP:=by rw [jV,bV,bV,au qw,au qw]
  exact kP H (SC (Rm rfl (aM K5 rfl (LR results21 rfl fun H=>H.rt (aC vi e.symm)))))
 intro jO a H
 try have qw:=dF jO
 have e1:lW d.mP=0:=gF.1 qw
 have hE1:jV d=bV [zG d.revs,bV [gB d.pF 3 d.fin,bS (tZ d.fin.marks) 21],(iG d.pF true false 0 d.flow ⟨0,[]⟩).1,bS (decide (16384 < (iG d.pF true false 0 d.flow ⟨0,[]⟩).2.n)) 9]:=by
  rw [jV,jv e1,Dl]
 replace hgr:=aF uI hgr;replace oI:=oI.mono uI;refine kP H (Kc K2 (SQ fun _ K6=>SR fun _ K7=>Rf Ey rfl (Rg zk rfl (by assumption) ?_)));clear H K2;intro a H;refine kH H (Rl zl rfl (Rc rfl (Kz K7 (Cd rfl ?_ ?_)))) <;> clear H K7
 ·intro h20 a H
  try have rP:=dT h20
  refine aO (fun _ K8=>?_)
  have e:jV d=9:=by
   have h:zG d.revs=9:=Q6 (m:=256) (by omega);rw [hE1,wW (by rw [h];decide),h]
  exact kP H (SC (aM K8 rfl (LR results21 rfl fun H=>H.rt (aC vi e.symm))))
 intro h20 a H
 try have rP:=dF h20
 have hRv:zG d.revs=iQ (Ae d.revs) d.revs.length:=Q5 (m:=256) (by omega);refine kP H (Kc K6 (SQ fun _ K9=>SR fun _ aZ=>ak aZ rfl (SB ?_)));clear H K6 aZ;intro a H;skip;refine fH (ι:=Nat × GH) (Tc:=[(1,_)]) (Lc:=[]) (fun gh=>[(4,vi gh.1)]) (fun gh=>[]) (fun gh=>gh.2) (fun gh=>gh.1≤d.revs.length∧bV (((List.range d.revs.length).map (Ae d.revs)).drop gh.1)=iQ (Ae d.revs) d.revs.length∧(∀ b o,CQ b=some o→gh.2 b=some o)) (fun gh=>d.revs.length - gh.1) ((0,CQ)) (by exact (H).sub ⟨rfl,rfl,av⟩) ?_ ?_
 ·exact ⟨iK _,rfl,fun _ _ h=>h⟩
 clear H;intro gh a w hI H;obtain ⟨k,g⟩:=gh;dsimp only at hI H;obtain ⟨hk,he,qo⟩:=hI;have alQ:=aF qo hgr;have acr:=oI.mono qo;dsimp only [lca,aS] at H;refine kP H (SQ fun _ bN=>SR fun _ bQ=>Rm rfl (Rf Ey rfl (Rg zk rfl (by assumption) ?_)));clear H;intro a H;refine kH H (Rl zl rfl (Rc rfl (Kz bQ (Cd rfl ?_ ?_)))) <;> clear H bQ
 ·intro gZ a H
  try have p25:=dT gZ
  have hk2:k < d.revs.length:=by omega
  have hk1:k - 1 < d.revs.length:=by omega
  obtain ⟨lb,lo,rfl,hrow⟩:=LW acr hk2;obtain ⟨_,_,Jg,hrow'⟩:=LW acr hk1
  injection Jg with Jg
  injection Jg with M8 e2'
  subst M8;subst e2';have hte:=zt _ (jr hk2);obtain ⟨x,hx⟩:∃ x,x=d.revs[k]:=⟨_,rfl⟩
  have hek:Ae d.revs k=OJ d.revs k x:=by unfold Ae;rw [gD hk2,hx]
  unfold OJ at hek
  have hinc:xK x.id d.revs[k - 1].id (decide ((k:Int)=0))=lQ (fun k=>(d.revs[k]?.map fF.id).getD 0) k:=by
   rw [← WI];(try dsimp only);rw [gD hk2,gD hk1,hx];simp
  rw [← hx] at hrow hte
  have QV:∀ e,Ae d.revs k=e→e≠0→jV d=e:=fun e h1 h2=>by
   have h3:zG d.revs=e:=by rw [hRv,zF hk2 he (by rw [h1];exact h2),h1]
   rw [hE1,wW (by rw [h3];exact h2),h3]
  refine kP H (Kc bN (SQ fun _ bT=>SB (SR fun _ cu=>Rf Ey rfl (Rg zk rfl (by assumption) ?_))));clear H bN;intro a H;refine kH H (Rm rfl (Ri zl Ah rfl rfl ?_));clear H;intro a H;refine bD Ah (cs:=x.cells) H wn rfl rfl (fun j v hj=>H.hp.aH (hrow j v hj)) rfl ?_;clear H;intro a H;refine dR Ah H wn rfl ?_;clear H;intro b5 a w hb5 H;refine bO Ah 0 (vs:=[_,_,_]) _ H wn rfl rfl rfl rfl rfl rfl rfl rfl ?_;clear H;intro w H;dsimp only [List.set,setRow] at H;refine cu _ _ ?_;clear cu;refine aO (fun _ dL=>?_);refine aO (fun _ dO=>?_);refine dI hmx [[],[0],[],[2],[],[4],[4,5],(ra 2 5),(ra 2 6),(ra 2 7),[],[10],(ra 0 12),(ra 0 13)] [13] (by kernel_rfl) [_,vi x.id,_,_,_,_,vi ((k - 1:Nat):Int),_,_,_,_,_,vi (lQ (fun k=>(d.revs[k]?.map fF.id).getD 0) k)] H (aG (Z0 rfl (Rf Ns rfl)) (Z1 0 33 rfl (Ro aD 0 rfl)) (Z0 rfl (Rf Ey rfl)) (X1 2 35 rfl fun hG=>Rg zk rfl (aF hG alQ)) (aG (Z0 rfl (Rm rfl)) (Z1 4 37 rfl (Rs rfl)) ?_ (Z2 3 36 6 39 rfl (Ri zl Ah rfl rfl)) (aG (Z1 7 40 rfl (Rf Ns rfl)) (X1 8 41 rfl fun hG=>Rg aD rfl (aF hG (hrow' 0 _ rfl))) (Z0 rfl (Rm rfl)) (Z1 10 43 rfl (Rc rfl)) (bG ?_ (bG (cZ rfl) dU))))) ?_
  ·refine eF 5 38 rfl rfl fun _ a w G1 hG HT H fin=>?_;refine He H wn rfl rfl rfl ?_;clear H;intro a H;exact fin H iJ (aC vi (by omega))
  ·refine sW 1 34 9 42 11 44 rfl rfl fun _ a w G1 hG HT H fin=>?_;refine s_call T9 H wn rfl (WJ _ _ H.ro x.id d.revs[k - 1].id (decide ((k:Int)=0))) rfl ?_;clear H;rintro v45 G45 a w ⟨rfl,-⟩ akM H;exact fin H akM (aC vi hinc)
  clear H;intro a w G sH H hv;have H:=H.aU (hv 12 45 rfl rfl) rfl;clear hv;refine kH H (Ra rfl ?_);clear H;intro a H;refine aI ⟨rfl,?_⟩;refine dO _ _ ?_;clear dO;refine kP H (SR fun _ dJ=>Rm rfl (Rc rfl (Kz dJ (Cd rfl ?_ ?_)))) <;> clear H dJ
  ·intro h47 a H
   try have p47:=dT h47
   refine aO (fun _ dW=>?_);have e:jV d=lQ (fun k=>(d.revs[k]?.map fF.id).getD 0) k:=QV _ (by rw [hek,wW p47]) p47;exact kP H (SC (Rm rfl (aM dW rfl (LR results21 rfl fun H=>H.rt (aC vi e.symm)))))
  intro h47 a H
  try have p47:=dF h47
  refine kP H (Kc dL (SB (SR fun _ eG=>aW abd gX 0 rfl rfl ?_)));clear H dL;intro a H;refine s_call aaK H wn rfl (Zy _ _ H.ro x.author hte) rfl ?_;clear H;rintro v52 _ a w ⟨rfl,rfl⟩ - H;refine kH H (Rn rfl (ak eG rfl (Cd rfl ?_ ?_))) <;> clear H eG
  ·intro qI a H
   refine aO (fun _ eB=>?_);have e:jV d=39:=QV _ (by rw [hek,jv (gF.1 p47),show (!qE x.author)=true from qI];rfl) (by decide);exact kP H (SC (aM eB rfl (LR results21 rfl fun H=>H.rt (aC vi e.symm))))
  intro qI a H
  try have p49:=dF qI
  have Hr:bS (!qE x.author) 39=0:=by rw [show (!qE x.author)=false from qI];rfl
  refine kP H (SR fun _ eH=>aW Ut aD 0 rfl rfl (Rc rfl (Rm rfl (Sp 58 rfl ?_ ?_)))) <;> clear H
  ·intro jD a H
   try have p58:=dT jD
   refine kH H (aT jD rfl (Pt jD rfl (ak eH rfl (Ct rfl rfl (SQ fun _ fO=>?_)))));clear H eH;intro a H;have e:jV d=40:=QV _ (by rw [hek,jv (gF.1 p47),jv Hr,iC (by omega)];rfl) (by decide);exact kP H (SC (aM fO rfl (LR results21 rfl fun H=>H.rt (aC vi e.symm))))
  intro jD a H
  try have p58:=dF jD
  refine kH H (YF Ut jD rfl (YO aD 0 jD rfl (YC jD rfl (Pf jD rfl (ak eH rfl (Cd rfl ?_ ?_)))))) <;> clear H eH
  ·intro iV a H
   try have p54:=dT iV
   refine aO (fun _ gJ=>?_);have e:jV d=40:=QV _ (by rw [hek,jv (gF.1 p47),jv Hr,iC (by omega)];rfl) (by decide);exact kP H (SC (aM gJ rfl (LR results21 rfl fun H=>H.rt (aC vi e.symm))))
  intro iV a H
  try have p54:=dF iV
  have Si:bS (!decide (0≤x.time∧x.time≤1099511627776)) 40=0:=by rw [gq (by omega)];rfl
  refine kP H (Kc bT (SC (Rm rfl (Rd rfl (Ra rfl ?_)))));clear H bT;intro a H;refine aI ?_;refine dP ((k+1,_)) (by exact (H.dK (Pl:=[_]) (dw:=[]) [] (by decide) rfl).sub ⟨rfl,rfl,av⟩) ?_ ?_
  ·(try dsimp only);exact ⟨by omega,Pw hk2 he (by rw [hek,jv (gF.1 p47),jv Hr,jv Si];rfl),fun b o h=>sH b o (qo b o h)⟩
  first|omega|(dsimp only;omega)
 intro gZ a H
 try have p25:=dF gZ
 have akX:zG d.revs=0:=by rw [hRv,Pv (by omega) he]
 rw [jv akX] at hE1;have hgg:∀ b o,Ga b=some o→g b=some o:=fun b o h=>qo b o (uI b o h);replace hhd:=hhd.mono hgg;replace hfl:=hfl.mono hgg;have hmk:CY g ⟨df,dp,dd,dy,⟨rA,d.revs.length,rc⟩,d1,d2,d3,d4,d.fin.marks.ins,d.fin.marks.move⟩ d.mP.styles d.mP.lists d.revs:=⟨hst.st.mono hgg,hst.li.mono hgg,oI.mono qo⟩;have hmz:Io d.mP.styles d.mP.lists d.revs:=⟨aev (yK e1 _ jd),zs,zg.ln,zr⟩;have alO:=aF hgg hgf;refine eD ?_;refine K9 _ _ ?_;clear K9;refine dz (fun _ gT=>?_);refine bD mZ H wn rfl rfl (fun j v hj=>H.hp.aH (aF hgg (hga j v hj))) rfl ?_;clear H;intro a H;refine lY aqA [_,_,_,_,_,_,_,_,_,_,_,_,_,_] H wn rfl rfl rfl rfl ?_;clear H;intro a H;refine eU (cs:=[_,_,_,_,_,_,_,_,_,_,_,_,_,_]) H wn rfl rfl rfl ?_;clear H;intro PD a w asK H;refine kH H (ak gT rfl (SQ fun _ gM=>SR fun _ jh=>Rm rfl (Rf IV rfl ?_)));clear H gT;intro a H;refine bD nC (cs:=[dD dp,vi d.fin.marks.ins,vi d.fin.marks.move,dD dd,dD dy]) H wn rfl rfl (fun j v hj=>H.hp.aH (aF hgg (hgh j v hj))) rfl ?_;clear H;intro a H;refine iH P7 (Li:=[]) (L:=[jl ⟨df,dp,dd,dy,⟨rA,d.revs.length,rc⟩,d1,d2,d3,d4,d.fin.marks.ins,d.fin.marks.move⟩ PD (.slice none 0 0) 0]) H wn rfl (Rh _ _ _ _ _ _ _ PD (.slice none 0 0) 0 hmk hmz (Hp.owns (Li:=[]) H.hp) 3 d.fin _ _ _ hhd zh) rfl ?_;clear H;rintro v69 _ _ a w ⟨rfl,rfl,rfl⟩ - H;dsimp only [List.nil_append] at H;refine kH H (ak jh rfl (SR fun _ jo=>Rm rfl (Rc rfl (Kz jo (Cd rfl ?_ ?_))))) <;> clear H jh jo
 ·intro vv a H
  try have p71:=dT vv
  refine aO (fun _ iU=>?_)
  have e:jV d=gB d.pF 3 d.fin:=by rw [hE1,wW p71,wW p71]
  exact kP H (SC (Rm rfl (aM iU rfl (LR results21 rfl fun H=>H.rt (aC vi e.symm)))))
 intro vv a H
 try have p71:=dF vv
 rw [jv (gF.1 p71),Dl] at hE1;refine kP H (Kc gM (SQ fun _ kX=>SR fun _ kY=>Rf IV rfl (Rf pG rfl ?_)));clear H gM;intro a H;refine bD Bp (cs:=[vi d.fin.marks.ins,vi d.fin.marks.move,dD dd,dD dy]) H wn rfl rfl (fun j v hj=>H.hp.aH (aF hgg (hgm j v hj))) rfl ?_;clear H;intro a H;refine dR Bp H wn rfl ?_;clear H;intro b9 a w uG H;refine bO Bp 0 (vs:=[_,_,_,_]) _ H wn rfl rfl rfl rfl rfl rfl rfl rfl ?_;clear H;intro w H;dsimp only [List.set,setRow] at H;refine kY _ _ ?_;clear kY;refine kP H (SR fun _ jT=>aW vg aD 0 rfl rfl (Rc rfl (Rm rfl (Sp 79 rfl ?_ ?_)))) <;> clear H
 ·intro jw a H
  try have Ab:=dT jw
  refine kH H (aT jw rfl (Pt jw rfl (Rm rfl (aP rfl rfl (aP rfl rfl (Pt rfl rfl (Kz jT (Ct rfl rfl (SQ fun _ lG=>?_)))))))));clear H jT;intro a H
  have e:jV d=21:=by
   have h:tZ d.fin.marks=true:=gq (by simp_all);rw [hE1,h];rfl
  exact kP H (SC (aM lG rfl (LR results21 rfl fun H=>H.rt (aC vi e.symm))))
 intro jw a H
 try have Ab:=dF jw
 refine kH H (YF wV jw rfl (YO aD 0 jw rfl (YC jw rfl (Pf jw rfl (Rm rfl (Sp 84 rfl ?_ ?_)))))) <;> clear H
 ·intro h84 a H
  try have Xo:=dT h84
  refine kH H (aP h84 rfl (aP h84 rfl (Pt h84 rfl (Kz jT (Ct rfl rfl (SQ fun _ lH=>?_))))));clear H jT;intro a H
  have e:jV d=21:=by
   have h:tZ d.fin.marks=true:=gq (by simp_all);rw [hE1,h];rfl
  exact kP H (SC (aM lH rfl (LR results21 rfl fun H=>H.rt (aC vi e.symm))))
 intro h84 a H
 try have Xo:=dF h84
 refine kH H (YF mV h84 rfl (YO mY 0 h84 rfl (YL lF h84 rfl (YC h84 rfl (Pf h84 rfl (Kz jT (Cd rfl ?_ ?_))))))) <;> clear H jT
 ·intro U1 a H
  try have p89:=dT U1
  refine aO (fun _ kL=>?_)
  have e:jV d=21:=by
   have h:tZ d.fin.marks=true:=gq (by simp_all);rw [hE1,h];rfl
  exact kP H (SC (aM kL rfl (LR results21 rfl fun H=>H.rt (aC vi e.symm))))
 intro U1 a H
 try have p89:=dF U1
 have hmb:tZ d.fin.marks=false:=iC (by simp_all);rw [hmb,jv (show bS false 21=0 from rfl)] at hE1;refine kP H (Kc kX (SQ fun _ mQ=>SR fun _ mR=>Rm rfl (Rf BP rfl (Rg iM rfl alO ?_))));clear H kX;intro a H;refine iH Ua (Li:=[_]) (L:=[jl ⟨df,dp,dd,dy,⟨rA,d.revs.length,rc⟩,d1,d2,d3,d4,d.fin.marks.ins,d.fin.marks.move⟩ PD (.slice none 0 0) 0]) H wn rfl (adg 4294967297 (by omega) _ _ [] _ _ _ _ _ PD _ ⟨0,[]⟩ d.flow _ true false 0 hmk hmz ⟨[],rfl,iP.nil⟩ (Hp.owns (Li:=[_]) H.hp) hfl (by omega) (by omega) (by omega) (by decide) (by dsimp only;omega) (by dsimp only [List.length_nil];omega)) rfl ?_;clear H;rintro v93 _ _ a w ⟨rfl,v5,L5,s5,rfl,rfl,hv5,h5⟩ - H;dsimp only [lca,aS] at H;refine kH H (ak mR rfl (SR fun _ nD=>Rm rfl (Rc rfl (Kz nD (Cd rfl ?_ ?_))))) <;> clear H mR nD
 ·intro IZ a H
  try have EX:=dT IZ
  refine aO (fun _ rX=>?_)
  have e:jV d=(iG d.pF true false 0 d.flow ⟨0,[]⟩).1:=by rw [hE1,wW EX]
  exact kP H (SC (Rm rfl (aM rX rfl (LR results21 rfl fun H=>H.rt (aC vi e.symm)))))
 intro IZ a H
 try have EX:=dF IZ
 rw [jv (gF.1 EX),Dl] at hE1;have hs5:=h5 (gF.1 EX);subst hs5;refine kP H (Kc mQ (SQ fun _ wL=>SR fun _ mg=>Rm rfl (Rk rfl (aW Ur aD 1 rfl rfl (Rc rfl (Kz mg (Cd rfl ?_ ?_))))))) <;> clear H mQ mg
 ·intro nR a H
  try have Oz:=dT nR
  refine aO (fun _ zB=>?_)
  have e:jV d=9:=by rw [hE1,gq Oz];rfl
  exact kP H (SC (aM zB rfl (LR results21 rfl fun H=>H.rt (aC vi e.symm))))
 intro nR a H
 try have Oz:=dF nR
 refine fI ?_;refine wL _ _ ?_;clear wL;refine aO (fun _ wM=>?_)
 have e:jV d=0:=by rw [hE1,iC Oz];rfl
 exact kP H (SC (aM wM rfl (LR results21 rfl fun H=>H.rt (aC vi e.symm))))
theorem aqu (G:GH) (w0:World) (hG:Hold G w0) (D:kN) (d:zw) (hR:D9 G D d) (hz:J9 d) :
  Calls prog 19 #[D.val] w0 (bR w0 G fun u G'=>∃ b,u=.bool b):=by
 obtain ⟨df,dp,dd,dy,dr,d1,d2,d3,d4,ins,mv⟩:=D;obtain ⟨hfl,hhd,hin,hmv,oI,hst⟩:=hR;dsimp only at hfl hhd hin hmv oI hst;subst hin;subst hmv;refine eN [(0,_)] func19 rfl ntmps19 rfl rfl hG ?_;intro a H;refine dz (fun _ K1=>?_);refine eU (cs:=[_,_,_,_,_,_,_,_,_,_,_]) H wn rfl rfl rfl ?_;clear H;intro b1 a w hb1 H;refine kH H (ak K1 rfl (SQ fun _ K2=>?_));clear H K1;intro a H;obtain ⟨Ga,hma,hb1',H⟩:=H.fD;have hgs:=fun j v hj=>Dn hb1' 7 [dD d1,dD d2,dD d3,dD d4] rfl j v hj;have hgh:=fun j v hj=>Dn hb1' 1 [dD dp,vi d.fin.marks.ins,vi d.fin.marks.move,dD dd,dD dy] rfl j v hj
 have hgr:aH Ga b1 6=some (dD dr):=by unfold aH;rw [hb1'];rfl
 have hgf:aH Ga b1 0=some (dD df):=by unfold aH;rw [hb1'];rfl
 replace hfl:=hfl.mono hma;replace hst:=hst.mono hma;refine kP H (SC (Rf IV rfl ?_));clear H;intro a H;refine bD nC (cs:=[dD dp,vi d.fin.marks.ins,vi d.fin.marks.move,dD dd,dD dy]) H wn rfl rfl (fun j v hj=>H.hp.aH (hgh j v hj)) rfl ?_;clear H;intro a H;refine dR nC H wn rfl ?_;clear H;intro b3 a w hb3 H;refine bO nC 0 (vs:=[_,_,_,_,_]) _ H wn rfl rfl rfl rfl rfl rfl rfl rfl ?_;clear H;intro w H;dsimp only [List.set,setRow] at H;refine kH H (Kn K2 (SR fun _ K3=>Rf BP rfl (Rg iM rfl (by assumption) ?_)));clear H K2;intro a H;refine s_call ajl H wn rfl (aqw _ _ H.ro d.flow _ hfl hz.fl) rfl ?_;clear H;rintro v8 G8 a w ⟨b8,rfl⟩ AZ H;refine kH H (Rm rfl (Sp 9 rfl ?_ ?_)) <;> clear H
 ·intro h9 a H
  refine kH H (YF Ez h9 rfl ?_);clear H;intro a H;refine bD Yb (cs:=[dD d1,dD d2,dD d3,dD d4]) H (wg H rfl rfl h9) rfl rfl (fun j v hj=>H.hp.aH (aF AZ (hgs j v hj))) rfl ?_;clear H;intro a H;refine s_call aik H (wg H rfl rfl h9) rfl (aqy _ _ H.ro d.mP _ _ _ _ (hst.mono AZ) hz.sn hz.st) rfl ?_;clear H;rintro v12 Fu a w ⟨b12,rfl⟩ Jj H;replace hgr:=aF Jj (aF AZ hgr);refine kH H (Pt h9 rfl (Rm rfl (Sp 14 rfl ?_ ?_))) <;> clear H
  ·intro eO a H
   refine kH H (YF Ey eO rfl (YR zk eO rfl hgr (YL zl eO rfl (YC eO rfl (Pt eO rfl (Rm rfl (Sp 20 rfl ?_ ?_))))))) <;> clear H
   ·intro h20 a H
    refine kH H (YF yH h20 rfl (YO vN 0 h20 rfl (YL oh h20 rfl (YC h20 rfl (Pt h20 rfl (Rm rfl (Sp 26 rfl ?_ ?_))))))) <;> clear H
    ·intro fV a H
     refine kH H (YF pG fV rfl (YF vZ fV rfl (YO wJ 0 fV rfl (YL qy fV rfl (YC fV rfl (Pt fV rfl (Rm rfl (Sp 33 rfl ?_ ?_)))))))) <;> clear H
     ·intro qh a H
      exact kH H (YF pG qh rfl (YF mV qh rfl (YO mY 0 qh rfl (YL lF qh rfl (YC qh rfl (Pt qh rfl (ak K3 rfl (LR results19 rfl fun H=>H.rt ⟨_,rfl⟩))))))))
     intro qh a H
     exact kH H (aT qh rfl (aP qh rfl (Pf qh rfl (ak K3 rfl (LR results19 rfl fun H=>H.rt ⟨_,rfl⟩)))))
    intro fV a H
    exact kH H (aT fV rfl (aP fV rfl (Pf fV rfl (Rm rfl (aT rfl rfl (aP rfl rfl (Pf rfl rfl (ak K3 rfl (LR results19 rfl fun H=>H.rt ⟨_,rfl⟩)))))))))
   intro h20 a H
   exact kH H (aP h20 rfl (aP h20 rfl (Pf h20 rfl (Rm rfl (aT rfl rfl (aP rfl rfl (Pf rfl rfl (Rm rfl (aT rfl rfl (aP rfl rfl (Pf rfl rfl (ak K3 rfl (LR results19 rfl fun H=>H.rt ⟨_,rfl⟩)))))))))))))
  intro eO a H
  exact kH H (aP eO rfl (aP eO rfl (Pf eO rfl (Rm rfl (aP rfl rfl (aP rfl rfl (Pf rfl rfl (Rm rfl (aT rfl rfl (aP rfl rfl (Pf rfl rfl (Rm rfl (aT rfl rfl (aP rfl rfl (Pf rfl rfl (ak K3 rfl (LR results19 rfl fun H=>H.rt ⟨_,rfl⟩)))))))))))))))))
 intro h9 a H
 exact kH H (aT h9 rfl (Pf h9 rfl (Rm rfl (aP rfl rfl (aP rfl rfl (Pf rfl rfl (Rm rfl (aP rfl rfl (aP rfl rfl (Pf rfl rfl (Rm rfl (aT rfl rfl (aP rfl rfl (Pf rfl rfl (Rm rfl (aT rfl rfl (aP rfl rfl (Pf rfl rfl (ak K3 rfl (LR results19 rfl fun H=>H.rt ⟨_,rfl⟩))))))))))))))))))))
end
section
open Go.RowKit
theorem aqT:Ty prog 234 1 8 [.nilFunc] false:=⟨by kernel_rfl,by kernel_rfl⟩
theorem ahF:∀ args w,(callFunc 118 args).run prog w=.ok (.enter 118 args) w:=enters func118 rfl (by kernel_rfl)
theorem aax:∀ args w,(callFunc 188 args).run prog w=.ok (.enter 188 args) w:=enters func188 rfl (by kernel_rfl)
theorem aiu:∀ args w,(callFunc 190 args).run prog w=.ok (.enter 190 args) w:=enters func190 rfl (by kernel_rfl)
theorem WH {A:List Int} {k:Nat} {args:List aj} {g:GH} (h:zu (A.map DK) k args g):∃ hk:k < A.length,args=[vi A[k]]:=by
 obtain ⟨p,hp,hargs⟩:=h;rw [qY] at hp;obtain ⟨q,hq,rfl⟩:=qC.1 hp;obtain ⟨hk,rfl⟩:=mM.1 hq;exact ⟨hk,hargs⟩
theorem anh {G G0:GH} {A:List Int} {b2:Nat} {fv:aj} {J:Nat→GH→OL→Prop} {Jx:GH→OL→Prop} (hcb:Fq prog fv G0 (A.map DK) J Jx) (hG0:∀ b o,G0 b=some o→G b=some o) (Ce:fv.cells=#[fv]) (hb:aH G b2 0=some fv) :
  Fq prog (.func (.func 190) #[] #[(aK b2 0)]) G (A.map DK) J Jx:=by
 intro k args G1 L w0 hk hm hJ hO;obtain ⟨hk2,rfl⟩:=WH hk;refine mU (caps:=[(aK b2 0)]) aiu ?_;replace hb:=aF hm hb;refine mH (N:=7) (T:=[(0,_),(1,_)]) func190 rfl ntmps190 rfl rfl hO ?_;intro a H;refine kP H (SR fun _ K1=>ak K1 rfl (SR fun _ K2=>Rg aqT rfl (by assumption) ?_));clear H K1;intro a H;refine kH H (Rm rfl ?_);clear H;intro a H;refine xU (Li:=[]) (L:=L) H wn rfl rfl (hcb _ _ _ _ _ hk (fun b o h=>hm b o (hG0 b o h)) hJ (Hp.owns (Li:=[]) H.hp)) rfl ?_;clear H;rintro v6 G6 L6 a w ⟨b6,rfl,h1,h2⟩ KY H;exact kH H (ak K2 rfl (LR results190 rfl fun H=>H.hp.gL ⟨b6,rfl,h1,h2⟩))
theorem ani {G:GH} {bd:Nat} {D:kN} {l:List ay} (hb:G bd=some (.cells D.cells.toArray 50 (0,0))) (hv:aB G (.sl 11 (l.map ay.dat)) (dD D.f)) (hz:bM l≤4294967296) :
  Iter prog G (.func (.func 188) #[] #[(aK bd 0)]) ((jA l).map DK):=by
 intro J Jx fv G1 L w0 Ce hGi nk hJx hJ hO hcb;refine mU (caps:=[(aK bd 0)]) aax ?_;have hfl:aH G1 bd 0=some (dD D.f):=aF hGi (by unfold aH;rw [hb];rfl);refine mH (N:=7) (T:=[(0,_),(1,_)]) func188 rfl ntmps188 rfl rfl hO ?_;intro a H;refine dz (fun _ K1=>?_);refine eU (cs:=[fv]) H wn rfl Ce rfl ?_;clear H;intro b2 a w hb2 H;refine K1 _ _ ?_;clear K1;obtain ⟨G2,hm2,hb2,H⟩:=H.fD;replace hfl:=aF hm2 hfl;refine kP H (SC (Rf BP rfl (Rg iM rfl (by assumption) ?_)));clear H;intro a H;refine qR H wn rfl rfl ?_;clear H;intro a H;refine iH TQ (Li:=[]) (L:=L) H wn rfl (aeZ 4294967297 (by omega) _ G2 ((jA l).map DK) J Jx G2 _ _ 0 l _ (fun _ _ h=>h) (anh (b2:=b2) hcb hm2 Ce (by unfold aH;rw [hb2];rfl)) nk hJx (nk _ _ _ _ hm2 hJ) (Hp.owns (Li:=[]) H.hp) ((hv.mono hGi).mono hm2) (by omega) (fun i a h=>by rw [pz,qY,h];rfl)) rfl ?_;clear H;rintro v6 G6 L6 a w ⟨b6,rfl,h1,h2⟩ KY H;refine aI ?_;refine (leave0 H results188 ?_).2
 cases b6
 ·exact H.hp.gL (.inr (h2 rfl))
 exact H.hp.gL (.inl (by simpa using h1 rfl))
theorem ank (G:GH) (w0:World) (hG:Hold G w0) (D:kN) (l:List ay) (hv:aB G (.sl 11 (l.map ay.dat)) (dD D.f)) (hz:bM l≤4294967296) :
  Calls prog 118 #[D.val] w0 (bR w0 G fun v G'=>∃ bd,v=.func (.func 188) #[] #[(aK bd 0)]∧Iter prog G' v ((jA l).map DK)):=by
 refine eN [(0,_)] func118 rfl ntmps118 rfl rfl hG ?_;intro a H;refine dz (fun _ K1=>?_);refine eU (cs:=[_,_,_,_,_,_,_,_,_,_,_]) H wn rfl rfl rfl ?_;clear H;intro b1 a w hb1 H;refine kH H (ak K1 rfl (SR fun _ K2=>?_));clear H K1;intro a H;refine qR H wn rfl rfl ?_;clear H;intro a H;refine kH H (ak K2 rfl ?_);clear H K2;intro a H;refine dM ?_;obtain ⟨G2,hm2,hb2,H⟩:=H.fD;refine lv H results118 rfl ?_;exact H.rt ⟨b1,rfl,ani hb2 (hv.mono hm2) hz⟩
def JK (l:List Int):Int:=l.foldl max 0
theorem aof {l:List Int} {k:Nat} (h:k < l.length):JK (l.take (k+1))=max (JK (l.take k)) l[k]:=by
 rw [JK,jZ h,List.foldl_append];rfl
theorem akv (G:GH) (w0:World) (hG:Hold G w0) (D:kN) (l:List ay) (hv:aB G (.sl 11 (l.map ay.dat)) (dD D.f)) (hz:bM l≤4294967296) (hm:JK (jA l)≤4611686018427387904) (h0:0≤JK (jA l)) :
  Calls prog 50 #[D.val] w0 (bR w0 G fun v G'=>v=vi (JK (jA l)+1)):=by
 refine eN [(0,_)] func50 rfl ntmps50 rfl rfl hG ?_;intro a H;refine dz (fun _ K1=>?_);refine eU (cs:=[_,_,_,_,_,_,_,_,_,_,_]) H wn rfl rfl rfl ?_;clear H;intro b1 a w hb1 H;refine kH H (ak K1 rfl (SR fun _ K2=>?_));clear H K1;intro a H;refine dR aD H wn rfl ?_;clear H;intro b3 a w hb3 H;refine bO aD 0 (vs:=[_]) _ H wn rfl rfl rfl rfl rfl rfl rfl rfl ?_;clear H;intro w H;dsimp only [List.set,setRow] at H;refine K2 _ _ ?_;clear K2;refine aO (fun _ K3=>?_);refine dz (fun _ K4=>?_);refine bD mZ (cs:=[_,_,_,_,_,_,_,_,_,_,_]) H wn rfl rfl (H.hp.eu 1 rfl rfl) rfl ?_;clear H;intro a H;refine s_call ahF H wn rfl (ank _ _ H.ro D l hv hz) rfl ?_;clear H;rintro v6 G6 a w ⟨bd,rfl,hit⟩ KY H;refine K4 _ _ ?_;clear K4;refine sw ?_;skip;refine AA (ι:=Unit) (κ:=Empty) (Lc:=[(_,_)]) (fun (k:Nat) (gh:Unit)=>[(b3,.cells #[vi (JK ((jA l).take k))] 3 (0,0))]) (fun (k:Nat) (gh:Unit)=>[]) (fun (k:Nat) (gh:Unit) (g:GH)=>True) (fun x=>x.elim) (fun x=>x.elim) (fun x=>x.elim) (fun x=>x.elim) (()) (by exact H.dK (Pl:=[_,_]) (dw:=[_,_]) [1,0] (by decide) rfl) rfl aax (hit) (fun _ _ h=>h) rfl (fun k args g h=>by obtain ⟨_,rfl⟩:=WH h;rfl) (fun _ _ _ _ _ h=>h) (fun x=>x.elim) (trivial) ?_ ?_ ?_
 ·clear H;intro l3 uL sj bk k args gh G3 w3 F3 B3 a hk3 sM hI Jc Jp Wo H;obtain ⟨hk,rfl⟩:=WH hk3;dsimp only [ru,List.cons_append,List.nil_append] at H;refine kP H (SC (Ra rfl ?_));clear H;intro a H;refine aI ?_;refine Jc _ _ _ _ _ _ (by exact H) ?_;clear H;intro w H;refine kP H (SB (SC (Ro aD 2 rfl (Rm rfl ?_))));clear H;intro a H;refine He H wn rfl rfl rfl ?_;clear H;intro a H;rw [← aof hk] at H;refine bO aD 2 (vs:=[_]) _ H wn rfl rfl rfl rfl rfl rfl rfl rfl ?_;clear H;intro w H;dsimp only [List.set,setRow] at H;refine aI ?_;refine Jp (()) _ _ _ _ _ (by exact H) ?_
  trivial
 ·clear H;intro Sr gh SE a w sM hI H;dsimp only [lca,aS] at H;refine K3 _ _ ?_;clear K3;refine aO (fun _ K5=>?_);rw [kF (by simp)] at H;refine kP H (SC (Ro aD 2 rfl (Rd rfl (aM K5 rfl ?_))));clear H K5;intro a H;refine dM ?_;refine (uK H 0 rfl ?_).1;clear H;intro a w H;dsimp only [List.eraseIdx_cons_succ,List.eraseIdx_cons_zero] at H;refine lv H results50 rfl ?_;exact H.rt rfl
 intro Dk x;exact x.elim
theorem anz (G:GH) (n:Int):bH G [li n] [vi n]:=by simp [bH,aB,Value.oneCell']
def Bu (A:List jM):Int:=A.foldl (fun n f=>n+yT f.items) 0
theorem aeN {A:List jM} {k:Nat} (h:k < A.length):Bu (A.take (k+1))=Bu (A.take k)+yT A[k].items:=by
 rw [Bu,jZ h,List.foldl_append];rfl
theorem ara (G:GH) (w0:World) (hG:Hold G w0) (D:kN) (l:List ay) (hv:aB G (.sl 11 (l.map ay.dat)) (dD D.f)) (hz:bM l≤4294967296) (hm:∀ k,k≤(jS l).length→0≤Bu ((jS l).take k)∧Bu ((jS l).take k)≤4611686018427387904) :
  Calls prog 51 #[D.val] w0 (bR w0 G fun v G'=>v=vi (Bu (jS l))):=by
 refine eN [(0,_)] func51 rfl ntmps51 rfl rfl hG ?_;intro a H;refine dz (fun _ K1=>?_);refine eU (cs:=[_,_,_,_,_,_,_,_,_,_,_]) H wn rfl rfl rfl ?_;clear H;intro b1 a w hb1 H;refine kH H (ak K1 rfl (SR fun _ K2=>?_));clear H K1;intro a H;refine dR aD H wn rfl ?_;clear H;intro b3 a w hb3 H;refine bO aD 0 (vs:=[_]) _ H wn rfl rfl rfl rfl rfl rfl rfl rfl ?_;clear H;intro w H;dsimp only [List.set,setRow] at H;refine K2 _ _ ?_;clear K2;refine aO (fun _ K3=>?_);refine dz (fun _ K4=>?_);refine bD mZ (cs:=[_,_,_,_,_,_,_,_,_,_,_]) H wn rfl rfl (H.hp.eu 1 rfl rfl) rfl ?_;clear H;intro a H;refine s_call Uc H wn rfl (W9 _ _ H.ro D l hv hz) rfl ?_;clear H;rintro v9 G9 a w ⟨ba,bl,bp,rfl,hit⟩ Ba H;refine K4 _ _ ?_;clear K4;refine sw ?_;skip;refine AA (ι:=Unit) (κ:=Empty) (Lc:=[(_,_)]) (fun (k:Nat) (gh:Unit)=>[(b3,.cells #[vi (Bu ((jS l).take k))] 3 (0,0))]) (fun (k:Nat) (gh:Unit)=>[]) (fun (k:Nat) (gh:Unit) (g:GH)=>True) (fun x=>x.elim) (fun x=>x.elim) (fun x=>x.elim) (fun x=>x.elim) (()) (by exact H.dK (Pl:=[_,_]) (dw:=[_,_]) [1,0] (by decide) rfl) rfl PZ (hit) (fun _ _ h=>h) rfl (fun k args g h=>by obtain ⟨_,_,_,_,rfl,_⟩:=KJ h;rfl) (fun _ _ _ _ _ h=>h) (fun x=>x.elim) (trivial) ?_ ?_ ?_
 ·clear H;intro l3 uL sj bk k args gh G3 w3 F3 B3 a hk3 sM hI Jc Jp Wo H;obtain ⟨hk,vA,vn,vc,rfl,hfr⟩:=KJ hk3;dsimp only [ru,List.cons_append,List.nil_append] at H;refine oD ?_;refine dR R8 H wn rfl ?_;clear H;intro b5 a w hb5 H;refine bO R8 0 (vs:=[_,_,_,_]) _ H wn rfl rfl rfl rfl rfl rfl rfl rfl ?_;clear H;intro w H;dsimp only [List.set,setRow] at H;refine aI ?_;refine Jc _ _ _ _ _ _ (by exact H.dK (Pl:=[_,_,_,_]) (dw:=[_,_,_,_]) [1,0,2,3] (by decide) rfl) ?_;clear H;intro w H;refine kP H (SB (SR fun _ K5=>aW aaZ iM 1 rfl rfl ?_));clear H;intro a H;refine s_call Ng H wn rfl (Ou _ _ H.ro (jS l)[k].items _ hfr (Nat.le_trans (UC (jr hk)) hz)) rfl ?_;clear H;rintro v15 _ a w ⟨rfl,rfl⟩ - H;refine kH H (Rm rfl ?_);clear H;intro a H;(iterate 2 refine lD H wn rfl rfl rfl ?_;clear H;intro a H);refine kH H (Ra rfl (ak K5 rfl ?_));clear H K5;intro a H;have Qw:=hm (k+1) hk;rw [aeN hk] at Qw;refine kP H (SC (Ro aD 3 rfl (Rm rfl (Rd rfl ?_))));clear H;intro a H;rw [← aeN hk] at H;refine bO aD 3 (vs:=[_]) _ H wn rfl rfl rfl rfl rfl rfl rfl rfl ?_;clear H;intro w H;dsimp only [List.set,setRow] at H;refine aI ?_;refine Jp (()) _ _ _ _ _ (by exact H.dK (Pl:=[_,_,_,_]) (dw:=[_,_,_]) [0,2,3] (by decide) rfl) ?_
  trivial
 ·clear H;intro Sr gh SE a w sM hI H;dsimp only [lca,aS] at H;refine K3 _ _ ?_;clear K3;refine aO (fun _ K6=>?_);rw [kF (by simp)] at H;refine kP H (SC (Ro aD 2 rfl (aM K6 rfl ?_)));clear H K6;intro a H;refine dM ?_;refine (uK H 0 rfl ?_).1;clear H;intro a w H;dsimp only [List.eraseIdx_cons_succ,List.eraseIdx_cons_zero] at H;refine lv H results51 rfl ?_;exact H.rt rfl
 intro Dk x;exact x.elim
mutual
theorem arA (note:Bool) (t:Int):∀ x:ay,(Al note t x).length < dG x.dat
 | .mk k c i tx h f r=>by
  have h4:=oK (.mk k c i tx h f r);have hf:=O1 true t f;have hr:=aff note t r;dsimp only [ay.text,ay.head,ay.flow,ay.rows] at h4;rw [Al]
  split
  ·rw [nG];omega
  split <;> first|omega|(simp only [List.length_nil];omega)
theorem O1 (note:Bool) (t:Int):∀ l:List ay,(kJ note t l).length≤bM l
 | []=>by simp [kJ]
 | x :: l=>by
  have h1:=arA note t x;have h2:=O1 note t l;rw [kJ,lJ]
  simp only [bM,fJ,fB] at *;omega
theorem arC (note:Bool) (t:Int):∀ x:bJ,(Am note t x).length≤dG x.dat
 | .mk h cs=>by
  have h4:=uN (.mk h cs);have hc:=afb note t cs;dsimp only [bJ.head,bJ.cells] at h4;rw [Am];omega
theorem aff (note:Bool) (t:Int):∀ l:List bJ,(qW note t l).length≤fq l
 | []=>by simp [qW]
 | x :: l=>by
  have h1:=arC note t x;have h2:=aff note t l;rw [qW,lJ]
  simp only [fq,fJ,fB] at *;omega
theorem arx (note:Bool) (t:Int):∀ x:bB,(Ak note t x).length≤dG x.dat
 | .mk i h f=>by
  have h4:=uM (.mk i h f);have hf:=O1 note (t+1) f;dsimp only [bB.head,bB.flow] at h4;rw [Ak,nG];omega
theorem afb (note:Bool) (t:Int):∀ l:List bB,(rW note t l).length≤iD l
 | []=>by simp [rW]
 | x :: l=>by
  have h1:=arx note t x;have h2:=afb note t l;rw [rW,lJ]
  simp only [iD,fJ,fB] at *;omega
end
theorem aao (G:GH) (w0:World) (hG:Hold G w0) (D:kN) (l:List ay) (hv:aB G (.sl 11 (l.map ay.dat)) (dD D.f)) (hz:bM l≤4294967296) :
  Calls prog 25 #[D.val] w0 (bR w0 G fun u G'=>aB G' (.sl 1 ((jS l).map fun f:jM=>[li f.id])) u):=by
 have hml:4294967299≤maxLen:=by decide
 have hn:(jS l).length≤4294967297:=by
  have:=O1 false 0 l;rw [jS,nG];omega
 refine eN [(0,_)] func25 rfl ntmps25 rfl rfl hG ?_;intro a H;refine dz (fun _ K1=>?_);refine eU (cs:=[_,_,_,_,_,_,_,_,_,_,_]) H wn rfl rfl rfl ?_;clear H;intro b1 a w hb1 H;refine kH H (ak K1 rfl (SR fun _ K2=>?_));clear H K1;intro a H;refine dR Bq H wn rfl ?_;clear H;intro b3 a w hb3 H;refine K2 _ _ ?_;clear K2;refine aO (fun _ K3=>?_);refine aO (fun _ K4=>?_);have H:=H.dK (Pl:=[_,_]) (dw:=[_,_]) [1,0] (by decide) rfl;refine oD ?_;refine bD mZ (cs:=[_,_,_,_,_,_,_,_,_,_,_]) H wn rfl rfl (H.hp.eu 0 rfl rfl) rfl ?_;clear H;intro a H;refine s_call Uc H wn rfl (W9 _ _ H.ro D l hv hz) rfl ?_;clear H;rintro v6 G6 a w ⟨ba,bl,bp,rfl,hit⟩ KY H;refine aI ?_;refine K4 _ _ ?_;clear K4;refine sw ?_;skip;refine AA (ι:=aj × List aj × OL) (κ:=Empty) (Lc:=[(_,_)]) (fun (k:Nat) (gh:aj × List aj × OL)=>[(b3,.cells #[gh.1] 38 (0,0))]) (fun (k:Nat) (gh:aj × List aj × OL)=>gh.2.2) (fun (k:Nat) (gh:aj × List aj × OL) (g:GH)=>iP 3 1 gh.1 k gh.2.1 gh.2.2∧ji g 1 (((jS l).take k).map fun f:jM=>[li f.id]) gh.2.1) (fun x=>x.elim) (fun x=>x.elim) (fun x=>x.elim) (fun x=>x.elim) ((.slice none 0 0,[],[])) (by exact H.Rj (A:=[_,_])) rfl PZ (hit) (fun _ _ h=>h) rfl (fun k args g h=>by obtain ⟨_,_,_,_,rfl,_⟩:=KJ h;rfl) (fun k i G G' hm h=>⟨h.1,h.2.mono hm⟩) (fun x=>x.elim) (⟨iP.nil,ji.nil⟩) ?_ ?_ ?_
 ·clear H;intro l3 uL sj bk k args gh G3 w3 F3 B3 a hk3 sM hI Jc Jp Wo H;obtain ⟨v,xs,Lo⟩:=gh;dsimp only at hI H;obtain ⟨hk,vA,vn,vc,rfl,hfr⟩:=KJ hk3;dsimp only [ru,List.cons_append,List.nil_append] at H;obtain ⟨hrw,kD⟩:=hI;refine kP H (SC (Ra rfl ?_));clear H;intro a H;refine aI ?_;refine Jc _ _ _ _ _ _ (by exact H) ?_;clear H;intro w H;refine kP H (SB (SC (Ro Bq 2 rfl (Rm rfl ?_))));clear H;intro a H;refine jF om aD [_] [_] H wn rfl rfl rfl rfl rfl (by intro i q h;match i,h with|0,h=>exact h|n+1,h=>simp at h) rfl rfl ?_;clear H;intro b11 a w I8 H;refine xS (Li:=[_,_,_,_]++bk) (Lo:=Lo) (news:=[vi (jS l)[k].id]) om aD rfl rfl (St.un (A:=[_,_,_,_]) H) wn rfl rfl hrw rfl (H.hp.eu 0 rfl rfl) rfl (by omega) (by omega) rfl ?_;clear H;intro v12 afF a w acs H;obtain ⟨A12,c12,rfl,-,-⟩:=acs.shape
  simp only [mG,nV,mo] at H
  refine bO Bq 3 (vs:=[_]) _ H wn rfl rfl rfl rfl rfl rfl rfl rfl ?_;clear H;intro w H;dsimp only [List.set,setRow] at H;refine aI ?_;refine Jp ((.slice A12 (k+1) c12,xs++[vi (jS l)[k].id],afF)) _ _ _ _ _ (by exact H.dK (Pl:=[_,_,_,_]) (dw:=[_,_,_]) [1,2,3] (by decide) rfl) ?_;exact ⟨acs,by rw [jZ hk,nP];exact kD.snoc (anz _ _) rfl⟩
 ·clear H;intro Sr gh SE a w sM hI H;obtain ⟨v,xs,Lo⟩:=gh;dsimp only at hI H;dsimp only [lca,aS] at H;obtain ⟨hrw,kD⟩:=hI;rw [bZ] at hrw kD;rw [Db] at kD;refine K3 _ _ ?_;clear K3;refine kP H (SR fun _ K5=>Ro Bq 2 rfl (ak K5 rfl ?_));clear H K5;intro a H;refine dM ?_;refine (uK H 0 rfl ?_).1;clear H;intro a w H;dsimp only [List.eraseIdx_cons_succ,List.eraseIdx_cons_zero] at H;refine lv H results25 rfl ?_;obtain ⟨Gr,hmr,hrep,H⟩:=St.zM (Li:=[_,_]) H hrw (rows:=(jS l).map fun f:jM=>[li f.id]) (by simp) kD;exact H.rt hrep
 intro Dk x;exact x.elim
end
section
open Go.RowKit
def zm:bB:=.mk 5 hd0 [nH]
def zo:bB:=.mk 4 hd0 []
def xY:bJ:=.mk hd0 [zm,zo]
def lZ:ay:=.mk 7 0 3 ⟨#[]⟩ hd0 [] [xY]
def zq:zw:=⟨[lZ],hd0,[],⟨[],[],[],[]⟩⟩
theorem aqS:rV ⟨#[]⟩=true:=by
 have e0:wh ⟨#[]⟩ 0=-1:=by rw [wh,dif_neg (by decide)]
 unfold rV;rw [e0];decide
theorem arO:lW ⟨[],[],[],[]⟩=0:=by simp [lW,bV,gU,uZ,wS,uV,AL,bS,iQ]
theorem arN:zG []=0:=by simp [zG,bV,bS,iQ]
theorem Mg (C:gQ) {e:Int} (h1:1≤e) (h2:e≤10):gB C e hd0=0:=by
 have h3:jf e []=0:=by rw [jf,ah (by omega)];rfl
 simp [gB,bV,hd0,h3,yZ,gI,iQ,bS]
theorem xFa:jW nH=0:=by
 simp [jW,nH,ay.kind,ay.code,ay.id,ay.text,ay.flow,ay.rows,codeOk,wY,BJ,zZ,Ao,Bn,qF,X8.1]
theorem xFt:jW lZ=0:=by
 simp [jW,lZ,ay.kind,ay.code,ay.id,ay.text,ay.flow,ay.rows,codeOk,wY,BJ,zZ,Ao,Bn,qF,aqS]
theorem arL:iG zq.pF true false 0 [lZ] ⟨0,[]⟩=(0,⟨3,[3,5,4]⟩):=by
 generalize zq.pF=C
 have hA:∀ s:CS,iG C false false 1 [nH] s=(0,⟨s.n+2,s.bE⟩):=fun s=>by
  have e1:kU false false 1 nH.kind nH.id ⟨s.n+(gP nH:Nat),s.bE⟩=(0,⟨s.n+2,s.bE⟩):=by rw [uA.1];rfl
  have e2:gB C nH.kind nH.head=0:=Mg C (by decide) (by decide)
  simp [iG,Oq,gK,xFa,e1,e2,show ¬ nH.kind=6 by decide,show ¬ nH.kind=7 by decide]
 have e2:kU true false 0 7 lZ.id ⟨((gP lZ:Nat):Int),[]⟩=(0,⟨1,[3]⟩):=rfl;have e3:gB C 7 lZ.head=0:=Mg C (by decide) (by decide);have e4:gB C 9 xY.head=0:=Mg C (by decide) (by decide);have e5:gB C 10 zm.head=0:=Mg C (by decide) (by decide);have e6:gB C 10 zo.head=0:=Mg C (by decide) (by decide);have e7:jL ⟨1,[3]⟩ zm.id=(0,⟨1,[3,5]⟩):=rfl;have e8:jL ⟨3,[3,5]⟩ zo.id=(0,⟨3,[3,5,4]⟩):=rfl;have f1:lZ.rows=[xY]:=rfl;have f2:xY.cells=[zm,zo]:=rfl;have f3:zm.flow=[nH]:=rfl;have f4:zo.flow=[]:=rfl
 simp [iG,Oq,gK,xFt,e2,e3,show ¬ lZ.kind=6 by decide,show lZ.kind=7 by decide,f1,lC,iw,JU,uh,e4,bV,bS,f2,nQ,AB,e5,e6,e7,e8,f3,f4,hA]
theorem arK:jV zq=0:=by
 have h1:gB zq.pF 3 zq.fin=0:=Mg _ (by decide) (by decide);have h2:lW zq.mP=0:=arO;have h3:zG zq.revs=0:=arN;have h4:iG zq.pF true false 0 zq.flow ⟨0,[]⟩=(0,⟨3,[3,5,4]⟩):=arL
 have h5:tZ zq.fin.marks=false:=by decide
 simp [jV,h1,h2,h3,h4,h5,bV,bS]
theorem Yl:jS [lZ]=[⟨0,[lZ],true,false,0⟩,⟨5,[nH],false,false,1⟩,⟨4,[],false,false,1⟩]:=by
 simp [jS,kJ,afd,lZ,ay.kind,ay.rows,qW,afe,xY,bJ.cells,rW,afa,zm,zo,bB.id,bB.flow,nH]
theorem arM:sP [lZ] 4=some (0,0):=by
 have h1:eZ 5 0 [nH]=[]:=by simp [eZ,LP,nH,ay.kind]
 have h2:eZ 4 0 []=[]:=by simp [eZ]
 simp [sP,eZ,LP,lZ,ay.kind,lS,xY,zm,zo,bJ.cells,jm,adz,bB.id,bB.flow,h1,h2,pK,ay.id,ay.rows,LD]
theorem Ym:jA [lZ]=[3,5,4]:=by
 simp [jA,acG,lZ,ay.kind,ay.id,ay.rows,ay.flow,qp,LB,xY,bJ.cells,qL,LA,zm,zo,bB.id,bB.flow,nH]
theorem afp:∀ k,Bu ((jS [lZ]).take k)=if k=0 then 0 else if k=1 then 1 else 3:=by
 have l1:yT [lZ]=1:=by simp [yT,yG,vM,gP,Bv,lZ,ay.kind]
 have l2:yT [nH]=2:=by simp [yT,yG,vM,uA.1,uA.2]
 have l3:yT []=0:=rfl;intro k;rw [Yl]
 match k with
 | 0=>rfl
 | 1=>simp [Bu,l1]
 | 2=>simp [Bu,l1,l2]
 | n+3=>simp [Bu,l1,l2,l3]
end
section
open Go.RowKit
theorem ajf:∀ args w,(callFunc 49 args).run prog w=.ok (.enter 49 args) w:=enters func49 rfl (by kernel_rfl)
theorem aaE:∀ args w,(callFunc 25 args).run prog w=.ok (.enter 25 args) w:=enters func25 rfl (by kernel_rfl)
theorem P5:∀ args w,(callFunc 30 args).run prog w=.ok (.enter 30 args) w:=enters func30 rfl (by kernel_rfl)
theorem aiG:∀ args w,(callFunc 20 args).run prog w=.ok (.enter 20 args) w:=enters func20 rfl (by kernel_rfl)
theorem ajG:Yz prog 54 [0,1]:=⟨by kernel_rfl,by kernel_rfl,by kernel_rfl,by kernel_rfl,by kernel_rfl⟩
theorem ajg:∀ args w,(callFunc 50 args).run prog w=.ok (.enter 50 args) w:=enters func50 rfl (by kernel_rfl)
theorem ajh:∀ args w,(callFunc 51 args).run prog w=.ok (.enter 51 args) w:=enters func51 rfl (by kernel_rfl)
theorem aos {G:GH}:Ef G ⟨[],[],[],[]⟩ (.slice none 0 0) (.slice none 0 0) (.slice none 0 0) (.slice none 0 0):=⟨aB.jP rfl (by decide),aB.jP rfl (by decide),aB.jP rfl (by decide),aB.jP rfl (by decide)⟩
theorem ajO (G:GH) (w0:World) (hG:Hold G w0) :
  Calls prog 49 #[] w0 (bR w0 G fun u G'=>∃ D:kN,u=D.val∧D9 G' D zq):=by
 refine eN [] func49 rfl ntmps49 rfl rfl hG ?_;intro a H;refine dz (fun _ K1=>?_);refine dR mZ H wn rfl ?_;clear H;intro b0 a w hb0 H;refine K1 _ _ ?_;clear K1;refine dz (fun _ K2=>?_);refine lY XM [_,_,_,_,_,_,_,_,_,_,_] H wn rfl rfl rfl rfl ?_;clear H;intro a H;refine jF iN dB [_,_,_,_,_,_,_,_,_,_,_] [_,_,_,_,_,_,_,_,_,_,_] H wn rfl rfl rfl rfl rfl (by intro i q h;match i,h with|0,h=>exact h|n+1,h=>simp at h) rfl rfl ?_;clear H;intro b3 a w hb3 H;refine kH H (ak K2 rfl (SR fun _ K3=>Rm rfl ?_));clear H K2;intro a H;(iterate 2 refine lY XL [_,_,_,_,_,_,_] H wn rfl rfl rfl rfl ?_;clear H;intro a H);refine jF kV iy [_,_,_,_,_,_,_,_,_,_,_,_,_,_] [_,_,_,_,_,_,_,_,_,_,_,_,_,_] H wn rfl rfl rfl rfl rfl (by intro i q h;match i,h with|0,h=>exact h|1,h=>exact h|n+2,h=>simp at h) rfl rfl ?_;clear H;intro b7 a w tV H;refine lY aen [_,_,_,_,_,_] H wn rfl rfl rfl rfl ?_;clear H;intro a H;refine jF jH iI [_,_,_,_,_,_] [_,_,_,_,_,_] H wn rfl rfl rfl rfl rfl (by intro i q h;match i,h with|0,h=>exact h|n+1,h=>simp at h) rfl rfl ?_;clear H;intro b9 a w uG H;refine lY XM [_,_,_,_,_,_,_,_,_,_,_] H wn rfl rfl rfl rfl ?_;clear H;intro a H;refine jF iN dB [_,_,_,_,_,_,_,_,_,_,_] [_,_,_,_,_,_,_,_,_,_,_] H wn rfl rfl rfl rfl rfl (by intro i q h;match i,h with|0,h=>exact h|n+1,h=>simp at h) rfl rfl ?_;clear H;intro b11 a w I8 H;refine lY aqD [_,_,_,_,_,_,_,_,_,_,_] H wn rfl rfl rfl rfl ?_;clear H;intro a H;refine bO mZ 4 (vs:=[_,_,_,_,_,_,_,_,_,_,_]) _ H wn rfl rfl rfl rfl rfl rfl rfl rfl ?_;clear H;intro w H;dsimp only [List.set,setRow] at H;refine K3 _ _ ?_;clear K3;refine dM ?_;refine (leave1 H results49 (.cons (Cy mZ (cs:=[_,_,_,_,_,_,_,_,_,_,_]) H rfl rfl (H.hp.eu 4 rfl rfl)) .nil) ?_).1;have H:=H.dK (Pl:=[_,_,_,_,_]) (dw:=[_,_,_,_]) [3,2,1,0] (by decide) rfl;obtain ⟨G3,sM,hr3,H⟩:=H.Nt (sz:=11) (d:=nH.dat) rfl (bH.mkItem (x:=nH) KT (aB.jP (A:=none) (n:=0) (c:=0) rfl (by decide)) (aB.jP (A:=none) (n:=0) (c:=0) rfl (by decide)));obtain ⟨G7,uJ,tV,H⟩:=H.fD;have rA:bH G7 zm.dat _:=bH.Ox (x:=zm) KT (hr3.mono uJ);have rB:bH G7 zo.dat _:=bH.Ox (x:=zo) KT (aB.jP (A:=none) (n:=0) (c:=0) rfl (by decide));have kD:ji G7 7 (xY.cells.map bB.dat) _:=(ji.nil.snoc rA rfl).snoc rB rfl;have Wd:aB G7 (.sl 7 (xY.cells.map bB.dat)) (.slice (some ⟨b7,0,none⟩) 2 2):=aB.fZ (n:=2) (cap:=2) tV rfl (dQ _) (show 2≤maxLen by decide) rfl kD;obtain ⟨G9,Ba,hr9,H⟩:=H.Nt (sz:=6) (d:=xY.dat) rfl (bH.WY (x:=xY) KT Wd);obtain ⟨zx,Ji,amq,H⟩:=H.Nt (sz:=11) (d:=lZ.dat) rfl (bH.mkItem (x:=lZ) KT (aB.jP (A:=none) (n:=0) (c:=0) rfl (by decide)) hr9);exact H.rt ⟨⟨(some ⟨b11,0,none⟩,1,1),(none,0,0),(none,0,0),(none,0,0),(none,0,0),(none,0,0),(none,0,0),(none,0,0),(none,0,0),0,0⟩,rfl,⟨amq,KT,rfl,rfl,aB.jP (c:=0) rfl (show 0≤maxLen by decide),aos⟩⟩
theorem xZt:dG lZ.dat≤100:=by
 have h1:=oK lZ;have h2:=uN xY;have h3:=uM zm;have h4:=uM zo;have h5:=oK nH
 have h0:pR hd0=5:=by simp [CP,fB]
 have g1:lZ.head=hd0:=rfl;have g2:xY.head=hd0:=rfl;have g3:zm.head=hd0:=rfl;have g4:zo.head=hd0:=rfl;have g5:nH.head=hd0:=rfl;have s1:lZ.text.size=0:=rfl;have s5:nH.text.size=2:=rfl;have f1:bM lZ.flow=0:=rfl;have f5:bM nH.flow=0:=rfl;have f3:bM zm.flow=1+dG nH.dat:=rfl;have f4:bM zo.flow=0:=rfl;have r1:fq lZ.rows=1+dG xY.dat:=rfl;have r5:fq nH.rows=0:=rfl;have c2:iD xY.cells=1+dG zm.dat+(1+dG zo.dat):=rfl;rw [g1,h0] at h1;rw [g2,h0] at h2;rw [g3,h0] at h3;rw [g4,h0] at h4;rw [g5,h0] at h5
 omega
theorem xZ:J9 zq:=by
 have h0:pR hd0=5:=by simp [CP,fB]
 have h1:bM zq.flow=1+dG lZ.dat:=rfl;have h2:=xZt;exact ⟨by omega,by show pR hd0≤_;omega,by decide,(fun x h=>by cases h),by decide,⟨(fun x h=>by cases h),by decide,(fun x h=>by cases h),by decide,(fun x h=>by cases h),by decide,(fun x h=>by cases h)⟩⟩
theorem WS (G:GH) (w0:World) (hG:Hold G w0):Calls prog 15 #[] w0 (bR w0 G fun u G'=>u=.bool true):=by
 have hz:bM [lZ]≤4294967296:=Nat.le_trans xZ.fl (by decide);refine eN [] func15 rfl ntmps15 rfl rfl hG ?_;intro a H;refine kP H (SR fun _ K1=>ak K1 rfl (SR fun _ K2=>?_));clear H K1;intro a H;refine s_call ajf H wn rfl (ajO _ _ H.ro) rfl ?_;clear H;rintro v5 G5 a w ⟨D,rfl,hR⟩ QD H;refine dR mZ H wn rfl ?_;clear H;intro b1 a w hb1 H;refine bO mZ 0 (vs:=[_,_,_,_,_,_,_,_,_,_,_]) _ H wn rfl rfl rfl rfl rfl rfl rfl rfl ?_;clear H;intro w H;dsimp only [List.set,setRow] at H;refine K2 _ _ ?_;clear K2;refine dz (fun _ K3=>?_);refine bD mZ (cs:=[_,_,_,_,_,_,_,_,_,_,_]) H wn rfl rfl (H.hp.eu 0 rfl rfl) rfl ?_;clear H;intro a H;refine s_call aaE H wn rfl (aao _ _ H.ro D [lZ] hR.fl hz) rfl ?_;clear H;rintro v7 G7 a w hfl uJ H;replace hR:=hR.mono uJ;rw [Yl] at hfl;obtain ⟨vA,vn,vc,rfl⟩:=hfl.form;obtain rfl:vn=3:=hfl.len;obtain ⟨b,o,cs,rfl,hcl,zU,hr⟩:=hfl.at_ 1 [li 5] rfl;obtain ⟨_,_,rfl,⟨rfl,-⟩,rfl⟩:∃ v vs,cs=v :: vs∧aB G7 (li 5) v∧vs=[]:=hr;obtain ⟨b',o',cs,he,hcl,hrow2,hr⟩:=hfl.at_ 2 [li 4] rfl;obtain ⟨_,_,rfl,⟨rfl,-⟩,rfl⟩:∃ v vs,cs=v :: vs∧aB G7 (li 4) v∧vs=[]:=hr
 injection he with he
 injection he with e1 e2
 subst e1;subst e2;have c1:aH G7 b (o+1*1)=some (vi 5):=zU 0 _ rfl;have c2:aH G7 b (o+2*1)=some (vi 4):=hrow2 0 _ rfl;refine kH H (ak K3 rfl (SR fun _ K4=>?_));clear H K3;intro a H;refine bD mZ (cs:=[_,_,_,_,_,_,_,_,_,_,_]) H wn rfl rfl (H.hp.eu 0 rfl rfl) rfl ?_;clear H;intro a H;refine s_call P5 H wn rfl (Rz _ _ H.ro D [lZ] 4 hR.fl hz) rfl ?_;clear H;rintro v10 O9 a w rfl QB H;replace hR:=hR.mono QB;replace c1:=aF QB c1;replace c2:=aF QB c2;rw [arM] at H;dsimp only [Option.getD,Option.isSome] at H;refine kH H (Rm rfl ?_);clear H;intro a H;(iterate 2 refine lD H wn rfl rfl rfl ?_;clear H;intro a H);refine dR iW H wn rfl ?_;clear H;intro b3 a w hb3 H;refine bO iW 0 (vs:=[_,_]) _ H wn rfl rfl rfl rfl rfl rfl rfl rfl ?_;clear H;intro w H;dsimp only [List.set,setRow] at H;refine kH H (ak K4 rfl (SR fun _ K5=>?_));clear H K4;intro a H;refine bD mZ (cs:=[_,_,_,_,_,_,_,_,_,_,_]) H wn rfl rfl (H.hp.eu 1 rfl rfl) rfl ?_;clear H;intro a H;refine s_call aiG H wn rfl (agT _ _ H.ro D zq hR xZ) rfl ?_;clear H;rintro v14 Pb a w rfl NT H;replace hR:=hR.mono NT;replace c1:=aF NT c1;replace c2:=aF NT c2;rw [arK] at H;refine kH H (Rc rfl (Rm rfl (Sp 16 rfl ?_ ?_))) <;> clear H
 ·intro h16 a H
  try have p16:=dT h16
  refine kH H (YM h16 rfl (YL om h16 rfl (YC h16 rfl (Pt h16 rfl (Rm rfl (Sp 21 rfl ?_ ?_)))))) <;> clear H
  ·intro h21 a H
   try have oV:=dT h21
   refine kH H (YM h21 rfl ?_);clear H;intro a H;refine E5 om aD 1 H (wg H rfl rfl h21) rfl rfl rfl (by omega) rfl ?_;clear H;intro a H;refine kH H (YR aD h21 rfl c1 (YC h21 rfl (Pt h21 rfl (Rm rfl (Sp 27 rfl ?_ ?_))))) <;> clear H
   ·intro h27 a H
    try have p27:=dT h27
    refine kH H (YM h27 rfl ?_);clear H;intro a H;refine E5 om aD 2 H (wg H rfl rfl h27) rfl rfl rfl (by omega) rfl ?_;clear H;intro a H;refine kH H (YR aD h27 rfl c2 (YC h27 rfl (Pt h27 rfl (Rm rfl (Sp 33 rfl ?_ ?_))))) <;> clear H
    ·intro qh a H
     refine kH H (YM qh rfl (Pt qh rfl (Rm rfl (Sp 36 rfl ?_ ?_)))) <;> clear H
     ·intro KL a H
      refine bD iW (cs:=[_,_]) H (wg H rfl rfl KL) rfl rfl (H.hp.eu 0 rfl rfl) rfl ?_;clear H;intro a H;refine lY JZ [_,_] H (wg H rfl rfl KL) rfl rfl rfl rfl ?_;clear H;intro a H;refine apN ajG H (wg H rfl rfl KL) rfl rfl rfl rfl ?_;clear H;intro a H;refine kH H (Pt KL rfl (Rm rfl (Sp 41 rfl ?_ ?_))) <;> clear H
      ·intro nI a H
       refine bD mZ (cs:=[_,_,_,_,_,_,_,_,_,_,_]) H (wg H rfl rfl nI) rfl rfl (H.hp.eu 1 rfl rfl) rfl ?_;clear H;intro a H;refine s_call ajg H (wg H rfl rfl nI) rfl (akv _ _ H.ro D [lZ] hR.fl hz (by rw [Ym];decide) (by rw [Ym];decide)) rfl ?_;clear H;rintro v43 CV a w rfl oU H;replace hR:=hR.mono oU;rw [Ym] at H;refine kH H (YC nI rfl (Pt nI rfl (Rm rfl (Sp 46 rfl ?_ ?_)))) <;> clear H
       ·intro h46 a H
        refine bD mZ (cs:=[_,_,_,_,_,_,_,_,_,_,_]) H (wg H rfl rfl h46) rfl rfl (H.hp.eu 1 rfl rfl) rfl ?_;clear H;intro a H
        refine s_call ajh H (wg H rfl rfl h46) rfl (ara _ _ H.ro D [lZ] hR.fl hz (fun k _=>by rw [afp];(repeat' split) <;> decide)) rfl ?_;clear H
        rintro v48 YJ a w rfl QC H;rw [show Bu (jS [lZ])=3 by have:=afp 3;rw [kF (by rw [Yl];decide)] at this;exact this] at H;exact kH H (YC h46 rfl (Pt h46 rfl (ak K5 rfl (LR results15 rfl fun H=>H.rt rfl))))
       intro h46 a H
       exact absurd h46 (by decide)
      intro nI a H
      exact absurd nI (by decide)
     intro KL a H
     exact absurd KL (by decide)
    intro qh a H
    exact absurd qh (by decide)
   intro h27 a H
   exact absurd h27 (by decide)
  intro h21 a H
  exact absurd h21 (by decide)
 intro h16 a H
 exact absurd h16 (by decide)
end
section
open Go.RowKit
theorem TN:∀ args w,(callFunc 15 args).run prog w=.ok (.enter 15 args) w:=enters func15 rfl (by kernel_rfl)
theorem aiD:∀ args w,(callFunc 19 args).run prog w=.ok (.enter 19 args) w:=enters func19 rfl (by kernel_rfl)
theorem aiP:∀ args w,(callFunc 21 args).run prog w=.ok (.enter 21 args) w:=enters func21 rfl (by kernel_rfl)
end
section
open Go.RowKit
section
variable {N:Nat} {D:List Deferred} {w0:World} {F:Nat→Prop} {G0 G G1 G2:GH} {L L1 L2:OL} {T Xs:List (Nat × aj)}
variable {r:Option Nat} {P:Program} {Q:Exit→Act→World→Prop} {l:List Oper} {a a':Act} {w w':World}
theorem ZT {id:Nat} (hm:P.follows .mixedOrders=true) (dH:List (List Nat)) (B:List Nat) (hk:Eu l dH=true) (hB:CJ l dH B=true) (m1 m2:Nat) (amf:B.contains m1=false) (QE:B.contains m2=false) (h12:(dH.getD m2 []).contains m1=true) (hne:Nat.beq m1 m2=false) (JN JO:Obj) (pr:Nat→Nat→aj→GH→Prop)
  (hp1:∀ b b' i v G,Nat.beq i m1=false→(dH.getD i []).contains m1=false→pr b i v G→pr b' i v G)
  (H:St N D w0 F G0 G L T a w)
  (hstep:allI (fun i o=>∀ b L' S a w G1,(∀ x,x∈L→x∈L')→B.contains i=false→Nat.beq i m1=false→Nat.beq i m2=false→S i=false→(∀ j∈dH.getD i [],S j=true)→(∀ k o,G k=some o→G1 k=some o)→St N D w0 F G0 G1 L' T a w→(∀ i d,S i=true→fT l i=some d→∃ v,a.tmps[d]?=some v∧pr b i v G1) →
   WL r P l.toArray (fun e a' w'=>e=.normal∧DX N D w0 F G0 G L' T l (pr b) (fM S i) a' w') [o] a w) 0 l)
  (N7:∀ o S a w G1,l[m1]?=some o→S m1=false→(∀ j∈dH.getD m1 [],S j=true)→(∀ k o,G k=some o→G1 k=some o)→St N D w0 F G0 G1 L T a w→(∀ b i d,i≠m1→S i=true→fT l i=some d→∃ v,a.tmps[d]?=some v∧pr b i v G1) →
   WL r P l.toArray (fun e a' w'=>e=.normal∧∃ b,DX N D w0 F G0 G ((b,JN) :: L) T l (pr b) (fM S m1) a' w') [o] a w)
  (N8:∀ o b S a w G1,l[m2]?=some o→S m2=false→(∀ j∈dH.getD m2 [],S j=true)→(∀ k o,G k=some o→G1 k=some o)→St N D w0 F G0 G1 ((b,JN) :: L) T a w→(∀ i d,S i=true→fT l i=some d→∃ v,a.tmps[d]?=some v∧pr b i v G1) →
   WL r P l.toArray (fun e a' w'=>e=.normal∧DX N D w0 F G0 G ((b,JO) :: L) T l (pr b) (fM S m2) a' w') [o] a w)
  (hend:∀ b a w G1,(∀ k o,G k=some o→G1 k=some o)→St N D w0 F G0 G1 ((b,JO) :: L) T a w→(∀ i d,B.contains i=false→fT l i=some d→∃ v,a.tmps[d]?=some v∧pr b i v G1)→WL r P l.toArray (fun e a w=>e=.normal∧Q .normal a w) (uf l B) a w)
  (Jo:Nat.blt m2 l.length=true):WP r P (.region id l.toArray true) Q a w:=by
 have hne':m1≠m2:=fun e=>by subst e;rw [Nat.beq_refl] at hne;cases hne
 refine Tk hm dH B hk hB (fun S a w=>(S m2=true→S m1=true)∧∃ b L',L'=(bif S m2 then (b,JO) :: L else bif S m1 then (b,JN) :: L else L)∧DX N D w0 F G0 G L' T l (pr b) S a w)
  ⟨fun h=>h,0,L,rfl,G,fun _ _ h=>h,H.move H.hp.drew,fun _ _ h=>absurd (show false=true from h) (by decide)⟩ ?_ ?_
 ·rintro i o S a w ho hb bK nJ hdesc ⟨ES,b,L',hL,G1,hG,HS,hv⟩
  have hsub:∀ x,x∈L→x∈L':=fun x hx=>by
   rw [hL]
   cases S m2 with
   | true=>exact lg _ hx
   | false=>cases S m1 with
    | true=>exact lg _ hx
    | false=>exact hx
  have hno:∀ j,j < l.length→S j=true→(dH.getD j []).contains i=false:=fun j hjl hj=>by
   cases hc:(dH.getD j []).contains i with
   | false=>rfl
   | true =>
    have:=hdesc j hjl (by simpa using hc)
    rw [this] at hj;cases hj
  by_cases h1:i=m1
  ·subst h1
   have hs2:S m2=false:=by
    cases hs:S m2 with
    | false=>rfl
    | true=>rw [ES hs] at bK;cases bK
   rw [hs2,bK] at hL
   subst hL
   have h:=N7 o S a w G1 ho bK nJ hG HS fun b' j d hj hSj hd=>by
    obtain ⟨v,hv1,hv2⟩:=hv j d hSj hd
    exact ⟨v,hv1,hp1 b b' j v _ (vV hj) (hno j (zI hd) hSj) hv2⟩
   refine sU (fun e a' w' ⟨he,b',hD⟩=>⟨he,fun _=>au rfl,b',_,?_,hD⟩) h
   rw [show fM S i i=true from au rfl,show fM S i m2=S m2 from ah (fun e=>hne' e.symm),hs2]
   rfl
  ·by_cases h2:i=m2
   ·subst h2
    have hs1:S m1=true:=nJ m1 (by simpa using h12)
    rw [bK,hs1] at hL
    subst hL
    have h:=N8 o b S a w G1 ho bK nJ hG HS hv
    refine sU (fun e a' w' ⟨he,hD⟩=>⟨he,fun _=>by rw [show fM S i m1=S m1 from ah hne'];exact hs1,b,_,?_,hD⟩) h
    rw [show fM S i i=true from au rfl]
    rfl
   ·have h:=MO hstep i o ho
    rw [pz] at h
    have e1:fM S i m1=S m1:=ah (fun e=>h1 e.symm)
    have e2:fM S i m2=S m2:=ah (fun e=>h2 e.symm)
    refine sU (fun e a' w' ⟨he,hD⟩=>⟨he,by rw [e1,e2];exact ES,b,L',?_,hD⟩) (h b L' S a w G1 hsub hb (vV h1) (vV h2) bK nJ hG HS hv)
    rw [e1,e2];exact hL
 ·rintro S a w hall hnB ⟨ES,b,L',hL,G1,hG,HS,hv⟩
  have hs2:S m2=true:=hall m2 (Eq.mp Nat.blt_eq Jo) QE
  rw [hs2] at hL
  subst hL
  exact hend b a w G1 hG HS fun j d hb hd=>hv j d (hall j (zI hd) hb) hd
theorem agq {id:Nat} {κ:Type} (k0:κ) (hm:P.follows .mixedOrders=true) (dH:List (List Nat)) (B:List Nat) (hk:Eu l dH=true) (hB:CJ l dH B=true) (m0 m1 m2:Nat) (QE:B.contains m2=false) (h02:(dH.getD m2 []).contains m0=true) (h12:(dH.getD m2 []).contains m1=true) (hne:Nat.beq m1 m2=false) (hne0:Nat.beq m0 m2=false) (hne1:Nat.beq m0 m1=false) (JN:Obj) (JO:κ→Obj) (pr:Nat→κ→Nat→aj→GH→Prop)
  (hp1:∀ b b' k i v G,Nat.beq i m1=false→(dH.getD i []).contains m1=false→pr b k i v G→pr b' k i v G)
  (hp0:∀ b k k' i v G,Nat.beq i m0=false→(dH.getD i []).contains m0=false→pr b k i v G→pr b k' i v G)
  (H:St N D w0 F G0 G L T a w)
  (hstep:allI (fun i o=>∀ b k L' S a w G1,(∀ x,x∈L→x∈L')→B.contains i=false→Nat.beq i m0=false→Nat.beq i m1=false→Nat.beq i m2=false→S i=false→(∀ j∈dH.getD i [],S j=true)→(∀ k o,G k=some o→G1 k=some o)→St N D w0 F G0 G1 L' T a w→(∀ i d,S i=true→fT l i=some d→∃ v,a.tmps[d]?=some v∧pr b k i v G1) →
   WL r P l.toArray (fun e a' w'=>e=.normal∧DX N D w0 F G0 G L' T l (pr b k) (fM S i) a' w') [o] a w) 0 l)
  (amh:∀ o b L' S a w G1,(∀ x,x∈L→x∈L')→l[m0]?=some o→S m0=false→(∀ j∈dH.getD m0 [],S j=true)→(∀ k o,G k=some o→G1 k=some o)→St N D w0 F G0 G1 L' T a w→(∀ k i d,i≠m0→S i=true→fT l i=some d→∃ v,a.tmps[d]?=some v∧pr b k i v G1) →
   WL r P l.toArray (fun e a' w'=>e=.normal∧∃ k,DX N D w0 F G0 G L' T l (pr b k) (fM S m0) a' w') [o] a w)
  (N7:∀ o k S a w G1,l[m1]?=some o→S m1=false→(∀ j∈dH.getD m1 [],S j=true)→(∀ k o,G k=some o→G1 k=some o)→St N D w0 F G0 G1 L T a w→(∀ b i d,i≠m1→S i=true→fT l i=some d→∃ v,a.tmps[d]?=some v∧pr b k i v G1) →
   WL r P l.toArray (fun e a' w'=>e=.normal∧∃ b,DX N D w0 F G0 G ((b,JN) :: L) T l (pr b k) (fM S m1) a' w') [o] a w)
  (N8:∀ o b k S a w G1,l[m2]?=some o→S m2=false→(∀ j∈dH.getD m2 [],S j=true)→(∀ k o,G k=some o→G1 k=some o)→St N D w0 F G0 G1 ((b,JN) :: L) T a w→(∀ i d,S i=true→fT l i=some d→∃ v,a.tmps[d]?=some v∧pr b k i v G1) →
   WL r P l.toArray (fun e a' w'=>e=.normal∧DX N D w0 F G0 G ((b,JO k) :: L) T l (pr b k) (fM S m2) a' w') [o] a w)
  (hend:∀ b k a w G1,(∀ k o,G k=some o→G1 k=some o)→St N D w0 F G0 G1 ((b,JO k) :: L) T a w→(∀ i d,B.contains i=false→fT l i=some d→∃ v,a.tmps[d]?=some v∧pr b k i v G1)→WL r P l.toArray (fun e a w=>e=.normal∧Q .normal a w) (uf l B) a w)
  (Jo:Nat.blt m2 l.length=true):WP r P (.region id l.toArray true) Q a w:=by
 have hne':m1≠m2:=fun e=>by subst e;rw [Nat.beq_refl] at hne;cases hne
 have amj:m0≠m2:=fun e=>by subst e;rw [Nat.beq_refl] at hne0;cases hne0
 have ata:m0≠m1:=fun e=>by subst e;rw [Nat.beq_refl] at hne1;cases hne1
 refine Tk hm dH B hk hB (fun S a w=>(S m2=true→S m1=true∧S m0=true)∧∃ b k L',L'=(bif S m2 then (b,JO k) :: L else bif S m1 then (b,JN) :: L else L)∧DX N D w0 F G0 G L' T l (pr b k) S a w)
  ⟨fun h=>⟨h,h⟩,0,k0,L,rfl,G,fun _ _ h=>h,H.move H.hp.drew,fun _ _ h=>absurd (show false=true from h) (by decide)⟩ ?_ ?_
 ·rintro i o S a w ho hb bK nJ hdesc ⟨ES,b,k,L',hL,G1,hG,HS,hv⟩
  have hsub:∀ x,x∈L→x∈L':=fun x hx=>by
   rw [hL]
   cases S m2 with
   | true=>exact lg _ hx
   | false=>cases S m1 with
    | true=>exact lg _ hx
    | false=>exact hx
  have hno:∀ j,j < l.length→S j=true→(dH.getD j []).contains i=false:=fun j hjl hj=>by
   cases hc:(dH.getD j []).contains i with
   | false=>rfl
   | true =>
    have:=hdesc j hjl (by simpa using hc)
    rw [this] at hj;cases hj
  have hnot:i=m1∨i=m0→S m2=false:=fun h=>by
   cases hs:S m2 with
   | false=>rfl
   | true =>
    obtain ⟨g1,g0⟩:=ES hs
    rcases h with rfl|rfl
    ·rw [g1] at bK;cases bK
    ·rw [g0] at bK;cases bK
  by_cases h1:i=m1
  ·have hs2:=hnot (.inl h1);clear hnot
   subst h1
   rw [hs2,bK] at hL
   subst hL
   have h:=N7 o k S a w G1 ho bK nJ hG HS fun b' j d hj hSj hd=>by
    obtain ⟨v,hv1,hv2⟩:=hv j d hSj hd
    exact ⟨v,hv1,hp1 b b' k j v _ (vV hj) (hno j (zI hd) hSj) hv2⟩
   refine sU (fun e a' w' ⟨he,b',hD⟩=>⟨he,fun hx=>?_,b',k,_,?_,hD⟩) h
   ·rw [show fM S i m2=S m2 from ah (fun e=>hne' e.symm),hs2] at hx;cases hx
   ·rw [show fM S i i=true from au rfl,show fM S i m2=S m2 from ah (fun e=>hne' e.symm),hs2]
    rfl
  ·by_cases h2:i=m2
   ·subst h2
    have hs1:S m1=true:=nJ m1 (by simpa using h12)
    have hs0:S m0=true:=nJ m0 (by simpa using h02)
    rw [bK,hs1] at hL
    subst hL
    have h:=N8 o b k S a w G1 ho bK nJ hG HS hv
    refine sU (fun e a' w' ⟨he,hD⟩=>⟨he,fun _=>?_,b,k,_,?_,hD⟩) h
    ·rw [show fM S i m1=S m1 from ah hne',show fM S i m0=S m0 from ah amj];exact ⟨hs1,hs0⟩
    ·rw [show fM S i i=true from au rfl]
     rfl
   ·have e1:fM S i m1=S m1:=ah (fun e=>h1 e.symm)
    have e2:fM S i m2=S m2:=ah (fun e=>h2 e.symm)
    by_cases h0:i=m0
    ·have hs2:=hnot (.inr h0);clear hnot
     subst h0
     have h:=amh o b L' S a w G1 hsub ho bK nJ hG HS fun k' j d hj hSj hd=>by
      obtain ⟨v,hv1,hv2⟩:=hv j d hSj hd
      exact ⟨v,hv1,hp0 b k k' j v _ (vV hj) (hno j (zI hd) hSj) hv2⟩
     refine sU (fun e a' w' ⟨he,k',hD⟩=>⟨he,fun hx=>?_,b,k',L',?_,hD⟩) h
     ·rw [e2,hs2] at hx;cases hx
     ·rw [e1,e2,hL,hs2];rfl
    ·have h:=MO hstep i o ho
     rw [pz] at h
     have e0:fM S i m0=S m0:=ah (fun e=>h0 e.symm)
     refine sU (fun e a' w' ⟨he,hD⟩=>⟨he,by rw [e1,e2,e0];exact ES,b,k,L',?_,hD⟩) (h b k L' S a w G1 hsub hb (vV h0) (vV h1) (vV h2) bK nJ hG HS hv)
     rw [e1,e2];exact hL
 ·rintro S a w hall hnB ⟨ES,b,k,L',hL,G1,hG,HS,hv⟩
  have hs2:S m2=true:=hall m2 (Eq.mp Nat.blt_eq Jo) QE
  rw [hs2] at hL
  subst hL
  exact hend b k a w G1 hG HS fun j d hb hd=>hv j d (hall j (zI hd) hb) hd
end
end
end Go.Proofs.YtlnhhlighgaapaaGreat
