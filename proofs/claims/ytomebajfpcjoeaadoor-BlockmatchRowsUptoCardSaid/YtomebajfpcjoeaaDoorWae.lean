/-
  What the claim stands on, part 5: Bmm Dv Mmx Wgt Mb Can Brw Blr Brd Brr.
-/
import Derived.Test.YtomebajfpcjoeaaDoorWad
import Derived.ProofKit
import Derived.Deep.Slices
import Derived.Laws.StructEq
namespace Go.Proofs.YtomebajfpcjoeaaDoor
set_option linter.all false
open Go.Proofs.Tryd
open Go.RowKit
def qJ {α:Type} (κ:α->Int) (φ:α->ByteArray) (x y:α):Int:=if κ y=κ x then kT (φ x) (φ y) else 0
def jo {α:Type} (κ:α->Int) (φ:α->ByteArray) (lb:List α) (x:α):List Int:=lb.map (qJ κ φ x)
def iQ {α:Type} (κ:α->Int) (φ:α->ByteArray) (la lb:List α):List (List Int):=la.map (jo κ φ lb)
theorem Wn {α:Type} (κ:α->Int) (φ:α->ByteArray) (x y:α):0<=qJ κ φ x y∧qJ κ φ x y<=1000:=by
 unfold qJ
 split
 ·exact abq _ _
 decide
theorem FL {α:Type} (κ:α->Int) (φ:α->ByteArray) {la lb:List α} (ha:la.length<=1024) (hb:lb.length<=1024):mZ (iQ κ φ la lb)=0:=by
 rw [mZ,aJ (by simp [iQ];omega)];refine Ih fun j hj=>?_
 have hj2:j < la.length:=by simpa [iQ] using hj
 have e:(iQ κ φ la lb)[j]=jo κ φ lb la[j]:=by simp [iQ]
 have hh:((iQ κ φ la lb).headD []).length=lb.length:=by
  cases la with
  | nil=>simp at hj2
  | cons x la=>simp [iQ,jo]
 rw [e,hh,lU,aJ (by simp [jo];omega),aJ (by simp [jo]),aM];rw [gq];intro z hz;obtain ⟨y,-,rfl⟩:=List.mem_map.1 hz;have:=Wn κ φ la[j] y
 simp [rQ,this]
def vU (g:GH) (M:List (List Int)) (n m:Nat) (cs:List av) (j:Nat):Prop:=cs.length=n∧∀ r,r < j->∃ R b,M[r]?=some R∧R.length=m∧cs[r]?=some (.slice (some ⟨b,0,none⟩) m m)∧aC g (.sl 1 (R.map eZ)) (.slice (some ⟨b,0,none⟩) m m)
theorem vU.mono {g g':GH} {M:List (List Int)} {n m:Nat} {cs:List av} {j:Nat} (h:vU g M n m cs j) (hm:∀ b o,g b=some o->g' b=some o):vU g' M n m cs j :=
 ⟨h.1,fun r h1=>by obtain ⟨R,b,e0,e1,e,hr⟩:=h.2 r h1;exact ⟨R,b,e0,e1,e,hr.mono hm⟩⟩
theorem vU.cat {g:GH} {M:List (List Int)} {m:Nat} {cs:List av} (h:vU g M M.length m cs M.length):dK g 1 (M.map kS) cs:=by
 have hc:=JZ (G:=g) M [] [] cs dK.nil h.1 (fun i r u h1 h2=>by
  have hi:i < M.length:=(iI.1 h1).1;obtain ⟨R,b,e0,-,e,hr⟩:=h.2 i hi;rw [e0] at h1;rw [e] at h2
  injection h1 with h1;injection h2 with h2
  subst h1;subst h2;exact hr)
 simpa using hc
theorem Ic {fl:List Int} {M:List Int} {m k:Nat} (hl:fl.length=m) (hM:M.length=m) (hk:k < m) (h:∀ q,q < k->fl[q]?=M[q]?) (h0:∀ q,k<=q->q < m->fl[q]?=some 0) {z:Int} (hz:M[k]?=some z) :
  (fl.set k z).length=m∧(∀ q,q < k+1->(fl.set k z)[q]?=M[q]?)∧(∀ q,k+1<=q->q < m->(fl.set k z)[q]?=some 0):=by
 refine ⟨by simp [hl],fun q hq=>?_,fun q h1 h2=>?_⟩
 ·by_cases e:q=k
  ·subst e;rw [List.getElem?_set_self V,hz]
  rw [List.getElem?_set_ne V];exact h q V
 rw [List.getElem?_set_ne V];exact h0 q V h2
theorem Ie {fl:List Int} {M:List Int} {m k:Nat} (hk:k < m) (h:∀ q,q < k->fl[q]?=M[q]?) (h0:∀ q,k<=q->q < m->fl[q]?=some 0) (hz:M[k]?=some 0):(∀ q,q < k+1->fl[q]?=M[q]?)∧(∀ q,k+1<=q->q < m->fl[q]?=some 0):=by
 refine ⟨fun q hq=>?_,fun q h1 h2=>h0 q V h2⟩
 by_cases e:q=k
 ·subst e;rw [hz];exact h0 q (bD _) hk
 exact h q V
theorem Ib {fl M:List Int} {m:Nat} (hl:fl.length=m) (hM:M.length=m) (h:∀ q,q < m->fl[q]?=M[q]?):fl=M:=by
 apply List.ext_getElem?
 intro q
 by_cases hq:q < m
 ·exact h q hq
 rw [List.getElem?_eq_none V,List.getElem?_eq_none V]
set_option maxHeartbeats 2000000 in
theorem Zy {Gt:GH} (G:GH) (w0:World) (hG:Hold G w0) (h0:∀ b o,Gt b=some o->G b=some o) (κ:bV->Int) (φ:bV->ByteArray) (la lb:List bV) (va vb fv:av) (hva:aC G (.sl 6 (la.map bV.dat)) va) (hvb:aC G (.sl 6 (lb.map bV.dat)) vb)
  (hfa:∀ x∈la,Ab fv w0 G x.dat (κ x) (φ x)) (lS:∀ x∈lb,Ab fv w0 G x.dat (κ x) (φ x)) (hoa:∀ x∈la,jr Gt (φ x)) (CW:∀ x∈lb,jr Gt (φ x)) (hla:la.length<=1024) (hlb:lb.length<=1024) :
  Calls prog 19 #[va,vb,fv] w0 (cO w0 G fun u G'=>∃ x,u=.tuple #[x,vi 0]∧aC G' (.sl 3 ((jU (iQ κ φ la lb)).map gV.dat)) x):=by
 obtain ⟨A,c,rfl,hc1,hc2,hga⟩:=hva.slice;obtain ⟨B,d,rfl,hd1,hd2,hgb⟩:=hvb.slice;have hml:maxLen=9223372036854775807:=rfl
 have IJ:(iQ κ φ la lb).length=la.length:=by simp [iQ]
 (iterate 2 rw [bN] at *);refine eN [(0,_),(1,_),(2,_)] func19 O ntmps19 O O hG ?_;intro a H;refine kP H (SR fun _ K1=>Ra O (aB K1 O (SQ fun _ K2=>SR fun _ K3=>Rm O (Rl jR O (Rc O (Rm O (Sp 20 O ?_ ?_))))))) <;> clear H K1
 ·intro h20 a H
  try have pq:=dT h20
  exact absurd pq V
 intro h20 a H
 try have pq:=dF h20
 refine kH H (YM h20 O (YL jR h20 O (YC h20 O (Pf h20 O (Kz K3 (Cd O ?_ ?_)))))) <;> clear H K3
 ·intro aN a H
  try have fK:=dT aN
  exact absurd fK V
 intro aN a H
 try have fK:=dF aN
 refine kP H (Kc K2 (SR fun _ K4=>Rm O (Rl jR O ?_)));clear H K2;intro a H;refine oq la.length fI aW H wn O O O V V O ?_;clear H;intro yR a w XF H;refine kH H (aB K4 O (SQ fun _ K5=>SR fun _ K6=>Rm O (Rl jR O (Rm O (Kz K6 (SB ?_))))));clear H K4 K6;intro a H;skip;refine eG (ι:=Nat × List av × GH) (Tc:=[(1,_),(2,_),(8,_),(28,_),(29,_)]) (Lc:=[]) (fun gh=>[(30,vi gh.1)]) (fun gh=>[GQ yR gh.2.1]) (fun gh=>gh.2.2) (fun gh=>gh.1<=la.length∧vU gh.2.2 (iQ κ φ la lb) la.length lb.length gh.2.1 gh.1∧(∀ b o,G b=some o->gh.2.2 b=some o)) (fun gh=>la.length - gh.1) ((0,List.replicate la.length (.slice none 0 0),G)) (by exact H.sub ⟨O,O,O,O,O,O,aL⟩) ?_ ?_
 ·exact ⟨dU _,⟨by simp,fun r h1=>absurd h1 (Nat.not_lt_zero _)⟩,fun _ _ h=>h⟩
 clear H;rintro ⟨i,cs,g⟩ a w hI H;dsimp only at hI H;obtain ⟨hi,hra,hgm⟩:=hI;dsimp only [lca,dB] at H;refine kP H (SR fun _ K7=>Rc O (Kz K7 (SQ fun _ K8=>Cd O ?_ ?_))) <;> clear H K7
 ·intro h31 a H
  try have p31:=dT h31
  have hi1:i < la.length:=by omega
  obtain ⟨b,o,cells,rfl,hcl,hrow,hrep⟩:=hga i la[i].dat (by simp [hi1]);obtain ⟨pA,pn,pc,dA,dn,dc,yA,yn,yc,fA,fn,fc,rfl,hh,hf⟩:=hrep.row;replace hrow:=fun j u hj=>aK hgm (hrow j u hj);refine kP H (Kc K8 (SQ fun _ K9=>SB (SR fun _ aP=>Rm O (Ri jR jI O O ?_))));clear H K8;intro a H;refine dX jI (cs:=[_,_,_,_,_,_]) H wn O O (fun j v hj=>H.hp.aR (hrow j v hj)) O ?_;clear H;intro a H;refine kE jI H wn O ?_;clear H;intro b10 a w Ou H;refine kH H (Ra O ?_);clear H;intro a H;refine eO jI 0 (vs:=[_,_,_,_,_,_]) H wn O ?_;clear H;intro w H;refine aP _ _ ?_;clear aP;refine kP H (SR fun _ bH=>Rm O (Rm O (Rm O (Rl jR O ?_))));clear H;intro a H;refine oq lb.length bE aF H wn O O O V V O ?_;clear H;intro mH a w ES H;refine aT fI aW i H wn O O O hi1 O ?_;clear H;intro a H;refine pz aW 2 (c:=cs) (vs:=[_]) (cs.set i (.slice (some ⟨mH,0,none⟩) lb.length lb.length)) H wn O O O O O O (Eq.mpr Nat.ble_eq (by have:=hra.1;simp only [List.length_singleton];omega)) (by rw [fC,Nat.mul_one];exact FQ) ?_;clear H;intro w H;dsimp only [List.set] at H;obtain ⟨cs2,hcs2⟩:∃ x,x=cs.set i (.slice (some ⟨mH,0,none⟩) lb.length lb.length):=⟨_,O⟩;rw [<- hcs2] at H
  have vF:cs2.length=la.length:=by rw [hcs2,List.length_set];exact hra.1
  have hci:cs2[i]?=some (.slice (some ⟨mH,0,none⟩) lb.length lb.length):=by rw [hcs2,List.getElem?_set_self (by have:=hra.1;omega)]
  have hcn:∀ r,r < i->cs2[r]?=cs[r]?:=fun r hr=>by rw [hcs2,List.getElem?_set_ne V]
  rw [show List.replicate lb.length (Value.int .i64 0)=(List.replicate lb.length (0:Int)).map vi from List.map_replicate.symm] at H;refine bH _ _ ?_;clear bH;refine kP H (SR fun _ bL=>Rm O ?_);clear H;intro a H;refine dX jI (cs:=[_,_,_,_,_,_]) H wn O O (H.hp.dG 1 O O) O ?_;clear H;intro a H;refine yC H wn O O (hfa _ (dV hi1) _ _ _ hgm H.ro (hrep.mono hgm)) O ?_;clear H;rintro v44 SL a w rfl CU H;refine kH H (Rm O ?_);clear H;intro a H;(iterate 2 refine fZ H wn O O O ?_;clear H;intro a H);refine kH H (Ra O (aB bL O (SR fun _ bI=>Rm O (Rl jR O (Rm O (Kz bI (SB ?_)))))));clear H bL bI;intro a H;skip;refine eG (ι:=Nat × List Int × GH) (Tc:=[(1,_),(2,_),(8,_),(9,_),(11,_),(12,_),(28,_),(29,_),(30,_),(47,_),(48,_)]) (Lc:=[(_,_),(_,_)]) (fun gh=>[(49,vi gh.1)]) (fun gh=>[bF mH gh.2.1]) (fun gh=>gh.2.2) (fun gh=>gh.1<=lb.length∧gh.2.1.length=lb.length∧(∀ q,q < gh.1->gh.2.1[q]?=(jo κ φ lb la[i])[q]?)∧(∀ q,gh.1<=q->q < lb.length->gh.2.1[q]?=some 0)∧(∀ b o,G b=some o->gh.2.2 b=some o)∧(∀ b o,g b=some o->gh.2.2 b=some o)) (fun gh=>lb.length - gh.1) ((0,List.replicate lb.length 0,_)) (by exact (H.dR (Pl:=[_,_,_]) (dx:=[_,_,_]) [1,2,0] Y O).sub ⟨O,O,O,O,O,O,O,O,O,O,O,O,aL⟩) ?_ ?_
  ·exact ⟨dU _,by simp,fun q h=>absurd h (Nat.not_lt_zero _),fun q _ hq=>by simp [List.getElem?_replicate];omega,fun b o h=>CU b o (hgm b o h),CU⟩
  clear H;rintro ⟨k,fl,g2⟩ a w hI H;dsimp only at hI H;obtain ⟨hk,hfl,nZ,hf0,eH,hgg⟩:=hI;dsimp only [lca,dB] at H;refine kP H (SR fun _ cB=>Rc O (Kz cB (SQ fun _ dw=>Cd O ?_ ?_))) <;> clear H cB
  ·intro h50 a H
   try have p50:=dT h50
   have hk1:k < lb.length:=by omega
   obtain ⟨b2,o2,Ur,rfl,XP,hrow2,qj⟩:=hgb k lb[k].dat (by simp [hk1]);obtain ⟨qA,qn,qc,uA,un,uc,zA,zn,zc,xA,xn,xc,rfl,sO,hf2⟩:=qj.row;replace hrow2:=fun j u hj=>aK eH (hrow2 j u hj)
   have CJ:(jo κ φ lb la[i]).length=lb.length:=by simp [jo]
   have xX:(jo κ φ lb la[i])[k]?=some (qJ κ φ la[i] lb[k]):=by simp [jo,hk1]
   refine kP H (Kc dw (SQ fun _ dN=>SB (SR fun _ eP=>Rm O (Ri jR jI O O ?_))));clear H dw;intro a H;refine dX jI (cs:=[_,_,_,_,_,_]) H wn O O (fun j v hj=>H.hp.aR (hrow2 j v hj)) O ?_;clear H;intro a H;refine kE jI H wn O ?_;clear H;intro b14 a w XD H;refine kH H (Ra O ?_);clear H;intro a H;refine eO jI 0 (vs:=[_,_,_,_,_,_]) H wn O ?_;clear H;intro w H;refine eP _ _ ?_;clear eP;refine kP H (SR fun _ fM=>Rm O ?_);clear H;intro a H;refine dX jI (cs:=[_,_,_,_,_,_]) H wn O O (H.hp.dG 0 O O) O ?_;clear H;intro a H;refine yC H wn O O (lS _ (dV hk1) _ _ _ eH H.ro (qj.mono eH)) O ?_;clear H;rintro v57 SY a w rfl uz H;refine kH H (Rm O ?_);clear H;intro a H;(iterate 2 refine fZ H wn O O O ?_;clear H;intro a H);refine kH H (Ra O (aB fM O (SR fun _ fO=>Rm O (Rm O (Rc O (Kz fO (Cd O ?_ ?_))))))) <;> clear H fM fO
   ·intro yZ a H
    try have p62:=dT yZ
    have hen:qJ κ φ la[i] lb[k]=kT (φ la[i]) (φ lb[k]):=aM p62;have hfn:=Ic hfl CJ hk1 nZ hf0 (hen ▸ xX);refine MJ (gG) [[],[],[0,1],[0,1,2],[],[],[],[5,6],[5,6,7],ra 5 4,ra 5 4,ra 0 10,(ra 0 10++[11])] [] Z Z 12 Y (fun (jg:Nat) (v:av) (G:GH)=>match jg with|0=>v=.slice (some ⟨yR,0,none⟩) la.length la.length|1=>v=vi i|2=>v=(aH yR (0+i*1))|3=>v=.slice (some ⟨mH,0,none⟩) lb.length lb.length|4=>v=vi k|5=>v=.string (φ la[i])|6=>v=.string (φ lb[k])|7=>v=.tuple #[vi (kT (φ la[i]) (φ lb[k])),vi 0]|8=>v=.tuple #[vi (kT (φ la[i]) (φ lb[k])),vi 0]|9=>v=vi (kT (φ la[i]) (φ lb[k]))|10=>v=vi 0|11=>v=(aH mH (0+k*1))|_=>True) 3 (bF mH (fl.set k (kT (φ la[i]) (φ lb[k])))) H ?_ ?_ ?_ ?_ Z
    ·clear H;refine aI ?_ ?_ ?_ ?_ (aI ?_ ?_ ?_ ?_ (aI ?_ ?_ ?_ ?_ (iO ?_ fQ)))
     ·intro au a w G1 _ _ ah hc hG HT hv;have H:=HT;clear ah;have Hb:=H.full;have H:=Hb;clear hc;refine kH H (Rm O ?_);clear H;intro a H;refine aj ⟨O,?_⟩;exact ay HT Hb hG hv (fun _ _ _ _ _ h=>h) H O
     ·intro au a w G1 _ _ ah hc hG HT hv;have H:=HT;clear ah;have Hb:=H.full;have H:=Hb;clear hc;refine kH H (Rm O ?_);clear H;intro a H;refine aj ⟨O,?_⟩;exact ay HT Hb hG hv (fun _ _ _ _ _ h=>h) H O
     ·intro au a w G1 _ _ ah hc hG HT hv;have H:=HT;clear ah;have H:=H.ak (hv 0 64 (hc 0 Y) O) O;have H:=H.ak (hv 1 65 (hc 1 Y) O) O;have Hb:=H.full;have H:=Hb;clear hc;refine aT fI aW i H wn O O O hi1 O ?_;clear H;intro a H;refine aj ⟨O,?_⟩;exact ay HT Hb hG hv (fun _ _ _ _ _ h=>h) H O
     ·intro au a w G1 _ _ ah hc hG HT hv;have H:=HT;clear ah;have H:=H.ak (hv 2 66 (hc 2 Y) O) O;have Hb:=H.full;have H:=Hb;clear hc;refine iM aW H wn O (H.hp.jc 2 O (by rw [fC,Nat.mul_one];exact (List.getElem?_toArray ..).trans hci)) O ?_;clear H;intro a H;refine aj ⟨O,?_⟩;exact ay HT Hb hG hv (fun _ _ _ _ _ h=>h) H O
     ·intro au a w G1 _ _ ah hc hG HT hv;have H:=HT;clear ah;have Hb:=H.full;have H:=Hb;clear hc;refine kH H (Rm O ?_);clear H;intro a H;refine aj ⟨O,?_⟩;exact ay HT Hb hG hv (fun _ _ _ _ _ h=>h) H O
     ·intro au a w G1 _ _ ah hc hG HT hv;have H:=HT;clear ah;have Hb:=H.full;have H:=Hb;clear hc;refine kH H (Rm O ?_);clear H;intro a H;refine aj ⟨O,?_⟩;exact ay HT Hb hG hv (fun _ _ _ _ _ h=>h) H O
     ·intro au a w G1 _ _ ah hc hG HT hv;have H:=HT;clear ah;have Hb:=H.full;have H:=Hb;clear hc;refine kH H (Rm O ?_);clear H;intro a H;refine aj ⟨O,?_⟩;exact ay HT Hb hG hv (fun _ _ _ _ _ h=>h) H O
     ·intro au a w G1 _ _ ah hc hG HT hv;have H:=HT;clear ah;have H:=H.ak (hv 5 69 (hc 5 Y) O) O;have H:=H.ak (hv 6 70 (hc 6 Y) O) O;have Hb:=H.full;have H:=Hb;clear hc;refine s_call Hr H wn O (GU _ _ H.ro (fun b o h=>hG _ _ (uz _ _ (eH _ _ (h0 b o h)))) _ _ (hoa _ (dV hi1)) (CW _ (dV hk1))) O ?_;clear H;rintro v71 Ta a w rfl II H;refine aj ⟨O,?_⟩;exact jw Z (fun _ _ _ _ _ h=>h) O O HT Hb hG hv II (rfl) H
     ·intro au a w G1 _ _ ah hc hG HT hv;have H:=HT;clear ah;have H:=H.ak (hv 7 71 (hc 7 Y) O) O;have Hb:=H.full;have H:=Hb;clear hc;refine kH H (Rm O ?_);clear H;intro a H;refine aj ⟨O,?_⟩;exact ay HT Hb hG hv (fun _ _ _ _ _ h=>h) H O
     ·intro au a w G1 _ _ ah hc hG HT hv;have H:=HT;clear ah;have H:=H.ak (hv 8 63 (hc 8 Y) O) O;have Hb:=H.full;have H:=Hb;clear hc;refine fZ H wn O O O ?_;clear H;intro a H;refine aj ⟨O,?_⟩;exact ay HT Hb hG hv (fun _ _ _ _ _ h=>h) H O
     ·intro au a w G1 _ _ ah hc hG HT hv;have H:=HT;clear ah;have H:=H.ak (hv 8 63 (hc 8 Y) O) O;have Hb:=H.full;have H:=Hb;clear hc;refine fZ H wn O O O ?_;clear H;intro a H;refine aj ⟨O,?_⟩;exact ay HT Hb hG hv (fun _ _ _ _ _ h=>h) H O
     ·intro au a w G1 _ _ ah hc hG HT hv;have H:=HT;clear ah;have H:=H.ak (hv 3 67 (hc 3 Y) O) O;have H:=H.ak (hv 4 68 (hc 4 Y) O) O;have Hb:=H.full;have H:=Hb;clear hc;refine aT bE aF k H wn O O O hk1 O ?_;clear H;intro a H;refine aj ⟨O,?_⟩;exact ay HT Hb hG hv (fun _ _ _ _ _ h=>h) H O
     intro _ _ _ _ _ hB;exact absurd hB Y
    ·clear H;intro o_ au a w G1 yj _ hc hG HT hv;obtain rfl:_=o_:=Option.some.inj yj;clear yj;have H:=HT;have H:=H.ak (hv 11 74 (hc 11 Y) O) O;have H:=H.ak (hv 9 72 (hc 9 Y) O) O;have Hb:=H.full;have H:=Hb;clear hc;refine pz aF 3 (c:=fl.map vi) (vs:=[_]) ((fl.set k (kT (φ la[i]) (φ lb[k]))).map vi) H wn O O O O O O (Eq.mpr Nat.ble_eq (by rw [bN,hfl];simp only [List.length_singleton];omega)) (by rw [fC,Nat.mul_one,List.map_set];rfl) ?_;clear H;intro w H;dsimp only [List.set] at H;refine aj ⟨O,?_⟩;exact Nt O HT hG hv H
    ·clear H;refine aI (gB O) (gB O) (gB O) (gB O) (aI (gB O) (gB O) (gB O) (gB O) (aI (gB O) (gB O) ?_ (gB O) (iO ?_ fQ)))
     ·intro au a w G1 _ _ ah hc hG HT hv;have H:=HT;dsimp only [List.set,List.append,lca,dB] at H;clear ah;have H:=H.ak (hv 8 63 (hc 8 Y) O) O;have Hb:=H.full;have H:=Hb;clear hc;refine fZ H wn O O O ?_;clear H;intro a H;refine aj ⟨O,?_⟩;exact ay HT Hb hG hv (fun _ _ _ _ _ h=>h) H O
     intro _ _ _ _ _ hB;exact absurd hB Y
    clear H;intro a w G CG H hv;dsimp only [List.set,List.append,lca,dB] at H;clear hv;refine aj ⟨O,?_⟩;refine dN _ _ ?_;clear dN;refine kP H (SC (Rd O (Rm O ?_)));clear H;intro a H;refine aj ?_;refine bg ((k+1,fl.set k (kT (φ la[i]) (φ lb[k])),G)) (by exact (H.dR (Pl:=[_,_,_,_]) (dx:=[_,_,_]) [1,2,3] Y O).sub ⟨O,O,O,O,O,O,O,O,O,O,O,O,aL⟩) ?_
    (try dsimp only);exact ⟨V,hfn.1,hfn.2.1,hfn.2.2,fun b o h=>CG _ _ (uz _ _ (eH b o h)),fun b o h=>CG _ _ (uz _ _ (hgg b o h))⟩
   intro yZ a H
   try have p62:=dF yZ
   have hen:qJ κ φ la[i] lb[k]=0:=aJ p62;have hfn:=Ie hk1 nZ hf0 (hen ▸ xX);refine kP H (Kc dN (SC (Rd O (Rm O ?_))));clear H dN;intro a H;refine aj ?_;refine bg ((k+1,fl,_)) (by exact (H.dR (Pl:=[_,_,_,_]) (dx:=[_,_,_]) [1,2,3] Y O).sub ⟨O,O,O,O,O,O,O,O,O,O,O,O,aL⟩) ?_
   (try dsimp only);exact ⟨V,hfl,hfn.1,hfn.2,fun b o h=>uz _ _ (eH b o h),fun b o h=>uz _ _ (hgg b o h)⟩
  intro h50 a H
  try have p50:=dF h50
  refine dD ?_;refine K9 _ _ ?_;clear K9;have hall:fl=jo κ φ lb la[i]:=Ib hfl (by simp [jo]) fun q hq=>nZ q V;have H:=H.dR (Pl:=[_,_,_]) (dx:=[_,_,_]) [2,0,1] Y O;obtain ⟨G3,qM,hg3,H⟩:=H.jd
  have qh:vU G3 (iQ κ φ la lb) la.length lb.length cs2 (i+1):=⟨vF,fun r h1=>by
   by_cases e:r=i
   ·subst e;refine ⟨jo κ φ lb la[r],mH,by simp [iQ,hi1],by simp [jo],hci,?_⟩;rw [<- hall];exact aC.mQ (xs:=fl.map vi) hg3 (by rw [bN,hfl]) (bD _) V (iU (by simp [hfl])) (uH _ _)
   obtain ⟨R,br,e0,e1,e2,e3⟩:=hra.2 r V
   exact ⟨R,br,e0,e1,by rw [hcn r V];exact e2,(e3.mono hgg).mono qM⟩⟩
  refine kP H (SC (Rd O (Rm O ?_)));clear H;intro a H;refine aj ?_;refine bg ((i+1,cs2,G3)) (by exact (H.dR (Pl:=[_,_]) (dx:=[_]) [1] Y O).sub ⟨O,O,O,O,O,O,aL⟩) ?_
  (try dsimp only);exact ⟨V,qh,fun b o h=>qM b o (eH b o h)⟩
 intro h31 a H
 try have p31:=dF h31
 refine dD ?_;refine K5 _ _ ?_;clear K5;refine kP H (SR fun _ ig=>Rm O ?_);clear H;intro a H
 have hie:i=la.length:=by omega
 rw [hie,<- IJ] at hra;obtain ⟨Gr,hmr,hgr,H⟩:=H.jd;refine s_call Ht H wn O (GR _ _ H.ro (iQ κ φ la lb) _ (aC.mQ (xs:=cs) hgr (by simp [iQ]) (bD _) V (iU (by have:=hra.1;rw [List.toList_toArray];omega)) (hra.mono hmr).cat)) rfl ?_;clear H;rintro v78 Td a w ⟨x78,rfl,Jz⟩ Yl H;rw [FL κ φ hla hlb] at H;(iterate 2 refine fZ H wn O O O ?_;clear H;intro a H);refine kH H (Ra O (aB ig O ?_));clear H ig;intro a H;refine aV ?_;refine (aY H results19 (.cons (aD H O) (.cons (aD H O) .nil)) ?_).1;exact H.rt ⟨_,O,Jz⟩
set_option maxHeartbeats 2000000 in
theorem Zx {Gt:GH} (G:GH) (w0:World) (hG:Hold G w0) (h0:∀ b o,Gt b=some o->G b=some o) (κ:dh->Int) (φ:dh->ByteArray) (la lb:List dh) (va vb fv:av) (hva:aC G (.sl 7 (la.map dh.dat)) va) (hvb:aC G (.sl 7 (lb.map dh.dat)) vb)
  (hfa:∀ x∈la,Ab fv w0 G x.dat (κ x) (φ x)) (lS:∀ x∈lb,Ab fv w0 G x.dat (κ x) (φ x)) (hoa:∀ x∈la,jr Gt (φ x)) (CW:∀ x∈lb,jr Gt (φ x)) (hla:la.length<=1024) (hlb:lb.length<=1024) :
  Calls prog 28 #[va,vb,fv] w0 (cO w0 G fun u G'=>∃ x,u=.tuple #[x,vi 0]∧aC G' (.sl 3 ((jU (iQ κ φ la lb)).map gV.dat)) x):=by
 obtain ⟨A,c,rfl,hc1,hc2,hga⟩:=hva.slice;obtain ⟨B,d,rfl,hd1,hd2,hgb⟩:=hvb.slice;have hml:maxLen=9223372036854775807:=rfl
 have IJ:(iQ κ φ la lb).length=la.length:=by simp [iQ]
 (iterate 2 rw [bN] at *);refine eN [(0,_),(1,_),(2,_)] func28 O ntmps28 O O hG ?_;intro a H;refine kP H (SR fun _ K1=>Ra O (aB K1 O (SQ fun _ K2=>SR fun _ K3=>Rm O (Rl kX O (Rc O (Rm O (Sp 20 O ?_ ?_))))))) <;> clear H K1
 ·intro h20 a H
  try have pq:=dT h20
  exact absurd pq V
 intro h20 a H
 try have pq:=dF h20
 refine kH H (YM h20 O (YL kX h20 O (YC h20 O (Pf h20 O (Kz K3 (Cd O ?_ ?_)))))) <;> clear H K3
 ·intro aN a H
  try have fK:=dT aN
  exact absurd fK V
 intro aN a H
 try have fK:=dF aN
 refine kP H (Kc K2 (SR fun _ K4=>Rm O (Rl kX O ?_)));clear H K2;intro a H;refine oq la.length fI aW H wn O O O V V O ?_;clear H;intro yR a w XF H;refine kH H (aB K4 O (SQ fun _ K5=>SR fun _ K6=>Rm O (Rl kX O (Rm O (Kz K6 (SB ?_))))));clear H K4 K6;intro a H;skip;refine eG (ι:=Nat × List av × GH) (Tc:=[(1,_),(2,_),(8,_),(28,_),(29,_)]) (Lc:=[]) (fun gh=>[(30,vi gh.1)]) (fun gh=>[GQ yR gh.2.1]) (fun gh=>gh.2.2) (fun gh=>gh.1<=la.length∧vU gh.2.2 (iQ κ φ la lb) la.length lb.length gh.2.1 gh.1∧(∀ b o,G b=some o->gh.2.2 b=some o)) (fun gh=>la.length - gh.1) ((0,List.replicate la.length (.slice none 0 0),G)) (by exact H.sub ⟨O,O,O,O,O,O,aL⟩) ?_ ?_
 ·exact ⟨dU _,⟨by simp,fun r h1=>absurd h1 (Nat.not_lt_zero _)⟩,fun _ _ h=>h⟩
 clear H;rintro ⟨i,cs,g⟩ a w hI H;dsimp only at hI H;obtain ⟨hi,hra,hgm⟩:=hI;dsimp only [lca,dB] at H;refine kP H (SR fun _ K7=>Rc O (Kz K7 (SQ fun _ K8=>Cd O ?_ ?_))) <;> clear H K7
 ·intro h31 a H
  try have p31:=dT h31
  have hi1:i < la.length:=by omega
  obtain ⟨b,o,cells,rfl,hcl,hrow,hrep⟩:=hga i la[i].dat (by simp [hi1]);obtain ⟨pA,pn,pc,dA,dn,dc,yA,yn,yc,fA,fn,fc,rfl,hh,hf⟩:=hrep.cell;replace hrow:=fun j u hj=>aK hgm (hrow j u hj);refine kP H (Kc K8 (SQ fun _ K9=>SB (SR fun _ aP=>Rm O (Ri kX kV O O ?_))));clear H K8;intro a H;refine dX kV (cs:=[_,_,_,_,_,_,_]) H wn O O (fun j v hj=>H.hp.aR (hrow j v hj)) O ?_;clear H;intro a H;refine kE kV H wn O ?_;clear H;intro b10 a w Ou H;refine kH H (Ra O ?_);clear H;intro a H;refine eO kV 0 (vs:=[_,_,_,_,_,_,_]) H wn O ?_;clear H;intro w H;refine aP _ _ ?_;clear aP;refine kP H (SR fun _ bH=>Rm O (Rm O (Rm O (Rl kX O ?_))));clear H;intro a H;refine oq lb.length bE aF H wn O O O V V O ?_;clear H;intro mH a w ES H;refine aT fI aW i H wn O O O hi1 O ?_;clear H;intro a H;refine pz aW 2 (c:=cs) (vs:=[_]) (cs.set i (.slice (some ⟨mH,0,none⟩) lb.length lb.length)) H wn O O O O O O (Eq.mpr Nat.ble_eq (by have:=hra.1;simp only [List.length_singleton];omega)) (by rw [fC,Nat.mul_one];exact FQ) ?_;clear H;intro w H;dsimp only [List.set] at H;obtain ⟨cs2,hcs2⟩:∃ x,x=cs.set i (.slice (some ⟨mH,0,none⟩) lb.length lb.length):=⟨_,O⟩;rw [<- hcs2] at H
  have vF:cs2.length=la.length:=by rw [hcs2,List.length_set];exact hra.1
  have hci:cs2[i]?=some (.slice (some ⟨mH,0,none⟩) lb.length lb.length):=by rw [hcs2,List.getElem?_set_self (by have:=hra.1;omega)]
  have hcn:∀ r,r < i->cs2[r]?=cs[r]?:=fun r hr=>by rw [hcs2,List.getElem?_set_ne V]
  rw [show List.replicate lb.length (Value.int .i64 0)=(List.replicate lb.length (0:Int)).map vi from List.map_replicate.symm] at H;refine bH _ _ ?_;clear bH;refine kP H (SR fun _ bL=>Rm O ?_);clear H;intro a H;refine dX kV (cs:=[_,_,_,_,_,_,_]) H wn O O (H.hp.dG 1 O O) O ?_;clear H;intro a H;refine yC H wn O O (hfa _ (dV hi1) _ _ _ hgm H.ro (hrep.mono hgm)) O ?_;clear H;rintro v44 SL a w rfl CU H;refine kH H (Rm O ?_);clear H;intro a H;(iterate 2 refine fZ H wn O O O ?_;clear H;intro a H);refine kH H (Ra O (aB bL O (SR fun _ bI=>Rm O (Rl kX O (Rm O (Kz bI (SB ?_)))))));clear H bL bI;intro a H;skip;refine eG (ι:=Nat × List Int × GH) (Tc:=[(1,_),(2,_),(8,_),(9,_),(11,_),(12,_),(28,_),(29,_),(30,_),(47,_),(48,_)]) (Lc:=[(_,_),(_,_)]) (fun gh=>[(49,vi gh.1)]) (fun gh=>[bF mH gh.2.1]) (fun gh=>gh.2.2) (fun gh=>gh.1<=lb.length∧gh.2.1.length=lb.length∧(∀ q,q < gh.1->gh.2.1[q]?=(jo κ φ lb la[i])[q]?)∧(∀ q,gh.1<=q->q < lb.length->gh.2.1[q]?=some 0)∧(∀ b o,G b=some o->gh.2.2 b=some o)∧(∀ b o,g b=some o->gh.2.2 b=some o)) (fun gh=>lb.length - gh.1) ((0,List.replicate lb.length 0,_)) (by exact (H.dR (Pl:=[_,_,_]) (dx:=[_,_,_]) [1,2,0] Y O).sub ⟨O,O,O,O,O,O,O,O,O,O,O,O,aL⟩) ?_ ?_
  ·exact ⟨dU _,by simp,fun q h=>absurd h (Nat.not_lt_zero _),fun q _ hq=>by simp [List.getElem?_replicate];omega,fun b o h=>CU b o (hgm b o h),CU⟩
  clear H;rintro ⟨k,fl,g2⟩ a w hI H;dsimp only at hI H;obtain ⟨hk,hfl,nZ,hf0,eH,hgg⟩:=hI;dsimp only [lca,dB] at H;refine kP H (SR fun _ cB=>Rc O (Kz cB (SQ fun _ dw=>Cd O ?_ ?_))) <;> clear H cB
  ·intro h50 a H
   try have p50:=dT h50
   have hk1:k < lb.length:=by omega
   obtain ⟨b2,o2,Ur,rfl,XP,hrow2,qj⟩:=hgb k lb[k].dat (by simp [hk1]);obtain ⟨qA,qn,qc,uA,un,uc,zA,zn,zc,xA,xn,xc,rfl,sO,hf2⟩:=qj.cell;replace hrow2:=fun j u hj=>aK eH (hrow2 j u hj)
   have CJ:(jo κ φ lb la[i]).length=lb.length:=by simp [jo]
   have xX:(jo κ φ lb la[i])[k]?=some (qJ κ φ la[i] lb[k]):=by simp [jo,hk1]
   refine kP H (Kc dw (SQ fun _ dN=>SB (SR fun _ eP=>Rm O (Ri kX kV O O ?_))));clear H dw;intro a H;refine dX kV (cs:=[_,_,_,_,_,_,_]) H wn O O (fun j v hj=>H.hp.aR (hrow2 j v hj)) O ?_;clear H;intro a H;refine kE kV H wn O ?_;clear H;intro b14 a w XD H;refine kH H (Ra O ?_);clear H;intro a H;refine eO kV 0 (vs:=[_,_,_,_,_,_,_]) H wn O ?_;clear H;intro w H;refine eP _ _ ?_;clear eP;refine kP H (SR fun _ fM=>Rm O ?_);clear H;intro a H;refine dX kV (cs:=[_,_,_,_,_,_,_]) H wn O O (H.hp.dG 0 O O) O ?_;clear H;intro a H;refine yC H wn O O (lS _ (dV hk1) _ _ _ eH H.ro (qj.mono eH)) O ?_;clear H;rintro v57 SY a w rfl uz H;refine kH H (Rm O ?_);clear H;intro a H;(iterate 2 refine fZ H wn O O O ?_;clear H;intro a H);refine kH H (Ra O (aB fM O (SR fun _ fO=>Rm O (Rm O (Rc O (Kz fO (Cd O ?_ ?_))))))) <;> clear H fM fO
   ·intro yZ a H
    try have p62:=dT yZ
    have hen:qJ κ φ la[i] lb[k]=kT (φ la[i]) (φ lb[k]):=aM p62;have hfn:=Ic hfl CJ hk1 nZ hf0 (hen ▸ xX);refine MJ (gG) [[],[],[0,1],[0,1,2],[],[],[],[5,6],[5,6,7],ra 5 4,ra 5 4,ra 0 10,(ra 0 10++[11])] [] Z Z 12 Y (fun (jg:Nat) (v:av) (G:GH)=>match jg with|0=>v=.slice (some ⟨yR,0,none⟩) la.length la.length|1=>v=vi i|2=>v=(aH yR (0+i*1))|3=>v=.slice (some ⟨mH,0,none⟩) lb.length lb.length|4=>v=vi k|5=>v=.string (φ la[i])|6=>v=.string (φ lb[k])|7=>v=.tuple #[vi (kT (φ la[i]) (φ lb[k])),vi 0]|8=>v=.tuple #[vi (kT (φ la[i]) (φ lb[k])),vi 0]|9=>v=vi (kT (φ la[i]) (φ lb[k]))|10=>v=vi 0|11=>v=(aH mH (0+k*1))|_=>True) 3 (bF mH (fl.set k (kT (φ la[i]) (φ lb[k])))) H ?_ ?_ ?_ ?_ Z
    ·clear H;refine aI ?_ ?_ ?_ ?_ (aI ?_ ?_ ?_ ?_ (aI ?_ ?_ ?_ ?_ (iO ?_ fQ)))
     ·intro au a w G1 _ _ ah hc hG HT hv;have H:=HT;clear ah;have Hb:=H.full;have H:=Hb;clear hc;refine kH H (Rm O ?_);clear H;intro a H;refine aj ⟨O,?_⟩;exact ay HT Hb hG hv (fun _ _ _ _ _ h=>h) H O
     ·intro au a w G1 _ _ ah hc hG HT hv;have H:=HT;clear ah;have Hb:=H.full;have H:=Hb;clear hc;refine kH H (Rm O ?_);clear H;intro a H;refine aj ⟨O,?_⟩;exact ay HT Hb hG hv (fun _ _ _ _ _ h=>h) H O
     ·intro au a w G1 _ _ ah hc hG HT hv;have H:=HT;clear ah;have H:=H.ak (hv 0 64 (hc 0 Y) O) O;have H:=H.ak (hv 1 65 (hc 1 Y) O) O;have Hb:=H.full;have H:=Hb;clear hc;refine aT fI aW i H wn O O O hi1 O ?_;clear H;intro a H;refine aj ⟨O,?_⟩;exact ay HT Hb hG hv (fun _ _ _ _ _ h=>h) H O
     ·intro au a w G1 _ _ ah hc hG HT hv;have H:=HT;clear ah;have H:=H.ak (hv 2 66 (hc 2 Y) O) O;have Hb:=H.full;have H:=Hb;clear hc;refine iM aW H wn O (H.hp.jc 2 O (by rw [fC,Nat.mul_one];exact (List.getElem?_toArray ..).trans hci)) O ?_;clear H;intro a H;refine aj ⟨O,?_⟩;exact ay HT Hb hG hv (fun _ _ _ _ _ h=>h) H O
     ·intro au a w G1 _ _ ah hc hG HT hv;have H:=HT;clear ah;have Hb:=H.full;have H:=Hb;clear hc;refine kH H (Rm O ?_);clear H;intro a H;refine aj ⟨O,?_⟩;exact ay HT Hb hG hv (fun _ _ _ _ _ h=>h) H O
     ·intro au a w G1 _ _ ah hc hG HT hv;have H:=HT;clear ah;have Hb:=H.full;have H:=Hb;clear hc;refine kH H (Rm O ?_);clear H;intro a H;refine aj ⟨O,?_⟩;exact ay HT Hb hG hv (fun _ _ _ _ _ h=>h) H O
     ·intro au a w G1 _ _ ah hc hG HT hv;have H:=HT;clear ah;have Hb:=H.full;have H:=Hb;clear hc;refine kH H (Rm O ?_);clear H;intro a H;refine aj ⟨O,?_⟩;exact ay HT Hb hG hv (fun _ _ _ _ _ h=>h) H O
     ·intro au a w G1 _ _ ah hc hG HT hv;have H:=HT;clear ah;have H:=H.ak (hv 5 69 (hc 5 Y) O) O;have H:=H.ak (hv 6 70 (hc 6 Y) O) O;have Hb:=H.full;have H:=Hb;clear hc;refine s_call Hr H wn O (GU _ _ H.ro (fun b o h=>hG _ _ (uz _ _ (eH _ _ (h0 b o h)))) _ _ (hoa _ (dV hi1)) (CW _ (dV hk1))) O ?_;clear H;rintro v71 Ta a w rfl II H;refine aj ⟨O,?_⟩;exact jw Z (fun _ _ _ _ _ h=>h) O O HT Hb hG hv II (rfl) H
     ·intro au a w G1 _ _ ah hc hG HT hv;have H:=HT;clear ah;have H:=H.ak (hv 7 71 (hc 7 Y) O) O;have Hb:=H.full;have H:=Hb;clear hc;refine kH H (Rm O ?_);clear H;intro a H;refine aj ⟨O,?_⟩;exact ay HT Hb hG hv (fun _ _ _ _ _ h=>h) H O
     ·intro au a w G1 _ _ ah hc hG HT hv;have H:=HT;clear ah;have H:=H.ak (hv 8 63 (hc 8 Y) O) O;have Hb:=H.full;have H:=Hb;clear hc;refine fZ H wn O O O ?_;clear H;intro a H;refine aj ⟨O,?_⟩;exact ay HT Hb hG hv (fun _ _ _ _ _ h=>h) H O
     ·intro au a w G1 _ _ ah hc hG HT hv;have H:=HT;clear ah;have H:=H.ak (hv 8 63 (hc 8 Y) O) O;have Hb:=H.full;have H:=Hb;clear hc;refine fZ H wn O O O ?_;clear H;intro a H;refine aj ⟨O,?_⟩;exact ay HT Hb hG hv (fun _ _ _ _ _ h=>h) H O
     ·intro au a w G1 _ _ ah hc hG HT hv;have H:=HT;clear ah;have H:=H.ak (hv 3 67 (hc 3 Y) O) O;have H:=H.ak (hv 4 68 (hc 4 Y) O) O;have Hb:=H.full;have H:=Hb;clear hc;refine aT bE aF k H wn O O O hk1 O ?_;clear H;intro a H;refine aj ⟨O,?_⟩;exact ay HT Hb hG hv (fun _ _ _ _ _ h=>h) H O
     intro _ _ _ _ _ hB;exact absurd hB Y
    ·clear H;intro o_ au a w G1 yj _ hc hG HT hv;obtain rfl:_=o_:=Option.some.inj yj;clear yj;have H:=HT;have H:=H.ak (hv 11 74 (hc 11 Y) O) O;have H:=H.ak (hv 9 72 (hc 9 Y) O) O;have Hb:=H.full;have H:=Hb;clear hc;refine pz aF 3 (c:=fl.map vi) (vs:=[_]) ((fl.set k (kT (φ la[i]) (φ lb[k]))).map vi) H wn O O O O O O (Eq.mpr Nat.ble_eq (by rw [bN,hfl];simp only [List.length_singleton];omega)) (by rw [fC,Nat.mul_one,List.map_set];rfl) ?_;clear H;intro w H;dsimp only [List.set] at H;refine aj ⟨O,?_⟩;exact Nt O HT hG hv H
    ·clear H;refine aI (gB O) (gB O) (gB O) (gB O) (aI (gB O) (gB O) (gB O) (gB O) (aI (gB O) (gB O) ?_ (gB O) (iO ?_ fQ)))
     ·intro au a w G1 _ _ ah hc hG HT hv;have H:=HT;dsimp only [List.set,List.append,lca,dB] at H;clear ah;have H:=H.ak (hv 8 63 (hc 8 Y) O) O;have Hb:=H.full;have H:=Hb;clear hc;refine fZ H wn O O O ?_;clear H;intro a H;refine aj ⟨O,?_⟩;exact ay HT Hb hG hv (fun _ _ _ _ _ h=>h) H O
     intro _ _ _ _ _ hB;exact absurd hB Y
    clear H;intro a w G CG H hv;dsimp only [List.set,List.append,lca,dB] at H;clear hv;refine aj ⟨O,?_⟩;refine dN _ _ ?_;clear dN;refine kP H (SC (Rd O (Rm O ?_)));clear H;intro a H;refine aj ?_;refine bg ((k+1,fl.set k (kT (φ la[i]) (φ lb[k])),G)) (by exact (H.dR (Pl:=[_,_,_,_]) (dx:=[_,_,_]) [1,2,3] Y O).sub ⟨O,O,O,O,O,O,O,O,O,O,O,O,aL⟩) ?_
    (try dsimp only);exact ⟨V,hfn.1,hfn.2.1,hfn.2.2,fun b o h=>CG _ _ (uz _ _ (eH b o h)),fun b o h=>CG _ _ (uz _ _ (hgg b o h))⟩
   intro yZ a H
   try have p62:=dF yZ
   have hen:qJ κ φ la[i] lb[k]=0:=aJ p62;have hfn:=Ie hk1 nZ hf0 (hen ▸ xX);refine kP H (Kc dN (SC (Rd O (Rm O ?_))));clear H dN;intro a H;refine aj ?_;refine bg ((k+1,fl,_)) (by exact (H.dR (Pl:=[_,_,_,_]) (dx:=[_,_,_]) [1,2,3] Y O).sub ⟨O,O,O,O,O,O,O,O,O,O,O,O,aL⟩) ?_
   (try dsimp only);exact ⟨V,hfl,hfn.1,hfn.2,fun b o h=>uz _ _ (eH b o h),fun b o h=>uz _ _ (hgg b o h)⟩
  intro h50 a H
  try have p50:=dF h50
  refine dD ?_;refine K9 _ _ ?_;clear K9;have hall:fl=jo κ φ lb la[i]:=Ib hfl (by simp [jo]) fun q hq=>nZ q V;have H:=H.dR (Pl:=[_,_,_]) (dx:=[_,_,_]) [2,0,1] Y O;obtain ⟨G3,qM,hg3,H⟩:=H.jd
  have qh:vU G3 (iQ κ φ la lb) la.length lb.length cs2 (i+1):=⟨vF,fun r h1=>by
   by_cases e:r=i
   ·subst e;refine ⟨jo κ φ lb la[r],mH,by simp [iQ,hi1],by simp [jo],hci,?_⟩;rw [<- hall];exact aC.mQ (xs:=fl.map vi) hg3 (by rw [bN,hfl]) (bD _) V (iU (by simp [hfl])) (uH _ _)
   obtain ⟨R,br,e0,e1,e2,e3⟩:=hra.2 r V
   exact ⟨R,br,e0,e1,by rw [hcn r V];exact e2,(e3.mono hgg).mono qM⟩⟩
  refine kP H (SC (Rd O (Rm O ?_)));clear H;intro a H;refine aj ?_;refine bg ((i+1,cs2,G3)) (by exact (H.dR (Pl:=[_,_]) (dx:=[_]) [1] Y O).sub ⟨O,O,O,O,O,O,aL⟩) ?_
  (try dsimp only);exact ⟨V,qh,fun b o h=>qM b o (eH b o h)⟩
 intro h31 a H
 try have p31:=dF h31
 refine dD ?_;refine K5 _ _ ?_;clear K5;refine kP H (SR fun _ ig=>Rm O ?_);clear H;intro a H
 have hie:i=la.length:=by omega
 rw [hie,<- IJ] at hra;obtain ⟨Gr,hmr,hgr,H⟩:=H.jd;refine s_call Ht H wn O (GR _ _ H.ro (iQ κ φ la lb) _ (aC.mQ (xs:=cs) hgr (by simp [iQ]) (bD _) V (iU (by have:=hra.1;rw [List.toList_toArray];omega)) (hra.mono hmr).cat)) rfl ?_;clear H;rintro v78 Td a w ⟨x78,rfl,Jz⟩ Yl H;rw [FL κ φ hla hlb] at H;(iterate 2 refine fZ H wn O O O ?_;clear H;intro a H);refine kH H (Ra O (aB ig O ?_));clear H ig;intro a H;refine aV ?_;refine (aY H results28 (.cons (aD H O) (.cons (aD H O) .nil)) ?_).1;exact H.rt ⟨_,O,Jz⟩
section
section
variable {N:Nat} {D:List Deferred} {w0:World} {F:Nat->Prop} {G0 G:GH} {L:OL} {T Xs:List (Nat × av)}
variable {r:Option Nat} {P:Program} {Q:Exit->Act->World->Prop} {l:List Oper} {a a':Act} {w w':World}
abbrev tH:Type:=Nat × av × Nat × Bool
def nE (ent:List tH) (S:Nat->Bool) (a:Act):Prop:=∀ e∈ent,S e.2.2.1=e.2.2.2->a.tmps[e.1]?=some e.2.1
theorem nE.at {ent:List tH} {S:Nat->Bool} {a:Act} (h:nE ent S a) (k:Nat) {t:Nat} {v:av} {j:Nat} {b:Bool} (hk:ent[k]?=some (t,v,j,b)) (hS:S j=b):a.tmps[t]?=some v:=h _ (jK hk) hS
theorem U7 {ent:List tH} {S:Nat->Bool} {i d:Nat} {v:av} (hok:ent.all (fun e=>Nat.beq e.1 d == Nat.beq e.2.2.1 i)=true) (hv:∀ e∈ent,e.1=d->e.2.2.2=true->e.2.1=v)
  (HT:St N D w0 F G0 G L [] a w) (Hb:St N D w0 F G0 G L (Xs++full N a) a w) (hE:nE ent S a) (H:St N D w0 F G0 G L ((d,v) :: (Xs++full N a)) a' w'):St N D w0 F G0 G L [] a' w'∧nE ent (fD S i) a':=by
 have hsame:∀ t,t≠d->a'.tmps[t]?=a.tmps[t]?:=by
  intro t ht
  by_cases hlt:t < N
  ·have h1:∃ u,lk (Xs++full N a) t=some u:=by
    rw [Du]
    cases lk Xs t with
    | some u=>exact ⟨u,O⟩
    | none=>exact ⟨_,Dv a hlt⟩
   obtain ⟨u,hu⟩:=h1
   rw [Hb.get t u hu,H.get t u (by rw [oW (Ne.symm ht)];exact hu)]
  ·rw [Array.getElem?_eq_none (by rw [H.jv];omega),Array.getElem?_eq_none (by rw [Hb.jv];omega)]
 refine ⟨⟨H.jv,(fun t u ht=>by cases ht),H.mJ,H.hp⟩,fun e he hS=>?_⟩
 have hb:=gq.1 hok e he
 by_cases hd:e.1=d
 ·have h1:Nat.beq e.1 d=true:=by rw [hd];exact Nat.beq_refl d
  rw [h1] at hb
  have h2:e.2.2.1=i:=uW (by simpa using hb)
  rw [h2] at hS
  have h3:e.2.2.2=true:=by rw [<- hS];exact aM O
  rw [hd,hv e he hd h3]
  exact H.get d v (qP _ _ _)
 ·have h1:Nat.beq e.1 d=false:=Ai hd
  rw [h1] at hb
  have h2:¬ e.2.2.1=i:=by
   intro e2
   rw [e2,Nat.beq_refl] at hb;cases hb
  rw [hsame _ hd]
  exact hE e he (by rw [<- hS];exact (aJ h2).symm)
theorem Uh {id:Nat} (hm:P.follows .mixedOrders=true) (bQ:List (List Nat)) (hk:vC l bQ=true) (ent:List tH) (H:St N D w0 F G0 G L T a w) (h0:nE ent (fun _=>false) a)
  (hstep:allI (fun i o=>∀ S a w,S i=false->(∀ j∈bQ.getD i [],S j=true)->(∀ j,j < l.length->i∈bQ.getD j []->S j=false)->St N D w0 F G0 G L T a w->nE ent S a ->
   WL r P l.toArray (fun x a' w'=>x=.normal∧St N D w0 F G0 G L T a' w'∧nE ent (fD S i) a') [o] a w) 0 l)
  (hend:∀ S a w,(∀ i,i < l.length->S i=true)->St N D w0 F G0 G L T a w->nE ent S a->Q .normal a w):WP r P (.region id l.toArray true) Q a w:=by
 refine El hm bQ hk (fun S a w=>St N D w0 F G0 G L T a w∧nE ent S a) ⟨H.move H.hp.drew,h0⟩ ?_ ?_
 ·rintro i o S a w ho ⟨HS,hE⟩ ah mM hdesc
  have h:=yO hstep i o ho
  rw [fC] at h
  exact h S a w ah mM hdesc HS hE
 ·rintro S a w hall ⟨HS,hE⟩
  exact hend S a w hall HS hE
theorem U6 {ent:List tH} {S:Nat->Bool} {i d:Nat} {v:av} (hok:(ent.all (fun e=>Nat.beq e.1 d == Nat.beq e.2.2.1 i) && (lk T d).isNone)=true) (hv:∀ e∈ent,e.1=d->e.2.2.2=true->e.2.1=v)
  (HT:St N D w0 F G0 G L T a w) (Hb:St N D w0 F G0 G L (Xs++full N a) a w) (hE:nE ent S a) (H:St N D w0 F G0 G L ((d,v) :: (Xs++full N a)) a' w'):St N D w0 F G0 G L T a' w'∧nE ent (fD S i) a':=by
 rw [gT,Option.isNone_iff_eq_none] at hok
 have hsame:∀ t,t≠d->a'.tmps[t]?=a.tmps[t]?:=by
  intro t ht
  by_cases hlt:t < N
  ·have h1:∃ u,lk (Xs++full N a) t=some u:=by
    rw [Du]
    cases lk Xs t with
    | some u=>exact ⟨u,O⟩
    | none=>exact ⟨_,Dv a hlt⟩
   obtain ⟨u,hu⟩:=h1
   rw [Hb.get t u hu,H.get t u (by rw [oW (Ne.symm ht)];exact hu)]
  ·rw [Array.getElem?_eq_none (by rw [H.jv];omega),Array.getElem?_eq_none (by rw [Hb.jv];omega)]
 have h0:=U7 hok.1 hv ⟨HT.jv,(fun t u ht=>by cases ht),HT.mJ,HT.hp⟩ Hb hE H
 refine ⟨⟨H.jv,fun t u ht=>?_,H.mJ,H.hp⟩,h0.2⟩
 have hne:t≠d:=fun e=>by rw [e,hok.2] at ht;cases ht
 rw [hsame t hne]
 exact HT.get t u ht
def Dt:List tH->Bool
 | []=>true
 | e :: l=>(l.all fun f=>!(Nat.beq f.1 e.1 && f.2.2.2 == e.2.2.2)) && Dt l
theorem Pm:∀ {ent:List tH} {k:Nat} {e f:tH},Dt ent=true->ent[k]?=some e->f∈ent->f.1=e.1->f.2.2.2=e.2.2.2->f=e
 | [],k,e,f,_,hk,_,_,_=>by simp at hk
 | x :: l,0,e,f,h,hk,hf,h1,h2=>by
  rw [xI] at hk
  injection hk with hk
  subst hk
  rw [Dt,gT] at h
  rcases oL.1 hf with rfl|hf
  ·rfl
  ·have:=gq.1 h.1 f hf
   rw [h1,h2,Nat.beq_refl] at this
   simp at this
 | x :: l,k+1,e,f,h,hk,hf,h1,h2=>by
  rw [List.getElem?_cons_succ] at hk
  rw [Dt,gT] at h
  rcases oL.1 hf with rfl|hf
  ·have:=gq.1 h.1 e (jK hk)
   rw [<- h1,<- h2,Nat.beq_refl] at this
   simp at this
  ·exact Pm h.2 hk hf h1 h2
theorem iL {ent:List tH} {S:Nat->Bool} {i d:Nat} {v u:av} (k:Nat) (hk:ent[k]?=some (d,v,i,true)) (hok:(Dt ent && (ent.all (fun e=>Nat.beq e.1 d == Nat.beq e.2.2.1 i) && (lk T d).isNone))=true) (hv:v=u)
  (HT:St N D w0 F G0 G L T a w) (Hb:St N D w0 F G0 G L (Xs++full N a) a w) (hE:nE ent S a) (H:St N D w0 F G0 G L ((d,u) :: (Xs++full N a)) a' w'):St N D w0 F G0 G L T a' w'∧nE ent (fD S i) a':=by
 rw [gT] at hok
 subst hv
 exact U6 hok.2 (fun e he h1 h2=>by rw [Pm hok.1 hk he h1 h2]) HT Hb hE H
theorem nE.cf {B:List tH} {t j:Nat} {v:av} (h:a.tmps[t]?=some v) (hr:nE B (fun _=>false) a):nE ((t,v,j,false) :: B) (fun _=>false) a:=by
 intro e he hS
 rcases oL.1 he with rfl|he
 ·exact h
 ·exact hr e he hS
theorem nE.ct {B:List tH} (h:B.all (fun e=>e.2.2.2)=true):nE B (fun _=>false) a:=by
 intro e he hS
 have:=gq.1 h e he
 rw [<- hS] at this
 cases this
theorem abd {ops:Array Oper} {rest:List Oper} {d:Nat} {ty:TypeId} {pos:String} {aG:Array Edge} {g:Option (Nat × Bool)} {t:TypeId} {x y:Operand} {s:ByteArray} {ky:IntKind} {p:Int} (hi:Nat) (ht:P.underlying t=some .string) (H:St N D w0 F G0 G L T a w) (hw:Region.wanted ⟨some d,.slice t x none (some y) none,ty,pos,aG,g⟩ (yielded ops a.tmps)=true) (hx:ev T x=some (.string s)) (hy:ev T y=some (.int ky p)) (hp:p=(hi:Int)) (h1:hi<=s.size) (hd:Nat.blt d N=true)
  (k:∀ a',St N D w0 F G0 G L ((d,.string (s.extract 0 hi)) :: T) a' w->WL r P ops Q rest a' w):WL r P ops Q (⟨some d,.slice t x none (some y) none,ty,pos,aG,g⟩ :: rest) a w:=by
 subst hp
 have hr:=run_slice_string_h (P:=P) w t s ht ky (hi:Int) V V
 rw [Int.toNat_natCast] at hr
 refine dQ (v:=.string (s.extract 0 hi)) (w':=w) hw O ?_ (k _ (H.put hd _ H.hp))
 simp only [execOp,H.ev hx,oM,Option.map_none,H.ev hy,bZ,run_sliceAt_string w t _ _ _ _ ht,hr,iX,kJ]
end
end
theorem Vr:bX 37:=cu func37 O
theorem NC:bX 24:=cu func24 O
theorem abH:qX prog 49 [(0,5),(5,1)] [.slice none 0 0,.int .i64 0,.int .i64 0,.slice none 0 0,.slice none 0 0,.slice none 0 0]:=⟨Z,Z⟩
theorem Vm:bX 26:=cu func26 O
theorem Oc:∀ (m:List (fE × ByteArray)) (q:List cK × List ByteArray),∃ r,(m.foldl oC q).1=q.1++r
 | [],q=>⟨[],by simp⟩
 | x :: m,q=>by
  obtain ⟨r,hr⟩:=Oc m (oC q x);exact ⟨_,by rw [List.foldl_cons,hr,oC,nR]⟩
theorem acg (l:List (fE × ByteArray)) (ks:List ByteArray) (n:Nat):(dM (l.take n) ks).1=(dM l ks).1.take n:=by
 by_cases h:n<=l.length
 ·have hl:=(vO l ks n h).1;obtain ⟨r,hr⟩:=Oc (l.drop n) (dM (l.take n) ks)
  have e:(dM l ks).1=(dM (l.take n) ks).1++r:=by
   rw [<- hr,dM,dM,<- List.foldl_append,List.take_append_drop]
  have e2:((dM (l.take n) ks).1).take n=(dM (l.take n) ks).1:=iU V;rw [e,List.take_append_of_le_length V,e2]
 have hl:=(DK l ks).1;rw [iU V,iU V]
theorem PW (a:ByteArray):yw a=lI a:=acg _ _ _
theorem ZK (a b:ByteArray):∃ K:List ByteArray,K.Nodup∧qE ((bR a).take 2048) (lI a) K∧qE ((bR b).take 2048) (qQ a b) K:=by
 obtain ⟨h1,h2,h3⟩:=DL ((bR a).take 2048) [] List.nodup_nil _ (bD _);rw [sD] at h1 h3;obtain ⟨g1,g2,g3⟩:=DL ((bR b).take 2048) (dM ((bR a).take 2048) []).2 h1 _ (bD _);rw [sD] at g1 g2 g3;rw [show (dM ((bR a).take 2048) []).1=lI a from PW a] at h3;exact ⟨_,g1,h3.up g2,g3⟩
theorem ZI (a b:ByteArray):(qQ a b).length<=2048:=by
 rw [qQ,(DK _ _).1,List.length_take];omega
theorem ZJ (a b:ByteArray):∀ x∈qQ a b,1<=x.weight∧x.weight<=1000:=by
 have h:=F4 (dM ((bR a).take 2048) []).2 (l:=(bR b).take 2048) (fun x hx=>KC b x (List.mem_of_mem_take hx)) _ (bD _)
 rwa [sD] at h
theorem ZF (a b:ByteArray):uX (lI a) (qQ a b)=kT a b:=by
 obtain ⟨K,hK,hx,hy⟩:=acu a b;obtain ⟨K2,K2,hx2,hy2⟩:=ZK a b;have lx:=hx.len;have ly:=hy.len;have lx2:=hx2.len;have ly2:=hy2.len
 have hs1:dS (lI a) (qQ a b) 0 0=dS (oD a b) (lI a) 0 0:=by
  refine DI V O (fun i k hi hk=>?_) (fun k hk=>?_) (fun i hi=>rfl) _ 0 0 (bD _)
  ·rw [Po K2 hx2 hy2 (show i < ((bR a).take 2048).length by omega) (show k < ((bR b).take 2048).length by omega)];have h:=Po hK hx hy (show i < ((bR a).take 2048).length by omega) (show k < ((bR b).take 2048).length by omega);exact h.symm.trans eq_comm
  obtain ⟨-,-,-,q1⟩:=hy2.at_ k V V;obtain ⟨-,-,-,q2⟩:=hy.at_ k V V;rw [q1,q2]
 have hs2:dS (lI a) (oD a b) 0 0=dS (oD a b) (lI a) 0 0 :=
  DI rfl rfl (fun i k hi hk=>eq_comm) (fun k hk=>rfl) (fun i hi=>rfl) _ 0 0 (bD _)
 have hw:jh (lI a++qQ a b)=jh (lI a++oD a b):=by
  rw [Kt,Kt,Rq _ _ ((Rt hy2).trans (Rt hy).symm)]
 rw [kT,uX,uX,hs1,hs2,hw]
theorem ZE {G0:GH} (G:GH) (w0:World) (hG:Hold G w0) (h0:∀ b o,G0 b=some o->G b=some o) (s t:ByteArray) (hs:jr G0 s) (ht:jr G0 t) :
  Calls prog 26 #[.string s,.string t] w0 (cO w0 G fun u G'=>u=vi (kT s t)):=by
 refine eN [(0,_),(1,_)] func26 O ntmps26 O O hG ?_;intro a H;refine kP H (SR fun _ K1=>aB K1 O (SR fun _ K2=>Rm O (Rm O ?_)));clear H K1;intro a H;refine s_call Vr H wn O (ZH _ _ H.ro h0 s t hs ht) O ?_;clear H;rintro v12 LC a w ⟨Sw,y12,rfl,Bc,JB⟩ Jb H;rw [PW] at Bc;refine kH H (Rm O ?_);clear H;intro a H;(iterate 2 refine fZ H wn O O O ?_;clear H;intro a H);refine kH H (Ra O (aB K2 O (SR fun _ K3=>Rm O (Rm O ?_))));clear H K2;intro a H;refine s_call NH H wn O (Mj _ _ H.ro _ _ _ _ Bc JB (RL s) (ZI s t) (F6 s) (ZJ s t)) O ?_;clear H;rintro v18 LG a w rfl hm18 H;rw [ZF] at H;refine kH H (Rm O ?_);clear H;intro a H;(iterate 2 refine fZ H wn O O O ?_;clear H;intro a H);exact kH H (Ra O (aB K3 O (SR fun _ K4=>Rm O (aB K4 O (LR results26 O fun H=>H.rt O)))))
set_option maxHeartbeats 1000000 in
theorem Qm (G:GH) (w0:World) (hG:Hold G w0) (l:List bV) (v:av) (hv:aC G (.sl 6 (l.map bV.dat)) v) (hz:kg l<=1073741824) :
  Calls prog 8 #[v] w0 (cO w0 G fun u G'=>aC G' (.sl 1 ((l.map fun x=>fT (iH x.cells)).map mV)) u):=by
 have hrl:=Gg l;have hml:maxLen=9223372036854775807:=rfl;obtain ⟨A,c,rfl,hc1,hc2,hg⟩:=hv.slice;rw [bN] at *;refine eN [(0,_)] func8 O ntmps8 O O hG ?_;intro a H;refine kP H (SR fun _ K1=>aB K1 O (SR fun _ K2=>aB K2 O (SQ fun _ K3=>SR fun _ K4=>aB K4 O (SB ?_))));clear H K1 K2 K4;intro a H;skip;refine eG (ι:=Nat × av × OL × GH) (Tc:=[(0,_)]) (Lc:=[]) (fun gh=>[(3,gh.2.1),(4,vi gh.1)]) (fun gh=>[]++gh.2.2.1) (fun gh=>gh.2.2.2) (fun gh=>gh.1<=l.length∧bP 9 1 gh.2.1 gh.1 (((l.take gh.1).map fun x=>fT (iH x.cells)).map Value.string) gh.2.2.1∧(∀ b o,G b=some o->gh.2.2.2 b=some o)) (fun gh=>l.length - gh.1) ((0,.slice none 0 0,[],G)) (by exact H.sub ⟨O,O,O,aL⟩) ?_ ?_
 ·exact ⟨V,bP.nil,fun _ _ h=>h⟩
 clear H;rintro ⟨k,v,Lo,g⟩ a w hI H;dsimp only at hI H;obtain ⟨hk,hrw,hgm⟩:=hI;dsimp only [lca,dB] at H;refine kP H (SQ fun _ K5=>SR fun _ K6=>Rm O (Rm O (Rl jR O (Rc O (Kz K6 (Cd O ?_ ?_)))))) <;> clear H K6
 ·intro h8 a H
  try have p8:=dT h8
  have hk2:k < l.length:=by omega
  obtain ⟨b,o,cs,rfl,vF,hrow,hrep⟩:=hg k l[k].dat (by simp [hk2]);obtain ⟨qA,qn,qc,uA,un,uc,zA,zn,zc,xA,xn,xc,rfl,sO,hfc⟩:=hrep.row;replace hrow:=fun j u hj=>aK hgm (hrow j u hj);have hce:=uQ l[k];have hcm:=vS (dV hk2);obtain ⟨vA,vc,rfl,Dm,Dn⟩:=hrw.shape;refine kP H (Kc K5 (SQ fun _ K7=>SB (SC (Rm O (Rm O (Rm O (Ri jR jI O O ?_)))))));clear H K5;intro a H;refine dX jI (cs:=[_,_,_,_,_,_]) H wn O O (fun j v hj=>H.hp.aR (hrow j v hj)) O ?_;clear H;intro a H;refine s_call NC H wn O (PU _ _ H.ro l[k].cells _ _ _ _ _ _ (hfc.mono hgm) V) O ?_;clear H;rintro v16 Gs a w rfl E8 H;refine eU kW jQ [_] [_] H wn O O O O O (by intro i q h;match i,h with|0,h=>exact h|n+1,h=>simp at h) O O ?_;clear H;intro b17 a w Ow H;refine eD (Li:=[_]) (Lo:=Lo) (news:=[.string (fT (iH l[k].cells))]) kW jQ O O H wn O O hrw O (H.hp.dG 0 O O) O V V O ?_;clear H;intro v18 Ca a w Bb H;refine kH H (bS K7 O (SC (Rm O (Rd O (Ra O ?_)))));clear H K7;intro a H;refine aj ?_;refine bg ((k+1,v18,Ca,_)) (by exact (H.dR (Pl:=[_]) (dx:=[]) [] Y O).sub ⟨O,O,O,aL⟩) ?_
  (try dsimp only);exact ⟨V,by rw [lZ hk2,kC,kC];exact Bb,fun b o h=>E8 b o (hgm b o h)⟩
 intro h8 a H
 try have p8:=dF h8
 refine dD ?_;refine K3 _ _ ?_;clear K3;refine kP H (SR fun _ K8=>Rm O (aB K8 O ?_));clear H K8;intro a H;refine aV ?_
 have hke:k=l.length:=by omega
 subst hke;obtain ⟨Gr,hmr,hrep,H⟩:=St.ni (Li:=[]) (Lo:=Lo) H hrw (rows:=((l.take l.length).map fun x=>fT (iH x.cells)).map mV) (by simp) (Kq _ _);rw [sD] at hrep;refine lv H results8 O ?_;exact H.rt hrep
theorem Ud (A B:List UInt8):(fT (A++B)).extract 0 A.length=fT A:=by
 rw [Aj];exact ByteArray.extract_append_eq_left (tZ A).symm
set_option maxHeartbeats 1000000 in
theorem ML (G:GH) (w0:World) (hG:Hold G w0) (l:List dh) (v:av) (hv:aC G (.sl 7 (l.map dh.dat)) v) (hz:jJ l<=1073741824) :
  Calls prog 13 #[v] w0 (cO w0 G fun u G'=>aC G' (.sl 1 ((l.map fun x=>fT (gY x.flow)).map mV)) u):=by
 have hrl:=Gf l;have hml:maxLen=9223372036854775807:=rfl;obtain ⟨A,c,rfl,hc1,hc2,hg⟩:=hv.slice;rw [bN] at *;refine eN [(0,_)] func13 O ntmps13 O O hG ?_;intro a H;refine kP H (SR fun _ K1=>aB K1 O (SR fun _ K2=>aB K2 O (SQ fun _ K3=>SR fun _ K4=>aB K4 O (SB ?_))));clear H K1 K2 K4;intro a H;skip;refine eG (ι:=Nat × av × OL × GH) (Tc:=[(0,_)]) (Lc:=[]) (fun gh=>[(3,gh.2.1),(4,vi gh.1)]) (fun gh=>[]++gh.2.2.1) (fun gh=>gh.2.2.2) (fun gh=>gh.1<=l.length∧bP 9 1 gh.2.1 gh.1 (((l.take gh.1).map fun x=>fT (gY x.flow)).map Value.string) gh.2.2.1∧(∀ b o,G b=some o->gh.2.2.2 b=some o)) (fun gh=>l.length - gh.1) ((0,.slice none 0 0,[],G)) (by exact H.sub ⟨O,O,O,aL⟩) ?_ ?_
 ·exact ⟨V,bP.nil,fun _ _ h=>h⟩
 clear H;rintro ⟨k,v,Lo,g⟩ a w hI H;dsimp only at hI H;obtain ⟨hk,hrw,hgm⟩:=hI;dsimp only [lca,dB] at H;refine kP H (SQ fun _ K5=>SR fun _ K6=>Rm O (Rm O (Rl kX O (Rc O (Kz K6 (Cd O ?_ ?_)))))) <;> clear H K6
 ·intro h9 a H
  try have p9:=dT h9
  have hk2:k < l.length:=by omega
  have hce:=uP l[k];have hcm:=xg (dV hk2);have htl:=DR l[k].flow;obtain ⟨vA,vc,rfl,Dm,Dn⟩:=hrw.shape;have hpart:=hv.part k (k+1) V (by rw [bN];omega)
  have he1:((l.map dh.dat).drop k).take 1=[l[k]].map dh.dat:=by rw [List.drop_eq_getElem_cons (by simpa using hk2)];simp
  have hc3:¬ c=k:=by omega
  have hz1:jJ [l[k]]<=1073741824:=by show 1+iC l[k].dat+0<=_;omega
  have hr1:iH [l[k]]=gY l[k].flow++[10]:=by simp [iH]
  refine kP H (Kc K5 (SQ fun _ K7=>SB (SR fun _ K8=>Rm O (Rm O (Rm O (Rd O ?_))))));clear H K5;intro a H;refine J8 kX kV k (k+1) H wn O O O O V V V O ?_;clear H;intro a H;rw [aJ hc3,Nat.add_sub_cancel_left] at H;refine kF abH [_,_,_,_,_,_] H wn O O O O ?_;clear H;intro a H;refine s_call NC H wn O (PU _ _ H.ro [l[k]] _ _ _ _ _ _ (by have h:=hpart;rw [aJ hc3,Nat.add_sub_cancel_left,he1] at h;exact h.mono hgm) hz1) O ?_;clear H;rintro v18 LG a w rfl hm18 H;rw [hr1] at H;refine kH H (aB K8 O (SC (Rm O (Rm O (Rm O (Rv jA O ?_))))));clear H K8;intro a H;rw [tZ,iK,List.length_singleton] at H;refine kH H (Rs O ?_);clear H;intro a H;refine abd (gY l[k].flow).length jA H wn O O V (by rw [tZ,iK];omega) rfl ?_;clear H;intro a H;rw [Ud] at H;refine eU kW jQ [_] [_] H wn O O O O O (by intro i q h;match i,h with|0,h=>exact h|n+1,h=>simp at h) O O ?_;clear H;intro b25 a w adW H;refine eD (Li:=[_]) (Lo:=Lo) (news:=[.string (fT (gY l[k].flow))]) kW jQ O O H wn O O hrw O (H.hp.dG 0 O O) O V V O ?_;clear H;intro v26 Tm a w YH H;refine kH H (bS K7 O (SC (Rm O (Rd O (Ra O ?_)))));clear H K7;intro a H;refine aj ?_;refine bg ((k+1,v26,Tm,_)) (by exact (H.dR (Pl:=[_]) (dx:=[]) [] Y O).sub ⟨O,O,O,aL⟩) ?_
  (try dsimp only);exact ⟨V,by rw [lZ hk2,kC,kC];exact YH,fun b o h=>hm18 b o (hgm b o h)⟩
 intro h9 a H
 try have p9:=dF h9
 refine dD ?_;refine K3 _ _ ?_;clear K3;refine kP H (SR fun _ K9=>Rm O (aB K9 O ?_));clear H K9;intro a H;refine aV ?_
 have hke:k=l.length:=by omega
 subst hke;obtain ⟨Gr,hmr,hrep,H⟩:=St.ni (Li:=[]) (Lo:=Lo) H hrw (rows:=((l.take l.length).map fun x=>fT (gY x.flow)).map mV) (by simp) (Kq _ _);rw [sD] at hrep;refine lv H results13 O ?_;exact H.rt hrep
set_option maxHeartbeats 4000000 in
theorem PI {Gt:GH} (G:GH) (w0:World) (hG:Hold G w0) (h0:∀ b o,Gt b=some o->G b=some o) (pa pb:List (Int × ByteArray)) (va vb ka kb:av) (hva:aC G (.sl 1 ((pa.map Prod.snd).map mV)) va) (hvb:aC G (.sl 1 ((pb.map Prod.snd).map mV)) vb)
  (hka:aC G (.sl 1 ((pa.map Prod.fst).map eZ)) ka) (hkb:aC G (.sl 1 ((pb.map Prod.fst).map eZ)) kb) (hoa:∀ x∈pa,jr Gt x.2) (CW:∀ x∈pb,jr Gt x.2) (hla:pa.length<=1024) (hlb:pb.length<=1024) :
  Calls prog 11 #[va,vb,ka,kb] w0 (cO w0 G fun u G'=>aC G' (.sl 1 ((iQ Prod.fst Prod.snd pa pb).map kS)) u):=by
 obtain ⟨A,c,rfl,hc1,hc2,-⟩:=hva.slice;obtain ⟨B,d,rfl,hd1,hd2,-⟩:=hvb.slice;obtain ⟨C,e,rfl,he1,he2,-⟩:=hka.slice;obtain ⟨D,f,rfl,hf1,hf2,-⟩:=hkb.slice;have hml:maxLen=9223372036854775807:=rfl
 simp only [bN] at *
 refine eN [(0,_),(1,_),(2,_),(3,_)] func11 O ntmps11 O O hG ?_;intro a H;refine kP H (SR fun _ K1=>aB K1 O (SR fun _ K2=>aB K2 O (SQ fun _ K3=>SR fun _ K4=>aB K4 O (SB ?_))));clear H K1 K2 K4;intro a H;skip;refine eG (ι:=Nat × av × List av × OL × GH) (Tc:=[(0,_),(1,_),(2,_),(3,_)]) (Lc:=[]) (fun gh=>[(9,gh.2.1),(10,vi gh.1)]) (fun gh=>[]++gh.2.2.2.1) (fun gh=>gh.2.2.2.2) (fun gh=>gh.1<=pa.length∧bP 46 1 gh.2.1 gh.1 gh.2.2.1 gh.2.2.2.1∧dK gh.2.2.2.2 1 (((iQ Prod.fst Prod.snd pa pb).take gh.1).map kS) gh.2.2.1∧(∀ b o,G b=some o->gh.2.2.2.2 b=some o)) (fun gh=>pa.length - gh.1) ((0,.slice none 0 0,[],[],G)) (by exact H.sub ⟨O,O,O,O,O,O,aL⟩) ?_ ?_
 ·exact ⟨V,bP.nil,dK.nil,fun _ _ h=>h⟩
 clear H;rintro ⟨i,v,cs,Lo,g⟩ a w hI H;dsimp only at hI H;obtain ⟨hi,hrw,nG,hgm⟩:=hI;dsimp only [lca,dB] at H;refine kP H (SQ fun _ K5=>SR fun _ K6=>Rm O (Rm O (Rl kW O (Rc O (Kz K6 (Cd O ?_ ?_)))))) <;> clear H K6
 ·intro h16 a H
  try have p16:=dT h16
  have hi1:i < pa.length:=by omega
  obtain ⟨vA,vc,rfl,Dm,Dn⟩:=hrw.shape;obtain ⟨Pb,Pp,rfl,EJ⟩:=oZ (hka.mono hgm) (show i < (pa.map Prod.fst).length by simpa using hi1);obtain ⟨sb1,QX,rfl,gs1⟩:=Km (hva.mono hgm) (show i < (pa.map Prod.snd).length by simpa using hi1);rw [List.getElem_map] at EJ gs1;refine kP H (Kc K5 (SQ fun _ K7=>SB (SR fun _ K8=>Rm O (Rl kW O ?_))));clear H K5;intro a H;refine oq pb.length bE aF H wn O O O V V O ?_;clear H;intro Ag a w adV H;refine kH H (aB K8 O (SQ fun _ K9=>SQ fun _ aP=>?_));clear H K8;intro a H;rw [show List.replicate pb.length (Value.int .i64 0)=(List.replicate pb.length (0:Int)).map vi from List.map_replicate.symm] at H;refine kP H (SC (bS aP O (SB ?_)));clear H aP;intro a H;skip;refine eG (ι:=Nat × List Int × GH) (Tc:=[(0,_),(1,_),(2,_),(3,_),(9,_),(10,_),(11,_)]) (Lc:=[]) (fun gh=>[(12,vi gh.1)]) (fun gh=>[bF Ag gh.2.1]++Lo) (fun gh=>gh.2.2) (fun gh=>gh.1<=pb.length∧gh.2.1.length=pb.length∧(∀ q,q < gh.1->gh.2.1[q]?=(jo Prod.fst Prod.snd pb pa[i])[q]?)∧(∀ q,gh.1<=q->q < pb.length->gh.2.1[q]?=some 0)∧(∀ b o,G b=some o->gh.2.2 b=some o)∧(∀ b o,g b=some o->gh.2.2 b=some o)) (fun gh=>pb.length - gh.1) ((0,List.replicate pb.length 0,g)) (by exact H.sub ⟨O,O,O,O,O,O,O,O,aL⟩) ?_ ?_
  ·exact ⟨dU _,by simp,fun q h=>absurd h (Nat.not_lt_zero _),fun q _ hq=>by simp [List.getElem?_replicate];omega,hgm,fun _ _ h=>h⟩
  clear H;rintro ⟨k,fl,g2⟩ a w hI H;dsimp only at hI H;obtain ⟨hk,hfl,nZ,hf0,eH,hgg⟩:=hI;dsimp only [lca,dB] at H;refine kP H (SQ fun _ bH=>SR fun _ bL=>Rm O (Rm O (Rl kW O (Rc O (Kz bL (Cd O ?_ ?_)))))) <;> clear H bL
  ·intro iY a H
   try have p25:=dT iY
   have hk1:k < pb.length:=by omega
   obtain ⟨Pg,Pq,rfl,Oi⟩:=oZ (hkb.mono eH) (show k < (pb.map Prod.fst).length by simpa using hk1);obtain ⟨J9,Kh,rfl,gs2⟩:=Km (hvb.mono eH) (show k < (pb.map Prod.snd).length by simpa using hk1);rw [List.getElem_map] at Oi gs2;replace EJ:=aK hgg EJ;replace gs1:=aK hgg gs1
   have CJ:(jo Prod.fst Prod.snd pb pa[i]).length=pb.length:=by simp [jo]
   have xX:(jo Prod.fst Prod.snd pb pa[i])[k]?=some (qJ Prod.fst Prod.snd pa[i] pb[k]):=by simp [jo,hk1]
   refine kP H (Kc bH (SQ fun _ bI=>SB (SQ fun _ cB=>?_)));clear H bH;intro a H;refine dI gG [[],[],[0,1],[0,1,2],[],[],[4,5],[4,5,6],ra 0 8] [] Z [.slice (some ⟨Pb,Pp,none⟩) pa.length e,vi i,(aH Pb (Pp+i*1)),vi pa[i].1,.slice (some ⟨Pg,Pq,none⟩) pb.length f,vi k,(aH Pg (Pq+k*1)),vi pb[k].1,.bool (decide (pa[i].1=pb[k].1))] H (aI ?_ ?_ ?_ ?_ (aI ?_ ?_ ?_ ?_ (iO ?_ fQ))) ?_
   ·intro au a w G1 _ ah hc hG HT hv;have H:=HT;clear ah;have Hb:=H.full;have H:=Hb;clear hc;refine kH H (Rm O ?_);clear H;intro a H;refine aj ⟨O,?_⟩;exact ay HT Hb hG hv (fun _ _ _ _ _ h=>h) H O
   ·intro au a w G1 _ ah hc hG HT hv;have H:=HT;clear ah;have Hb:=H.full;have H:=Hb;clear hc;refine kH H (Rm O ?_);clear H;intro a H;refine aj ⟨O,?_⟩;exact ay HT Hb hG hv (fun _ _ _ _ _ h=>h) H O
   ·intro au a w G1 _ ah hc hG HT hv;have H:=HT;clear ah;have H:=H.ak (hv 0 28 (hc 0 Y) O) O;have H:=H.ak (hv 1 29 (hc 1 Y) O) O;have Hb:=H.full;have H:=Hb;clear hc;refine aT bE aF i H wn O O O hi1 O ?_;clear H;intro a H;refine aj ⟨O,?_⟩;exact ay HT Hb hG hv (fun _ _ _ _ _ h=>h) H O
   ·intro au a w G1 _ ah hc hG HT hv;have H:=HT;clear ah;have H:=H.ak (hv 2 30 (hc 2 Y) O) O;have Hb:=H.full;have H:=Hb;clear hc;refine kH H (Rg aF O (aK hG EJ) ?_);clear H;intro a H;refine aj ⟨O,?_⟩;exact ay HT Hb hG hv (fun _ _ _ _ _ h=>h) H O
   ·intro au a w G1 _ ah hc hG HT hv;have H:=HT;clear ah;have Hb:=H.full;have H:=Hb;clear hc;refine kH H (Rm O ?_);clear H;intro a H;refine aj ⟨O,?_⟩;exact ay HT Hb hG hv (fun _ _ _ _ _ h=>h) H O
   ·intro au a w G1 _ ah hc hG HT hv;have H:=HT;clear ah;have Hb:=H.full;have H:=Hb;clear hc;refine kH H (Rm O ?_);clear H;intro a H;refine aj ⟨O,?_⟩;exact ay HT Hb hG hv (fun _ _ _ _ _ h=>h) H O
   ·intro au a w G1 _ ah hc hG HT hv;have H:=HT;clear ah;have H:=H.ak (hv 4 32 (hc 4 Y) O) O;have H:=H.ak (hv 5 33 (hc 5 Y) O) O;have Hb:=H.full;have H:=Hb;clear hc;refine aT bE aF k H wn O O O hk1 O ?_;clear H;intro a H;refine aj ⟨O,?_⟩;exact ay HT Hb hG hv (fun _ _ _ _ _ h=>h) H O
   ·intro au a w G1 _ ah hc hG HT hv;have H:=HT;clear ah;have H:=H.ak (hv 6 34 (hc 6 Y) O) O;have Hb:=H.full;have H:=Hb;clear hc;refine kH H (Rg aF O (aK hG Oi) ?_);clear H;intro a H;refine aj ⟨O,?_⟩;exact ay HT Hb hG hv (fun _ _ _ _ _ h=>h) H O
   ·intro au a w G1 _ ah hc hG HT hv;have H:=HT;clear ah;have H:=H.ak (hv 3 31 (hc 3 Y) O) O;have H:=H.ak (hv 7 35 (hc 7 Y) O) O;have Hb:=H.full;have H:=Hb;clear hc;refine kH H (Rc O ?_);clear H;intro a H;refine aj ⟨O,?_⟩;exact ay HT Hb hG hv (fun _ _ _ _ _ h=>h) H O
   clear H;intro a w G jE H hv;have H:=H.ak (hv 8 36 O O) O;clear hv;refine aj ⟨O,?_⟩;refine cB _ _ ?_;clear cB;refine vk H O ?_ ?_
   ·intro pX
    try have p36:=dT pX
    have hen:qJ Prod.fst Prod.snd pa[i] pb[k]=kT pa[i].2 pb[k].2:=aM p36.symm;have hfn:=Ic hfl CJ hk1 nZ hf0 (hen ▸ xX);refine dI gG [[],[],[],[],[2,3],[2,3,4],[],[],[6,7],[6,7,8],ra 2 8,ra 0 11,ra 0 12] [11,12] Z [.slice (some ⟨Ag,0,none⟩) pb.length pb.length,vi k,.slice (some ⟨sb1,QX,none⟩) pa.length c,vi i,(aH sb1 (QX+i*1)),.string pa[i].2,.slice (some ⟨J9,Kh,none⟩) pb.length d,vi k,(aH J9 (Kh+k*1)),.string pb[k].2,vi (kT pa[i].2 pb[k].2)] H (aI ?_ ?_ ?_ ?_ (aI ?_ ?_ ?_ ?_ (aI ?_ ?_ ?_ (gB O) (iO (gB O) fQ)))) ?_
    ·intro au a w G1 _ ah hc hG HT hv;have H:=HT;clear ah;have Hb:=H.full;have H:=Hb;clear hc;refine kH H (Rm O ?_);clear H;intro a H;refine aj ⟨O,?_⟩;exact ay HT Hb hG hv (fun _ _ _ _ _ h=>h) H O
    ·intro au a w G1 _ ah hc hG HT hv;have H:=HT;clear ah;have Hb:=H.full;have H:=Hb;clear hc;refine kH H (Rm O ?_);clear H;intro a H;refine aj ⟨O,?_⟩;exact ay HT Hb hG hv (fun _ _ _ _ _ h=>h) H O
    ·intro au a w G1 _ ah hc hG HT hv;have H:=HT;clear ah;have Hb:=H.full;have H:=Hb;clear hc;refine kH H (Rm O ?_);clear H;intro a H;refine aj ⟨O,?_⟩;exact ay HT Hb hG hv (fun _ _ _ _ _ h=>h) H O
    ·intro au a w G1 _ ah hc hG HT hv;have H:=HT;clear ah;have Hb:=H.full;have H:=Hb;clear hc;refine kH H (Rm O ?_);clear H;intro a H;refine aj ⟨O,?_⟩;exact ay HT Hb hG hv (fun _ _ _ _ _ h=>h) H O
    ·intro au a w G1 _ ah hc hG HT hv;have H:=HT;clear ah;have H:=H.ak (hv 2 39 (hc 2 Y) O) O;have H:=H.ak (hv 3 40 (hc 3 Y) O) O;have Hb:=H.full;have H:=Hb;clear hc;refine aT kW jQ i H wn O O O hi1 O ?_;clear H;intro a H;refine aj ⟨O,?_⟩;exact ay HT Hb hG hv (fun _ _ _ _ _ h=>h) H O
    ·intro au a w G1 _ ah hc hG HT hv;have H:=HT;clear ah;have H:=H.ak (hv 4 41 (hc 4 Y) O) O;have Hb:=H.full;have H:=Hb;clear hc;refine kH H (Rg jQ O (aK hG (aK jE gs1)) ?_);clear H;intro a H;refine aj ⟨O,?_⟩;exact ay HT Hb hG hv (fun _ _ _ _ _ h=>h) H O
    ·intro au a w G1 _ ah hc hG HT hv;have H:=HT;clear ah;have Hb:=H.full;have H:=Hb;clear hc;refine kH H (Rm O ?_);clear H;intro a H;refine aj ⟨O,?_⟩;exact ay HT Hb hG hv (fun _ _ _ _ _ h=>h) H O
    ·intro au a w G1 _ ah hc hG HT hv;have H:=HT;clear ah;have Hb:=H.full;have H:=Hb;clear hc;refine kH H (Rm O ?_);clear H;intro a H;refine aj ⟨O,?_⟩;exact ay HT Hb hG hv (fun _ _ _ _ _ h=>h) H O
    ·intro au a w G1 _ ah hc hG HT hv;have H:=HT;clear ah;have H:=H.ak (hv 6 43 (hc 6 Y) O) O;have H:=H.ak (hv 7 44 (hc 7 Y) O) O;have Hb:=H.full;have H:=Hb;clear hc;refine aT kW jQ k H wn O O O hk1 O ?_;clear H;intro a H;refine aj ⟨O,?_⟩;exact ay HT Hb hG hv (fun _ _ _ _ _ h=>h) H O
    ·intro au a w G1 _ ah hc hG HT hv;have H:=HT;clear ah;have H:=H.ak (hv 8 45 (hc 8 Y) O) O;have Hb:=H.full;have H:=Hb;clear hc;refine kH H (Rg jQ O (aK hG (aK jE gs2)) ?_);clear H;intro a H;refine aj ⟨O,?_⟩;exact ay HT Hb hG hv (fun _ _ _ _ _ h=>h) H O
    ·intro au a w G1 _ ah hc hG HT hv;have H:=HT;clear ah;have H:=H.ak (hv 5 42 (hc 5 Y) O) O;have H:=H.ak (hv 9 46 (hc 9 Y) O) O;have Hb:=H.full;have H:=Hb;clear hc;refine s_call Vm H wn O (ZE _ _ H.ro (fun b o h=>hG _ _ (jE _ _ (eH _ _ (h0 b o h)))) _ _ (hoa _ (dV hi1)) (CW _ (dV hk1))) O ?_;clear H;rintro v47 SN a w rfl Xn H;refine aj ⟨O,?_⟩;exact jw Z (fun _ _ _ _ _ h=>h) O O HT Hb hG hv Xn (rfl) H
    clear H;intro a w G EN H hv;have H:=H.ak (hv 0 37 O O) O;have H:=H.ak (hv 1 38 O O) O;have H:=H.ak (hv 10 47 O O) O;clear hv;refine aT bE aF k H wn O O O hk1 O ?_;clear H;intro a H;refine pz aF 0 (c:=fl.map vi) (vs:=[_]) ((fl.set k (kT pa[i].2 pb[k].2)).map vi) H wn O O O O O O (Eq.mpr Nat.ble_eq (by rw [bN,hfl];simp only [List.length_singleton];omega)) (by rw [fC,Nat.mul_one,List.map_set];rfl) ?_;clear H;intro w H;dsimp only [List.set] at H;refine aj ⟨O,?_⟩;refine bI _ _ ?_;clear bI;refine kP H (SC (Rm O (Rd O (Ra O ?_))));clear H;intro a H;refine aj ?_;refine bg ((k+1,fl.set k (kT pa[i].2 pb[k].2),G)) (by exact H.sub ⟨O,O,O,O,O,O,O,O,aL⟩) ?_
    (try dsimp only);exact ⟨V,hfn.1,hfn.2.1,hfn.2.2,fun b o h=>EN _ _ (jE _ _ (eH b o h)),fun b o h=>EN _ _ (jE _ _ (hgg b o h))⟩
   intro pX
   try have p36:=dF pX
   have hen:qJ Prod.fst Prod.snd pa[i] pb[k]=0:=aJ fun h=>p36 h.symm;have hfn:=Ie hk1 nZ hf0 (hen ▸ xX);refine kP H (Kc bI (SC (Rm O (Rd O (Ra O ?_)))));clear H bI;intro a H;refine aj ?_;refine bg ((k+1,fl,G)) (by exact H.sub ⟨O,O,O,O,O,O,O,O,aL⟩) ?_
   (try dsimp only);exact ⟨V,hfl,hfn.1,hfn.2,fun b o h=>jE _ _ (eH b o h),fun b o h=>jE _ _ (hgg b o h)⟩
  intro iY a H
  try have p25:=dF iY
  refine dD ?_;refine K9 _ _ ?_;clear K9;have hall:fl=jo Prod.fst Prod.snd pb pa[i]:=Ib hfl (by simp [jo]) fun q hq=>nZ q V;obtain ⟨G3,qM,hg3,H⟩:=H.jd
  have YD:aC G3 (.sl 1 ((jo Prod.fst Prod.snd pb pa[i]).map eZ)) (.slice (some ⟨Ag,0,none⟩) pb.length pb.length):=by
   rw [<- hall];exact aC.mQ (xs:=fl.map vi) hg3 (by rw [bN,hfl]) (bD _) V (iU (by simp [hfl])) (uH _ _)
  have IW:dK G3 1 (((iQ Prod.fst Prod.snd pa pb).take (i+1)).map kS) (cs++[.slice (some ⟨Ag,0,none⟩) pb.length pb.length]):=by
   rw [lZ (by simpa [iQ] using hi1),kC];exact (nG.mono fun b o h=>qM _ _ (hgg b o h)).snoc (by simpa [iQ] using FC YD) O
  refine kP H (SC (Rm O (Rm O ?_)));clear H;intro a H;refine eU fI aW [_] [_] H wn O O O O O (by intro i q h;match i,h with|0,h=>exact h|n+1,h=>simp at h) O O ?_;clear H;intro b51 a w aef H;refine eD (Li:=[_]) (Lo:=Lo) (news:=[.slice (some ⟨Ag,0,none⟩) pb.length pb.length]) fI aW O O H wn O O hrw O (H.hp.dG 0 O O) O V V O ?_;clear H;intro v52 Tp a w YQ H;refine kH H (bS K7 O (SC (Rm O (Rd O (Ra O ?_)))));clear H K7;intro a H;refine aj ?_;refine bg ((i+1,v52,cs++[.slice (some ⟨Ag,0,none⟩) pb.length pb.length],Tp,G3)) (by exact (H.dR (Pl:=[_]) (dx:=[]) [] Y O).sub ⟨O,O,O,O,O,O,aL⟩) ?_
  (try dsimp only);exact ⟨V,YQ,IW,fun b o h=>qM b o (eH b o h)⟩
 intro h16 a H
 try have p16:=dF h16
 refine dD ?_;refine K3 _ _ ?_;clear K3;refine kP H (SR fun _ dw=>Rm O (aB dw O ?_));clear H dw;intro a H;refine aV ?_
 have hie:i=pa.length:=by omega
 obtain ⟨Gr,hmr,hrep,H⟩:=St.ni (Li:=[]) (Lo:=Lo) H hrw (rows:=(iQ Prod.fst Prod.snd pa pb).map kS) (by simp [iQ,hie]) (by rw [iU (by simp [iQ];omega)] at nG;exact nG);refine lv H results11 O ?_;exact H.rt hrep
theorem KM:Ty prog 25 1 24 [.slice none 0 0] false:=⟨Z,Z⟩
theorem KN:Ty prog 26 1 24 [.slice none 0 0] false:=⟨Z,Z⟩
theorem KO:Ty prog 27 1 24 [.slice none 0 0] false:=⟨Z,Z⟩
theorem H8:gQ prog 34 4 4:=⟨Z⟩
theorem H7:gQ prog 31 0 0:=⟨Z⟩
theorem KU:prog.underlying 25=some (.slice 197):=by kernel_rfl
theorem Ay:gQ prog 31 1 1:=⟨Z⟩
theorem HZ:gQ prog 29 2 2:=⟨Z⟩
theorem KV:prog.underlying 26=some (.slice 199):=by kernel_rfl
theorem H6:gQ prog 29 3 3:=⟨Z⟩
theorem KW:prog.underlying 27=some (.slice 201):=by kernel_rfl
theorem Hu:bX 17:=cu func17 O
theorem H9:gQ prog 49 0 0:=⟨Z⟩
theorem Ia:gQ prog 76 1 1:=⟨Z⟩
theorem La (l m:List aS):gZ (l++m)=gZ l+gZ m:=by simp [gZ,FV]
theorem Sg (l m:List bV):kg (l++m)=kg l+kg m:=by simp [kg,FV]
theorem Sb (l m:List dh):jJ (l++m)=jJ l+jJ m:=by simp [jJ,FV]
theorem acS {l:List aS} {k:Nat} (h:k < l.length):gZ (l.take (k+1))=gZ (l.take k)+(1+iC l[k].dat):=by rw [lZ h,La];simp [gZ,jl]
theorem acT {l:List bV} {k:Nat} (h:k < l.length):kg (l.take (k+1))=kg (l.take k)+(1+iC l[k].dat):=by rw [lZ h,Sg];simp [kg,jl]
theorem acR {l:List dh} {k:Nat} (h:k < l.length):jJ (l.take (k+1))=jJ (l.take k)+(1+iC l[k].dat):=by rw [lZ h,Sb];simp [jJ,jl]
theorem Sd (l:List aS) (k:Nat) (h:k<=l.length):gZ (l.take k)+(l.length - k)<=gZ l:=by
 have h1:=La (l.take k) (l.drop k);rw [List.take_append_drop] at h1;have h2:=Lj (l.drop k);rw [List.length_drop] at h2
 omega
theorem Si (l:List bV) (k:Nat):kg (l.take k)<=kg l:=by
 have:=Sg (l.take k) (l.drop k);rw [List.take_append_drop] at this;omega
theorem Sc (l:List dh) (k:Nat):jJ (l.take k)<=jJ l:=by
 have:=Sb (l.take k) (l.drop k);rw [List.take_append_drop] at this;omega
theorem abT (n:Nat):0<=(n:Int).tdiv 20∧(n:Int).tdiv 20<=n:=by
 rw [Int.tdiv_eq_ediv_of_nonneg V];omega
theorem wH {G:GH} {h:lW} {pA dA yA:Option Addr} {pn pc dn dc yn yc:Nat} (hh:rW G h (.slice pA pn pc) (.slice dA dn dc) (.slice yA yn yc)):pn+dn+yn<=vR h:=by
 have O7:=Lh h;have l1:=hh.props.cells.1;have l2:=hh.vB.cells.1;have l3:=hh.layers.cells.1;have m1:=zP (h.props.map tV.dat);have m2:=zP (h.marks.vB.map tF.dat);have m3:=zP (h.marks.layers.map tN.dat)
 omega
def TA (n:Nat):Prop:=∀ (G:GH) (w0:World),Hold G w0->∀ (l:List aS) (v:av),aC G (.sl 11 (l.map aS.dat)) v->gZ l < n ->
 Calls prog 17 #[v] w0 (cO w0 G fun u G'=>∃ w d:Int,u=.tuple #[vi w,vi d]∧0<=w∧w<=gZ l∧0<=d∧d<=gZ l+1)
set_option maxHeartbeats 4000000 in
set_option maxRecDepth 8000 in
theorem Sk:∀ n:Nat,n<=1073741824->TA n
 | 0,_=>fun _ _ _ _ _ _ h=>absurd h V
 | n+1,hn=>by
  intro G w0 hG l v hv hz;have ih:=Sk n V;obtain ⟨A,c,rfl,hc1,hc2,hg⟩:=hv.slice;have hml:maxLen=9223372036854775807:=rfl;have hll:=Lj l;rw [bN] at *;refine eN [(0,_)] func17 O ntmps17 O O hG ?_;intro a H;refine kP H (SR fun _ K1=>Ra O (aB K1 O (SR fun _ K2=>Rm O (Rl jZ O (Ra O (aB K2 O (SQ fun _ K3=>SR fun _ K4=>aB K4 O (SB ?_))))))));clear H K1 K2 K4;intro a H;skip;refine eG (ι:=Nat × Int × Int × GH) (Tc:=[(0,_)]) (Lc:=[]) (fun gh=>[(2,vi gh.2.1),(3,vi gh.2.2.1),(4,vi gh.1)]) (fun gh=>[]) (fun gh=>gh.2.2.2) (fun gh=>gh.1<=l.length∧0<=gh.2.1∧gh.2.1+gh.1<=l.length+gZ (l.take gh.1)∧0<=gh.2.2.1∧gh.2.2.1<=gZ l+1∧(∀ b o,G b=some o->gh.2.2.2 b=some o)) (fun gh=>l.length - gh.1) ((0,l.length,1,G)) (by exact H.sub ⟨O,O,O,O,aL⟩) ?_ ?_
  ·exact ⟨V,(by omega:(0:Int)<=(l.length:Int)),by simp [gZ,jl],(by decide:(0:Int)<=1),(by omega:(1:Int)<=(gZ l:Int)+1),fun _ _ h=>h⟩
  clear H;rintro ⟨i,wt,dp,g⟩ a w hI H;dsimp only at hI H;obtain ⟨hi,hw0,hw1,hd0,hd1,hgm⟩:=hI;have htk:=Sd l i hi;dsimp only [lca,dB] at H;refine kP H (SQ fun _ K5=>SR fun _ K6=>Rm O (Rm O (Rl jZ O (Rc O (Rm O (Sp 18 O ?_ ?_)))))) <;> clear H
  ·intro h18 a H
   try have sQ:=dT h18
   have hi1:i < l.length:=by omega
   obtain ⟨b,o,pA,pn,pc,dA,dn,dc,yA,yn,yc,fA,fn,fc,rA,rn,rc,rfl,hrow,hhd,hfl,hrw⟩:=EG hi1 hg;have r3:aR g b (o+i*11+3)=some (.string l[i].text):=aK hgm (hrow 3 _ O);have r4:aR g b (o+i*11+4+0)=some (.slice pA pn pc):=aK hgm (hrow 4 _ O);have r7:aR g b (o+i*11+4+1+2)=some (.slice dA dn dc):=aK hgm (hrow 7 _ O);have r8:aR g b (o+i*11+4+1+3)=some (.slice yA yn yc):=aK hgm (hrow 8 _ O);have r9:aR g b (o+i*11+9)=some (.slice fA fn fc):=aK hgm (hrow 9 _ O);have Qg:aR g b (o+i*11+10)=some (.slice rA rn rc):=aK hgm (hrow 10 _ O);have q1:=abT l[i].text.size;have hzi:=zW l[i];have hwh:=wH hhd;have hzs:=acS hi1;have Zh:=Sd l (i+1) V;have hzm:=Ll (dV hi1);have hrl:=Gg l[i].rows
   obtain rfl:rn=l[i].rows.length:=by
    obtain ⟨_,_,e,-⟩:=hrw.slice;obtain ⟨-,e2,-⟩:=Value.slice.inj e;rw [e2,bN]
   refine kH H (YM h18 O (YC h18 O (Pt h18 O (Kz K6 (Cd O ?_ ?_))))) <;> clear H K6
   ·intro h21 a H
    try have mD:=dT h21
    refine kP H (Kc K5 (SQ fun _ K7=>SB (SQ fun _ K8=>?_)));clear H K5;intro a H;refine dI gG [[],[],[],[1,2],[1,2,3],ra 1 4,ra 1 5,ra 1 6,ra 0 8,[],[],[9,10],[9,10,11],ra 9 4,ra 9 5,ra 9 6,ra 9 7,ra 0 17,[],[],[18,19],[18,19,20],ra 18 4,ra 18 5,ra 18 6,ra 18 7,ra 0 26,[],[],[27,28],[27,28,29],ra 27 4,ra 27 5,ra 27 6,ra 0 34,ra 0 35] [35] Z [_,_,_,_,_,_,_,_,_,_,_,_,_,_,_,_,_,_,_,_,_,_,_,_,_,_,_,_,_,_,_,_,_,vi ((l[i].text.size:Int).tdiv 20),_] H (aI (Z0 O (Rm O)) (Z0 O (Rm O)) (Z0 O (Rm O)) (Z2 1 25 2 26 O (Ri jZ jq O O)) (aI (Z1 3 27 O (Rf H8 O)) (Z1 4 28 O (Rf H7 O)) (X1 5 29 O fun hG=>Rg KM O (aK hG r4)) (Z1 6 30 O (Rl KU O)) (aI (Z2 0 24 7 31 O (Rd O)) (Z0 O (Rm O)) (Z0 O (Rm O)) (Z2 9 33 10 34 O (Ri jZ jq O O)) (aI (Z1 11 35 O (Rf H8 O)) (Z1 12 36 O (Rf Ay O)) (Z1 13 37 O (Rf HZ O)) (X1 14 38 O fun hG=>Rg KN O (aK hG r7)) (aI (Z1 15 39 O (Rl KV O)) (Z2 8 32 16 40 O (Rd O)) (Z0 O (Rm O)) (Z0 O (Rm O)) (aI (Z2 18 42 19 43 O (Ri jZ jq O O)) (Z1 20 44 O (Rf H8 O)) (Z1 21 45 O (Rf Ay O)) (Z1 22 46 O (Rf H6 O)) (aI (X1 23 47 O fun hG=>Rg KO O (aK hG r8)) (Z1 24 48 O (Rl KW O)) (Z2 17 41 25 49 O (Rd O)) (Z0 O (Rm O)) (aI (Z0 O (Rm O)) (Z2 27 51 28 52 O (Ri jZ jq O O)) (Z1 29 53 O (Rf EC O)) (X1 30 54 O fun hG=>Rg jQ O (aK hG r3)) (aI (Z1 31 55 O (Rv jA O)) ?_ (Z2 26 50 33 57 O (Rd O)) (gB O) fQ))))))))) ?_
    ·refine Eb 32 56 O O fun _ a w G1 hG HT H fin=>?_;refine QG _ H wn O O V O V V O ?_;clear H;intro a H;exact fin H iJ O
    clear H;intro a w G IG H hv;have H:=H.ak (hv 34 58 O O) O;clear hv;refine kH H (Ra O ?_);clear H;intro a H;refine aj ⟨O,?_⟩;refine K8 _ _ ?_;clear K8;refine kP H (SR fun _ K9=>Rm O (Rm O (Ri jZ jq O O (Rf ED O (Rg rT O (aK IG r9) ?_)))));clear H;intro a H;refine s_call Hu H wn O (ih _ _ H.ro l[i].flow _ (hfl.mono fun b o h=>IG _ _ (hgm b o h)) V) O ?_;clear H;rintro v65 G65 a w ⟨w65,d65,rfl,k1,k2,k3,k4⟩ Yk H;refine kH H (Rm O ?_);clear H;intro a H;(iterate 2 refine fZ H wn O O O ?_;clear H;intro a H);refine kH H (Ra O (aB K9 O (SR fun _ aP=>Rm O (Rm O (Rd O (Rm O (Rm O (Rd O ?_))))))));clear H K9;intro a H;refine FJ H wn O O O ?_;clear H;intro a H;refine kH H (Ra O (aB aP O (SR fun _ bH=>aB bH O (SB ?_))));clear H aP bH;intro a H;skip;refine eG (ι:=Nat × Int × Int × GH) (Tc:=[(0,_),(4,_)]) (Lc:=[]) (fun gh=>[(2,vi gh.2.1),(3,vi gh.2.2.1),(7,vi gh.1)]) (fun gh=>[]) (fun gh=>gh.2.2.2) (fun gh=>gh.1<=l[i].rows.length∧0<=gh.2.1∧gh.2.1<=wt+pn+dn+yn+(l[i].text.size:Int).tdiv 20+w65+kg (l[i].rows.take gh.1)∧0<=gh.2.2.1∧gh.2.2.1<=gZ l+1∧(∀ b o,g b=some o->gh.2.2.2 b=some o)) (fun gh=>l[i].rows.length - gh.1) ((0,_,_,_)) (by exact H.sub ⟨O,O,O,O,O,aL⟩) ?_ ?_
    ·exact ⟨V,by dsimp only;omega,by dsimp only;simp [kg,jl],by dsimp only;omega,by dsimp only;omega,fun b o h=>Yk _ _ (IG _ _ h)⟩
    clear H;rintro ⟨j,wj,dj,g2⟩ a w hI H;dsimp only at hI H;obtain ⟨hj,hx0,hx1,hx2,hx3,hgg⟩:=hI;have eH:=fun b o h=>hgg _ _ (hgm b o h);have hrt:=Si l[i].rows j;dsimp only [lca,dB] at H;refine kP H (SQ fun _ bL=>SR fun _ bI=>Rm O (Rm O (Rm O (Ri jZ jq O O (Rf yV O (Rg zU O (aK hgg Qg) (Rl jR O (Rc O (Rm O (Sp 83 O ?_ ?_)))))))))) <;> clear H
    ·intro xW a H
     try have Z6:=dT xW
     have hj1:j < l[i].rows.length:=by omega
     obtain ⟨Qh,rc',e',-,-,hrg⟩:=hrw.slice;obtain ⟨Cv,-,-⟩:=Value.slice.inj e';subst Cv;obtain ⟨b1,o1,cs1,rfl,-,Dg,Df⟩:=hrg j l[i].rows[j].dat (by simp [hj1]);obtain ⟨qA,qn,qc,uA,un,uc,zA,zn,zc,xA,xn,xc,rfl,Ye,hfc⟩:=Df.row;replace Dg:=fun j u hj=>aK eH (Dg j u hj);have hwr:=wH Ye;have hr2:=acT hj1;have aez:=Si l[i].rows (j+1);have hre:=uQ l[i].rows[j];have hrm:=vS (dV hj1)
     obtain rfl:xn=l[i].rows[j].cells.length:=by
      obtain ⟨_,_,e,-⟩:=hfc.slice;obtain ⟨-,e2,-⟩:=Value.slice.inj e;rw [e2,bN]
     have hcl:=Gf l[i].rows[j].cells;refine kH H (YM xW O (YC xW O (Pt xW O (Kz bI (Cd O ?_ ?_))))) <;> clear H bI
     ·intro oU a H
      try have Qa:=dT oU
      refine kP H (Kc bL (SQ fun _ cB=>SB (SR fun _ dw=>Rm O (Rm O (Ri jZ jq O O (Rf yV O (Rg zU O (aK hgg Qg) (Rm O (Ri jR jI O O ?_)))))))));clear H bL;intro a H;refine dX jI (cs:=[_,_,_,_,_,_]) H wn O O (fun j v hj=>H.hp.aR (Dg j v hj)) O ?_;clear H;intro a H;refine kE jI H wn O ?_;clear H;intro b8 a w Oy H;refine eO jI 0 (vs:=[_,_,_,_,_,_]) H wn O ?_;clear H;intro w H;refine dw _ _ ?_;clear dw;refine kP H (SR fun _ dN=>Rm O (Rd O (Rf H9 O (gH H7 KM 0 O O (Rl KU O (Rd O (Rf H9 O (Rf Ay O (gH HZ KN 0 O O (Rl KV O (Rd O (Rf H9 O (Rf Ay O (gH H6 KO 0 O O (Rl KW O (Rd O (aB dN O (SR fun _ eP=>aB eP O (SB ?_)))))))))))))))))));clear H dN eP;intro a H;skip;refine eG (ι:=Nat × Int × Int × GH) (Tc:=[(0,_),(4,_),(7,_),(8,_)]) (Lc:=[(_,_)]) (fun gh=>[(2,vi gh.2.1),(3,vi gh.2.2.1),(9,vi gh.1)]) (fun gh=>[]) (fun gh=>gh.2.2.2) (fun gh=>gh.1<=l[i].rows[j].cells.length∧0<=gh.2.1∧gh.2.1<=wj+1+qn+un+zn+jJ (l[i].rows[j].cells.take gh.1)∧0<=gh.2.2.1∧gh.2.2.1<=gZ l+1∧(∀ b o,g2 b=some o->gh.2.2.2 b=some o)) (fun gh=>l[i].rows[j].cells.length - gh.1) ((0,_,_,_)) (by exact H.sub ⟨O,O,O,O,O,O,O,aL⟩) ?_ ?_
      ·exact ⟨V,by dsimp only;omega,by dsimp only;simp [jJ,jl],by dsimp only;omega,by dsimp only;omega,fun _ _ h=>h⟩
      clear H;rintro ⟨q,wq,dq,g3⟩ a w hI H;dsimp only at hI H;obtain ⟨hq,hy0,hy1,hy2,hy3,EY⟩:=hI;have lT:=fun b o h=>EY _ _ (eH b o h);have hct:=Sc l[i].rows[j].cells q;dsimp only [lca,dB] at H;refine kP H (SQ fun _ fM=>SR fun _ fO=>Rm O (gH nV oF 0 O O (Rl kX O (Rc O (Rm O (Sp 121 O ?_ ?_)))))) <;> clear H
      ·intro xS a H
       try have ZX:=dT xS
       have hq1:q < l[i].rows[j].cells.length:=by omega
       obtain ⟨xA',xc',e3',-,-,hcg⟩:=hfc.slice;obtain ⟨e4',-,-⟩:=Value.slice.inj e3';subst e4';obtain ⟨b2,o2,cs2,rfl,-,hrow2,qj⟩:=hcg q l[i].rows[j].cells[q].dat (by simp [hq1]);obtain ⟨aA,an,ac,eA,en,ec,iA,Dr,ic,fA',fn',fc',rfl,sO,hf2⟩:=qj.cell;replace hrow2:=fun j u hj=>aK lT (hrow2 j u hj);have c1:aR g3 b2 (o2+q*7+1+0)=some (.slice aA an ac):=hrow2 1 _ O;have c4:aR g3 b2 (o2+q*7+1+1+2)=some (.slice eA en ec):=hrow2 4 _ O;have c5:aR g3 b2 (o2+q*7+1+1+3)=some (.slice iA Dr ic):=hrow2 5 _ O;have hwc:=wH sO;have hc2':=acR hq1;have aeo:=Sc l[i].rows[j].cells (q+1);have hce:=uP l[i].rows[j].cells[q];have hcm:=xg (dV hq1);refine kH H (YM xS O (YC xS O (Pt xS O (Kz fO (Cd O ?_ ?_))))) <;> clear H fO
       ·intro Ik a H
        try have ZY:=dT Ik
        refine kP H (Kc fM (SQ fun _ ig=>SB (SR fun _ iq=>gH nV oF 0 O O (Rm O (Ri kX kV O O (Rf Az O (Rg rT O (hrow2 6 _ O) ?_)))))));clear H fM;intro a H;refine s_call Hu H wn O (ih _ _ H.ro l[i].rows[j].cells[q].flow _ (hf2.mono lT) V) O ?_;clear H;rintro aeT ado a w ⟨BJ,Er,rfl,k1,k2,k3,k4⟩ EZ H;refine kH H (Rm O ?_);clear H;intro a H;(iterate 2 refine fZ H wn O O O ?_;clear H;intro a H);refine kH H (Ra O (aB iq O ?_));clear H iq;intro a H;have Zc:=H.get 2 (vi wq) O;have Zd:=H.get 3 (vi dq) O;have H:=H.sub (T':=[(0,_),(4,_),(7,_),(8,_),(9,_),(10,_),(11,_)]) ⟨O,O,O,O,O,O,O,aL⟩;refine Uh (gG) [[],[0],[],[0,1,2],[],[4],[],[4,5,6],ra 4 4,ra 4 5,ra 4 6,ra 4 7,ra 0 12,[],[13],[],[13,14,15],ra 13 4,ra 13 5,ra 13 6,ra 13 7,ra 13 8,ra 0 22,[],[23],[],[23,24,25],ra 23 4,ra 23 5,ra 23 6,ra 23 7,ra 23 8,ra 0 32,[],[],[34],[33,34,35],ra 0 33,ra 0 38] Z ([(2,vi wq,37,false),(3,vi dq,38,false),(137,vi wq,0,true),(138,vi (wq+1),1,true),(139,vi BJ,2,true),(140,vi (wq+1+BJ),3,true),(141,(aH b8 (0+5)),4,true),(142,.slice (some ⟨b2,o2,none⟩) l[i].rows[j].cells.length xc,5,true),(143,vi q,6,true),(144,(aH b2 (o2+q*7)),7,true),(145,(aH b2 (o2+q*7+1)),8,true),(146,(aH b2 (o2+q*7+1+0)),9,true),(147,.slice aA an ac,10,true),(148,vi an,11,true),(149,vi (wq+1+BJ+an),12,true),(150,(aH b8 (0+5)),13,true),(151,.slice (some ⟨b2,o2,none⟩) l[i].rows[j].cells.length xc,14,true),(152,vi q,15,true),(153,(aH b2 (o2+q*7)),16,true),(154,(aH b2 (o2+q*7+1)),17,true),(155,(aH b2 (o2+q*7+1+1)),18,true),(156,(aH b2 (o2+q*7+1+1+2)),19,true),(157,.slice eA en ec,20,true),(158,vi en,21,true),(159,vi (wq+1+BJ+an+en),22,true),(160,(aH b8 (0+5)),23,true),(161,.slice (some ⟨b2,o2,none⟩) l[i].rows[j].cells.length xc,24,true),(162,vi q,25,true),(163,(aH b2 (o2+q*7)),26,true),(164,(aH b2 (o2+q*7+1)),27,true),(165,(aH b2 (o2+q*7+1+1)),28,true),(166,(aH b2 (o2+q*7+1+1+3)),29,true),(167,.slice iA Dr ic,30,true),(168,vi Dr,31,true),(169,vi (wq+1+BJ+an+en+Dr),32,true),(170,vi dq,33,true),(171,vi Er,34,true),(172,vi (Er+1),35,true),(173,vi (max dq (Er+1)),36,true),(2,vi (wq+1+BJ+an+en+Dr),37,true),(3,vi (max dq (Er+1)),38,true)]) H ?_ ?_ ?_
        ·exact .cf Zc (.cf Zd (.ct Z))
        ·clear H;refine aI ?_ ?_ ?_ ?_ (aI ?_ ?_ ?_ ?_ (aI ?_ ?_ ?_ ?_ (aI ?_ ?_ ?_ ?_ (aI ?_ ?_ ?_ ?_ (aI ?_ ?_ ?_ ?_ (aI ?_ ?_ ?_ ?_ (aI ?_ ?_ ?_ ?_ (aI ?_ ?_ ?_ ?_ (iO ?_ (iO ?_ (iO ?_ fQ)))))))))))
         ·intro au a w ah hc hd HT hE;have H:=HT;have H:=H.eT (hE.at 0 O (hd 37 Y Y));have Hb:=H.full;have H:=Hb;clear hc;refine kH H (Rm O ?_);clear H;intro a H;refine aj ⟨O,?_⟩;exact iL 2 O Z (rfl) HT Hb hE H
         ·intro au a w ah hc hd HT hE;have H:=HT;have H:=H.eT (hE.at 2 O (hc 0 Y));have Hb:=H.full;have H:=Hb;clear hc;refine kH H (Rd O ?_);clear H;intro a H;refine aj ⟨O,?_⟩;exact iL 3 O Z (rfl) HT Hb hE H
         ·intro au a w ah hc hd HT hE;have H:=HT;have Hb:=H.full;have H:=Hb;clear hc;refine kH H (Rm O ?_);clear H;intro a H;refine aj ⟨O,?_⟩;exact iL 4 O Z (rfl) HT Hb hE H
         ·intro au a w ah hc hd HT hE;have H:=HT;have H:=H.eT (hE.at 3 O (hc 1 Y));have H:=H.eT (hE.at 4 O (hc 2 Y));have Hb:=H.full;have H:=Hb;clear hc;refine kH H (Rd O ?_);clear H;intro a H;refine aj ⟨O,?_⟩;exact iL 5 O Z (rfl) HT Hb hE H
         ·intro au a w ah hc hd HT hE;have H:=HT;have Hb:=H.full;have H:=Hb;clear hc;refine kH H (Rf nV O ?_);clear H;intro a H;refine aj ⟨O,?_⟩;exact iL 6 O Z (rfl) HT Hb hE H
         ·intro au a w ah hc hd HT hE;have H:=HT;have H:=H.eT (hE.at 6 O (hc 4 Y));have Hb:=H.full;have H:=Hb;clear hc;refine kH H (Ro oF 0 O ?_);clear H;intro a H;refine aj ⟨O,?_⟩;exact iL 7 O Z (rfl) HT Hb hE H
         ·intro au a w ah hc hd HT hE;have H:=HT;have Hb:=H.full;have H:=Hb;clear hc;refine kH H (Rm O ?_);clear H;intro a H;refine aj ⟨O,?_⟩;exact iL 8 O Z (rfl) HT Hb hE H
         ·intro au a w ah hc hd HT hE;have H:=HT;have H:=H.eT (hE.at 7 O (hc 5 Y));have H:=H.eT (hE.at 8 O (hc 6 Y));have Hb:=H.full;have H:=Hb;clear hc;refine kH H (Ri kX kV O O ?_);clear H;intro a H;refine aj ⟨O,?_⟩;exact iL 9 O Z (rfl) HT Hb hE H
         ·intro au a w ah hc hd HT hE;have H:=HT;have H:=H.eT (hE.at 9 O (hc 7 Y));have Hb:=H.full;have H:=Hb;clear hc;refine kH H (Rf Ia O ?_);clear H;intro a H;refine aj ⟨O,?_⟩;exact iL 10 O Z (rfl) HT Hb hE H
         ·intro au a w ah hc hd HT hE;have H:=HT;have H:=H.eT (hE.at 10 O (hc 8 Y));have Hb:=H.full;have H:=Hb;clear hc;refine kH H (Rf H7 O ?_);clear H;intro a H;refine aj ⟨O,?_⟩;exact iL 11 O Z (rfl) HT Hb hE H
         ·intro au a w ah hc hd HT hE;have H:=HT;have H:=H.eT (hE.at 11 O (hc 9 Y));have Hb:=H.full;have H:=Hb;clear hc;refine kH H (Rg KM O (aK EZ c1) ?_);clear H;intro a H;refine aj ⟨O,?_⟩;exact iL 12 O Z (rfl) HT Hb hE H
         ·intro au a w ah hc hd HT hE;have H:=HT;have H:=H.eT (hE.at 12 O (hc 10 Y));have Hb:=H.full;have H:=Hb;clear hc;refine kH H (Rl KU O ?_);clear H;intro a H;refine aj ⟨O,?_⟩;exact iL 13 O Z (rfl) HT Hb hE H
         ·intro au a w ah hc hd HT hE;have H:=HT;have H:=H.eT (hE.at 5 O (hc 3 Y));have H:=H.eT (hE.at 13 O (hc 11 Y));have Hb:=H.full;have H:=Hb;clear hc;refine kH H (Rd O ?_);clear H;intro a H;refine aj ⟨O,?_⟩;exact iL 14 O Z (rfl) HT Hb hE H
         ·intro au a w ah hc hd HT hE;have H:=HT;have Hb:=H.full;have H:=Hb;clear hc;refine kH H (Rf nV O ?_);clear H;intro a H;refine aj ⟨O,?_⟩;exact iL 15 O Z (rfl) HT Hb hE H
         ·intro au a w ah hc hd HT hE;have H:=HT;have H:=H.eT (hE.at 15 O (hc 13 Y));have Hb:=H.full;have H:=Hb;clear hc;refine kH H (Ro oF 0 O ?_);clear H;intro a H;refine aj ⟨O,?_⟩;exact iL 16 O Z (rfl) HT Hb hE H
         ·intro au a w ah hc hd HT hE;have H:=HT;have Hb:=H.full;have H:=Hb;clear hc;refine kH H (Rm O ?_);clear H;intro a H;refine aj ⟨O,?_⟩;exact iL 17 O Z (rfl) HT Hb hE H
         ·intro au a w ah hc hd HT hE;have H:=HT;have H:=H.eT (hE.at 16 O (hc 14 Y));have H:=H.eT (hE.at 17 O (hc 15 Y));have Hb:=H.full;have H:=Hb;clear hc;refine kH H (Ri kX kV O O ?_);clear H;intro a H;refine aj ⟨O,?_⟩;exact iL 18 O Z (rfl) HT Hb hE H
         ·intro au a w ah hc hd HT hE;have H:=HT;have H:=H.eT (hE.at 18 O (hc 16 Y));have Hb:=H.full;have H:=Hb;clear hc;refine kH H (Rf Ia O ?_);clear H;intro a H;refine aj ⟨O,?_⟩;exact iL 19 O Z (rfl) HT Hb hE H
         ·intro au a w ah hc hd HT hE;have H:=HT;have H:=H.eT (hE.at 19 O (hc 17 Y));have Hb:=H.full;have H:=Hb;clear hc;refine kH H (Rf Ay O ?_);clear H;intro a H;refine aj ⟨O,?_⟩;exact iL 20 O Z (rfl) HT Hb hE H
         ·intro au a w ah hc hd HT hE;have H:=HT;have H:=H.eT (hE.at 20 O (hc 18 Y));have Hb:=H.full;have H:=Hb;clear hc;refine kH H (Rf HZ O ?_);clear H;intro a H;refine aj ⟨O,?_⟩;exact iL 21 O Z (rfl) HT Hb hE H
         ·intro au a w ah hc hd HT hE;have H:=HT;have H:=H.eT (hE.at 21 O (hc 19 Y));have Hb:=H.full;have H:=Hb;clear hc;refine kH H (Rg KN O (aK EZ c4) ?_);clear H;intro a H;refine aj ⟨O,?_⟩;exact iL 22 O Z (rfl) HT Hb hE H
         ·intro au a w ah hc hd HT hE;have H:=HT;have H:=H.eT (hE.at 22 O (hc 20 Y));have Hb:=H.full;have H:=Hb;clear hc;refine kH H (Rl KV O ?_);clear H;intro a H;refine aj ⟨O,?_⟩;exact iL 23 O Z (rfl) HT Hb hE H
         ·intro au a w ah hc hd HT hE;have H:=HT;have H:=H.eT (hE.at 14 O (hc 12 Y));have H:=H.eT (hE.at 23 O (hc 21 Y));have Hb:=H.full;have H:=Hb;clear hc;refine kH H (Rd O ?_);clear H;intro a H;refine aj ⟨O,?_⟩;exact iL 24 O Z (rfl) HT Hb hE H
         ·intro au a w ah hc hd HT hE;have H:=HT;have Hb:=H.full;have H:=Hb;clear hc;refine kH H (Rf nV O ?_);clear H;intro a H;refine aj ⟨O,?_⟩;exact iL 25 O Z (rfl) HT Hb hE H
         ·intro au a w ah hc hd HT hE;have H:=HT;have H:=H.eT (hE.at 25 O (hc 23 Y));have Hb:=H.full;have H:=Hb;clear hc;refine kH H (Ro oF 0 O ?_);clear H;intro a H;refine aj ⟨O,?_⟩;exact iL 26 O Z (rfl) HT Hb hE H
         ·intro au a w ah hc hd HT hE;have H:=HT;have Hb:=H.full;have H:=Hb;clear hc;refine kH H (Rm O ?_);clear H;intro a H;refine aj ⟨O,?_⟩;exact iL 27 O Z (rfl) HT Hb hE H
         ·intro au a w ah hc hd HT hE;have H:=HT;have H:=H.eT (hE.at 26 O (hc 24 Y));have H:=H.eT (hE.at 27 O (hc 25 Y));have Hb:=H.full;have H:=Hb;clear hc;refine kH H (Ri kX kV O O ?_);clear H;intro a H;refine aj ⟨O,?_⟩;exact iL 28 O Z (rfl) HT Hb hE H
         ·intro au a w ah hc hd HT hE;have H:=HT;have H:=H.eT (hE.at 28 O (hc 26 Y));have Hb:=H.full;have H:=Hb;clear hc;refine kH H (Rf Ia O ?_);clear H;intro a H;refine aj ⟨O,?_⟩;exact iL 29 O Z (rfl) HT Hb hE H
         ·intro au a w ah hc hd HT hE;have H:=HT;have H:=H.eT (hE.at 29 O (hc 27 Y));have Hb:=H.full;have H:=Hb;clear hc;refine kH H (Rf Ay O ?_);clear H;intro a H;refine aj ⟨O,?_⟩;exact iL 30 O Z (rfl) HT Hb hE H
         ·intro au a w ah hc hd HT hE;have H:=HT;have H:=H.eT (hE.at 30 O (hc 28 Y));have Hb:=H.full;have H:=Hb;clear hc;refine kH H (Rf H6 O ?_);clear H;intro a H;refine aj ⟨O,?_⟩;exact iL 31 O Z (rfl) HT Hb hE H
         ·intro au a w ah hc hd HT hE;have H:=HT;have H:=H.eT (hE.at 31 O (hc 29 Y));have Hb:=H.full;have H:=Hb;clear hc;refine kH H (Rg KO O (aK EZ c5) ?_);clear H;intro a H;refine aj ⟨O,?_⟩;exact iL 32 O Z (rfl) HT Hb hE H
         ·intro au a w ah hc hd HT hE;have H:=HT;have H:=H.eT (hE.at 32 O (hc 30 Y));have Hb:=H.full;have H:=Hb;clear hc;refine kH H (Rl KW O ?_);clear H;intro a H;refine aj ⟨O,?_⟩;exact iL 33 O Z (rfl) HT Hb hE H
         ·intro au a w ah hc hd HT hE;have H:=HT;have H:=H.eT (hE.at 24 O (hc 22 Y));have H:=H.eT (hE.at 33 O (hc 31 Y));have Hb:=H.full;have H:=Hb;clear hc;refine kH H (Rd O ?_);clear H;intro a H;refine aj ⟨O,?_⟩;exact iL 34 O Z (rfl) HT Hb hE H
         ·intro au a w ah hc hd HT hE;have H:=HT;have H:=H.eT (hE.at 1 O (hd 38 Y Y));have Hb:=H.full;have H:=Hb;clear hc;refine kH H (Rm O ?_);clear H;intro a H;refine aj ⟨O,?_⟩;exact iL 35 O Z (rfl) HT Hb hE H
         ·intro au a w ah hc hd HT hE;have H:=HT;have Hb:=H.full;have H:=Hb;clear hc;refine kH H (Rm O ?_);clear H;intro a H;refine aj ⟨O,?_⟩;exact iL 36 O Z (rfl) HT Hb hE H
         ·intro au a w ah hc hd HT hE;have H:=HT;have H:=H.eT (hE.at 36 O (hc 34 Y));have Hb:=H.full;have H:=Hb;clear hc;refine kH H (Rd O ?_);clear H;intro a H;refine aj ⟨O,?_⟩;exact iL 37 O Z (rfl) HT Hb hE H
         ·intro au a w ah hc hd HT hE;have H:=HT;have H:=H.eT (hE.at 35 O (hc 33 Y));have H:=H.eT (hE.at 37 O (hc 35 Y));have Hb:=H.full;have H:=Hb;clear hc;refine FJ H wn O O O ?_;clear H;intro a H;refine aj ⟨O,?_⟩;exact iL 38 O Z (rfl) HT Hb hE H
         ·intro au a w ah hc hd HT hE;have H:=HT;have H:=H.eT (hE.at 34 O (hc 32 Y));have Hb:=H.full;have H:=Hb;clear hc;refine kH H (Ra O ?_);clear H;intro a H;refine aj ⟨O,?_⟩;exact iL 39 O Z (rfl) HT Hb hE H
         intro au a w ah hc hd HT hE;have H:=HT;have H:=H.eT (hE.at 38 O (hc 36 Y));have Hb:=H.full;have H:=Hb;clear hc;refine kH H (Ra O ?_);clear H;intro a H;refine aj ⟨O,?_⟩;exact iL 40 O Z (rfl) HT Hb hE H
        clear H;intro au a w hall H hE;have H:=H.eT (hE.at 39 O (hall 37 Y));have H:=H.eT (hE.at 40 O (hall 38 Y));clear hE hall;skip;refine ig _ _ ?_;clear ig;refine kP H (SC (Rm O (Rd O (Ra O ?_))));clear H;intro a H;refine aj ?_;refine bg ((q+1,_,_,_)) (by exact H.sub ⟨O,O,O,O,O,O,O,aL⟩) ?_
        (try dsimp only);exact ⟨V,V,V,V,V,fun b o h=>EZ _ _ (EY b o h)⟩
       intro Ik a H
       try have ZY:=dF Ik
       refine dD ?_;refine cB _ _ ?_;clear cB;refine kP H (SC (Rm O (Rd O (Ra O ?_))));clear H;intro a H;refine aj ?_;refine bg ((j+1,wq,dq,g3)) (by exact (H.dR (Pl:=[_]) (dx:=[]) [] Y O).sub ⟨O,O,O,O,O,aL⟩) ?_
       (try dsimp only);exact ⟨V,hy0,V,hy2,hy3,fun b o h=>EY _ _ (hgg b o h)⟩
      intro xS a H
      try have ZX:=dF xS
      refine kH H (aO xS O (Pf xS O (Kz fO (Cf O O ?_))));clear H fO;intro a H;refine dD ?_;refine cB _ _ ?_;clear cB;refine kP H (SC (Rm O (Rd O (Ra O ?_))));clear H;intro a H;refine aj ?_;refine bg ((j+1,wq,dq,g3)) (by exact (H.dR (Pl:=[_]) (dx:=[]) [] Y O).sub ⟨O,O,O,O,O,aL⟩) ?_
      (try dsimp only);exact ⟨V,hy0,V,hy2,hy3,fun b o h=>EY _ _ (hgg b o h)⟩
     intro oU a H
     try have Qa:=dF oU
     refine dD ?_;refine K7 _ _ ?_;clear K7;refine kP H (SC (Rm O (Rd O (Ra O ?_))));clear H;intro a H;refine aj ?_;refine bg ((i+1,wj,dj,g2)) (by exact H.sub ⟨O,O,O,O,aL⟩) ?_
     (try dsimp only);exact ⟨V,hx0,V,hx2,hx3,eH⟩
    intro xW a H
    try have Z6:=dF xW
    refine kH H (aO xW O (Pf xW O (Kz bI (Cf O O ?_))));clear H bI;intro a H;refine dD ?_;refine K7 _ _ ?_;clear K7;refine kP H (SC (Rm O (Rd O (Ra O ?_))));clear H;intro a H;refine aj ?_;refine bg ((i+1,wj,dj,g2)) (by exact H.sub ⟨O,O,O,O,aL⟩) ?_
    (try dsimp only);exact ⟨V,hx0,V,hx2,hx3,eH⟩
   intro h21 a H
   try have mD:=dF h21
   refine dD ?_;refine K3 _ _ ?_;clear K3;refine kP H (SR fun _ gM=>Rm O (Rm O (Ra O (aB gM O ?_))));clear H gM;intro a H;refine aV ?_;refine (aY H results17 (.cons (aD H O) (.cons (aD H O) .nil)) ?_).1;exact H.rt ⟨_,_,O,hw0,V,hd0,hd1⟩
  intro h18 a H
  try have sQ:=dF h18
  refine kH H (aO h18 O (Pf h18 O (Kz K6 (Cf O O ?_))));clear H K6;intro a H;refine dD ?_;refine K3 _ _ ?_;clear K3;refine kP H (SR fun _ jC=>Rm O (Rm O (Ra O (aB jC O ?_))));clear H jC;intro a H;refine aV ?_;refine (aY H results17 (.cons (aD H O) (.cons (aD H O) .nil)) ?_).1;exact H.rt ⟨_,_,O,hw0,V,hd0,hd1⟩
theorem ND:bX 25:=cu func25 O
theorem KF {G:GH} {S:List (List Int)} {m i k:Nat} {A:Option Addr} {n c:Nat} (hv:aC G (.sl 1 ((nM S m).map kS)) (.slice A n c)) (hi:i<=S.length) (hk:k<=m) :
  ∃ b o nb no bc,A=some ⟨b,o,none⟩∧aR G b (o+i*1)=some (.slice (some ⟨nb,no,none⟩) (m+1) bc)∧aR G nb (no+k*1)=some (vi (tot (aU S) S.length m i k)):=by
 obtain ⟨b,o,bA,bc,rfl,g1,g2⟩:=wO hv (show i < (nM S m).length by simp [nM];omega)
 have hr:(nM S m)[i]'(by simp [nM];omega)=nL S m i:=by simp [nM]
 obtain ⟨nb,no,rfl,g3⟩:=oZ g2 (show k < ((nM S m)[i]'(by simp [nM];omega)).length by rw [hr];simp [nL];omega);refine ⟨b,o,nb,no,bc,O,?_,?_⟩
 ·rw [g1,show ((nM S m)[i]'(by simp [nM];omega)).length=m+1 by rw [hr];simp [nL]]
 rw [g3];simp [nM,nL]
theorem PE {G:GH}:∀ (B A:List gV) (vs:List av),dK G 3 (A.map gV.dat) vs->dK G 3 ((A++B).map gV.dat) (vs++(B.map fun x=>[vi x.a,vi x.b,vi x.score]).flatten)
 | [],A,vs,h=>by simpa using h
 | x :: B,A,vs,h=>by
  have h2:=h.snoc (PG G x) O;have h3:=PE B (A++[x]) (vs++[vi x.a,vi x.b,vi x.score]) (by simpa using h2)
  simpa using h3
def Bf (l:List gV):List av:=(l.map fun x=>[vi x.a,vi x.b,vi x.score]).flatten
theorem PV (G:GH) (l:List gV):dK G 3 (l.map gV.dat) (Bf l):=by simpa [Bf] using PE (G:=G) l [] [] dK.nil
theorem ZG (l:List gV) (x:gV):Bf (l++[x])=Bf l++[vi x.a,vi x.b,vi x.score]:=by simp [Bf]
set_option maxHeartbeats 2000000 in
theorem ZB (G:GH) (w0:World) (hG:Hold G w0) {S:List (List Int)} {m:Nat} (hs0:0 < S.length) (hS:Aa S m) (hm:(S.headD []).length=m) (v:av) (hv:aC G (.sl 1 (S.map kS)) v) :
  Calls prog 10 #[v] w0 (cO w0 G fun r G'=>aC G' (.sl 3 ((jV (aU S) S.length m 0 0).map gV.dat)) r):=by
 obtain ⟨A,c,rfl,hc1,hc2,-⟩:=hv.slice;have hml:maxLen=9223372036854775807:=rfl;have hln:=hS.len;have htb:∀ i k,0<=tot (aU S) S.length m i k∧tot (aU S) S.length m i k<=1000*((S.length - i:Nat):Int):=fun i k=>Bz (fun i k hi hk=>(hS.ok i k hi hk).2) _ i k (bD _);have XL:=Ch (aU S) S.length m (S.length+m) 0 0 V;rw [bN] at *;refine eN [(0,_)] func10 O ntmps10 O O hG ?_;intro a H;refine kP H (SR fun _ K1=>aB K1 O (SR fun _ K2=>Rm O (Rl fI O (Ra O (aB K2 O (SQ fun _ K3=>SR fun _ K4=>Rm O (Rc O (Kz K4 (Cd O ?_ ?_))))))))) <;> clear H K1 K2 K4
 ·intro h12 a H
  try have vJ:=dT h12
  obtain ⟨b0,o0,bA,bc0,rfl,g10,-⟩:=wO hv hs0;rw [<- XV hs0,hm] at g10;refine kP H (SC (Rm O ?_));clear H;intro a H;refine aT fI aW 0 H wn O O O hs0 O ?_;clear H;intro a H;refine kH H (Rg aW O g10 (Rl bE O (bS K3 O (SR fun _ K5=>Rm O (Rm O (Rm O ?_))))));clear H K3;intro a H;refine s_call ND H wn O (RJ _ _ H.ro hS _ hv) O ?_;clear H;rintro v20 xq a w Ba CP H;obtain ⟨tA,tn,tc,rfl⟩:=Ba.form
  have htn:tn=S.length+1:=by
   obtain ⟨_,_,e,-⟩:=Ba.slice;obtain ⟨-,e2,-⟩:=Value.slice.inj e
   simpa [nM] using e2
  subst htn;refine kH H (aB K5 O (SR fun _ K6=>aB K6 O (SR fun _ K7=>Ra O (aB K7 O (SQ fun _ K8=>SB ?_)))));clear H K5 K6 K7;intro a H;skip;refine eG (ι:=Nat × Nat × List gV × av × OL × GH) (Tc:=[(0,_),(3,_),(4,_),(5,_)]) (Lc:=[]) (fun gh=>[(6,gh.2.2.2.1),(7,vi gh.1),(8,vi gh.2.1)]) (fun gh=>[]++gh.2.2.2.2.1) (fun gh=>gh.2.2.2.2.2) (fun gh=>gh.1<=S.length∧gh.2.1<=m∧bP 62 3 gh.2.2.2.1 gh.2.2.1.length (Bf gh.2.2.1) gh.2.2.2.2.1∧gh.2.2.1++jV (aU S) S.length m gh.1 gh.2.1=jV (aU S) S.length m 0 0∧(∀ b o,xq b=some o->gh.2.2.2.2.2 b=some o)) (fun gh=>(S.length - gh.1)+(m - gh.2.1)) ((0,0,[],.slice none 0 0,[],xq)) (by exact H.sub ⟨O,O,O,O,O,O,O,aL⟩) ?_ ?_
  ·exact ⟨dU _,dU _,bP.nil,O,fun _ _ h=>h⟩
  clear H;rintro ⟨i,k,B,v,Lo,g⟩ a w hI H;dsimp only at hI H;obtain ⟨hi,hk,hrw,heq,hgm⟩:=hI
  have hBl:B.length<=1024:=by have:=jD List.length heq;rw [iK] at this;omega
  dsimp only [lca,dB] at H;refine kP H (SQ fun _ K9=>SR fun _ aP=>Rm O (Rm O (Rc O (Rm O (Sp 24 O ?_ ?_))))) <;> clear H
  ·intro aN a H
   try have fK:=dT aN
   refine kH H (YM aN O (YM aN O (YC aN O (Pt aN O (Kz aP (Cd O ?_ ?_)))))) <;> clear H aP
   ·intro fU a H
    try have p28:=dT fU
    have hi1:i < S.length:=by omega
    have hk1:k < m:=by omega
    obtain ⟨b,o,nb,no,bc,e0,g1,gn⟩:=hS.row ((hv.mono CP).mono hgm) hi1 hk1
    injection e0 with e0;injection e0 with e1 e2;subst e1;subst e2
    obtain ⟨tb,tO,Bt,Bu,Kw,rfl,gt0,Ii⟩:=KF (Ba.mono hgm) (Nat.le_of_lt hi1) (Nat.le_of_lt hk1);obtain ⟨_,_,zQ,zS,FY,e0,EL,Oo⟩:=KF (Ba.mono hgm) (show i+1<=S.length by omega) (Nat.le_of_lt hk1)
    injection e0 with e0;injection e0 with e1 e2;subst e1;subst e2
    obtain ⟨_,_,t2b,t2o,t2c,e0,Om,WY⟩:=KF (Ba.mono hgm) (show i+1<=S.length by omega) (show k+1<=m by omega)
    injection e0 with e0;injection e0 with e1 e2;subst e1;subst e2
    have Ws:zQ=t2b∧zS=t2o∧FY=t2c:=by rw [EL] at Om;simpa [and_assoc] using Om
    obtain ⟨rfl,rfl,rfl⟩:=Ws;have hb0:=htb i k;have hb1:=htb (i+1) k;have hb2:=htb (i+1) (k+1);have hok:=hS.ok i k hi1 hk1;obtain ⟨vA,vc,rfl,Dm,Dn⟩:=hrw.shape;rw [jV,dif_pos ⟨hi1,hk1⟩] at heq;refine mh ?_;refine K9 _ _ ?_;clear K9;(iterate 2 refine xO ?_);refine iF (fun _ bH=>?_)
    by_cases hge:400<=aU S i k
    ·skip;refine dI gG [[],[],[0,1],[0,1,2],[],ra 0 5,ra 0 6,ra 0 7,ra 0 8,ra 0 9,ra 0 9,ra 0 11,ra 0 12,ra 0 9,ra 0 14,ra 0 15,ra 0 9,ra 0 9,(ra 0 9++[17]),(ra 0 9++[16,17,18]),(ra 0 9++ra 16 4),ra 0 9,(ra 0 9++[21]),(ra 0 9++ra 16 7),(ra 0 9++ra 16 8),ra 0 25,ra 0 9,ra 0 9,(ra 0 9++[26,27]),(ra 0 9++[26,27,28]),ra 0 9,(ra 0 9++ra 26 5),(ra 0 9++ra 26 6),ra 0 33,ra 0 34,ra 0 35] [35] Z [.slice (some ⟨b0,o0,none⟩) S.length c,vi i,(aH b0 (o0+i*1)),.slice (some ⟨nb,no,none⟩) m bc,vi k,(aH nb (no+k*1)),vi (aU S i k),.bool (decide (400<=aU S i k)),.bool (decide (400<=aU S i k)),.slice (some ⟨b0,o0,none⟩) S.length c,vi i,(aH b0 (o0+i*1)),.slice (some ⟨nb,no,none⟩) m bc,vi k,(aH nb (no+k*1)),vi (aU S i k),.slice (some ⟨tb,tO,none⟩) (S.length+1) tc,vi i,vi ((i:Int)+1),(aH tb (tO+(i+1)*1)),.slice (some ⟨zQ,zS,none⟩) (m+1) FY,vi k,vi ((k:Int)+1),(aH zQ (zS+(k+1)*1)),vi (tot (aU S) S.length m (i+1) (k+1)),vi (aU S i k+tot (aU S) S.length m (i+1) (k+1)),.slice (some ⟨tb,tO,none⟩) (S.length+1) tc,vi i,(aH tb (tO+i*1)),.slice (some ⟨Bt,Bu,none⟩) (m+1) Kw,vi k,(aH Bt (Bu+k*1)),vi (tot (aU S) S.length m i k),.bool (decide (aU S i k+tot (aU S) S.length m (i+1) (k+1)=tot (aU S) S.length m i k)),.bool (decide (aU S i k+tot (aU S) S.length m (i+1) (k+1)=tot (aU S) S.length m i k))] H (aI ?_ ?_ ?_ ?_ (aI ?_ ?_ ?_ ?_ (aI ?_ ?_ ?_ ?_ (aI ?_ ?_ ?_ ?_ (aI ?_ ?_ ?_ ?_ (aI ?_ ?_ ?_ ?_ (aI ?_ ?_ ?_ ?_ (aI ?_ ?_ ?_ ?_ (aI ?_ ?_ ?_ (gB O) fQ))))))))) ?_
     ·intro au a w G1 _ ah hc hG HT hv;have H:=HT;clear ah;have Hb:=H.full;have H:=Hb;clear hc;refine kH H (Rm O ?_);clear H;intro a H;refine aj ⟨O,?_⟩;exact ay HT Hb hG hv (fun _ _ _ _ _ h=>h) H O
     ·intro au a w G1 _ ah hc hG HT hv;have H:=HT;clear ah;have Hb:=H.full;have H:=Hb;clear hc;refine kH H (Rm O ?_);clear H;intro a H;refine aj ⟨O,?_⟩;exact ay HT Hb hG hv (fun _ _ _ _ _ h=>h) H O
     ·intro au a w G1 _ ah hc hG HT hv;have H:=HT;clear ah;have H:=H.ak (hv 0 32 (hc 0 Y) O) O;have H:=H.ak (hv 1 33 (hc 1 Y) O) O;have Hb:=H.full;have H:=Hb;clear hc;refine aT fI aW i H wn O O O hi1 O ?_;clear H;intro a H;refine aj ⟨O,?_⟩;exact ay HT Hb hG hv (fun _ _ _ _ _ h=>h) H O
     ·intro au a w G1 _ ah hc hG HT hv;have H:=HT;clear ah;have H:=H.ak (hv 2 34 (hc 2 Y) O) O;have Hb:=H.full;have H:=Hb;clear hc;refine kH H (Rg aW O (aK hG g1) ?_);clear H;intro a H;refine aj ⟨O,?_⟩;exact ay HT Hb hG hv (fun _ _ _ _ _ h=>h) H O
     ·intro au a w G1 _ ah hc hG HT hv;have H:=HT;clear ah;have Hb:=H.full;have H:=Hb;clear hc;refine kH H (Rm O ?_);clear H;intro a H;refine aj ⟨O,?_⟩;exact ay HT Hb hG hv (fun _ _ _ _ _ h=>h) H O
     ·intro au a w G1 _ ah hc hG HT hv;have H:=HT;clear ah;have H:=H.ak (hv 3 35 (hc 3 Y) O) O;have H:=H.ak (hv 4 36 (hc 4 Y) O) O;have Hb:=H.full;have H:=Hb;clear hc;refine aT bE aF k H wn O O O hk1 O ?_;clear H;intro a H;refine aj ⟨O,?_⟩;exact ay HT Hb hG hv (fun _ _ _ _ _ h=>h) H O
     ·intro au a w G1 _ ah hc hG HT hv;have H:=HT;clear ah;have H:=H.ak (hv 5 37 (hc 5 Y) O) O;have Hb:=H.full;have H:=Hb;clear hc;refine kH H (Rg aF O (aK hG gn) ?_);clear H;intro a H;refine aj ⟨O,?_⟩;exact ay HT Hb hG hv (fun _ _ _ _ _ h=>h) H O
     ·intro au a w G1 _ ah hc hG HT hv;have H:=HT;clear ah;have H:=H.ak (hv 6 38 (hc 6 Y) O) O;have Hb:=H.full;have H:=Hb;clear hc;refine kH H (Rc O ?_);clear H;intro a H;refine aj ⟨O,?_⟩;exact ay HT Hb hG hv (fun _ _ _ _ _ h=>h) H O
     ·intro au a w G1 _ ah hc hG HT hv;have H:=HT;clear ah;have H:=H.ak (hv 7 39 (hc 7 Y) O) O;have Hb:=H.full;have H:=Hb;clear hc;refine kH H (Rm O ?_);clear H;intro a H;refine aj ⟨O,?_⟩;exact ay HT Hb hG hv (fun _ _ _ _ _ h=>h) H O
     ·intro au a w G1 _ ah hc hG HT hv;have H:=HT;clear ah;have H:=H.ak (hv 8 40 (hc 8 Y) O) O;have Hb:=H.full;have H:=Hb;clear hc;refine kH H (YM (dz hge) O ?_);clear H;intro a H;refine aj ⟨O,?_⟩;exact ay HT Hb hG hv (fun _ _ _ _ _ h=>h) H O
     ·intro au a w G1 _ ah hc hG HT hv;have H:=HT;clear ah;have H:=H.ak (hv 8 40 (hc 8 Y) O) O;have Hb:=H.full;have H:=Hb;clear hc;refine kH H (YM (dz hge) O ?_);clear H;intro a H;refine aj ⟨O,?_⟩;exact ay HT Hb hG hv (fun _ _ _ _ _ h=>h) H O
     ·intro au a w G1 _ ah hc hG HT hv;have H:=HT;clear ah;have H:=H.ak (hv 9 41 (hc 9 Y) O) O;have H:=H.ak (hv 10 42 (hc 10 Y) O) O;have H:=H.ak (hv 8 40 (hc 8 Y) O) O;have Hb:=H.full;have H:=Hb;clear hc;refine aT fI aW i H (wg H O O (dz hge)) O O O hi1 O ?_;clear H;intro a H;refine aj ⟨O,?_⟩;exact ay HT Hb hG hv (fun _ _ _ _ _ h=>h) H O
     ·intro au a w G1 _ ah hc hG HT hv;have H:=HT;clear ah;have H:=H.ak (hv 11 43 (hc 11 Y) O) O;have H:=H.ak (hv 8 40 (hc 8 Y) O) O;have Hb:=H.full;have H:=Hb;clear hc;refine kH H (YR aW (dz hge) O (aK hG g1) ?_);clear H;intro a H;refine aj ⟨O,?_⟩;exact ay HT Hb hG hv (fun _ _ _ _ _ h=>h) H O
     ·intro au a w G1 _ ah hc hG HT hv;have H:=HT;clear ah;have H:=H.ak (hv 8 40 (hc 8 Y) O) O;have Hb:=H.full;have H:=Hb;clear hc;refine kH H (YM (dz hge) O ?_);clear H;intro a H;refine aj ⟨O,?_⟩;exact ay HT Hb hG hv (fun _ _ _ _ _ h=>h) H O
     ·intro au a w G1 _ ah hc hG HT hv;have H:=HT;clear ah;have H:=H.ak (hv 12 44 (hc 12 Y) O) O;have H:=H.ak (hv 13 45 (hc 13 Y) O) O;have H:=H.ak (hv 8 40 (hc 8 Y) O) O;have Hb:=H.full;have H:=Hb;clear hc;refine aT bE aF k H (wg H O O (dz hge)) O O O hk1 O ?_;clear H;intro a H;refine aj ⟨O,?_⟩;exact ay HT Hb hG hv (fun _ _ _ _ _ h=>h) H O
     ·intro au a w G1 _ ah hc hG HT hv;have H:=HT;clear ah;have H:=H.ak (hv 14 46 (hc 14 Y) O) O;have H:=H.ak (hv 8 40 (hc 8 Y) O) O;have Hb:=H.full;have H:=Hb;clear hc;refine kH H (YR aF (dz hge) O (aK hG gn) ?_);clear H;intro a H;refine aj ⟨O,?_⟩;exact ay HT Hb hG hv (fun _ _ _ _ _ h=>h) H O
     ·intro au a w G1 _ ah hc hG HT hv;have H:=HT;clear ah;have H:=H.ak (hv 8 40 (hc 8 Y) O) O;have Hb:=H.full;have H:=Hb;clear hc;refine kH H (YM (dz hge) O ?_);clear H;intro a H;refine aj ⟨O,?_⟩;exact ay HT Hb hG hv (fun _ _ _ _ _ h=>h) H O
     ·intro au a w G1 _ ah hc hG HT hv;have H:=HT;clear ah;have H:=H.ak (hv 8 40 (hc 8 Y) O) O;have Hb:=H.full;have H:=Hb;clear hc;refine kH H (YM (dz hge) O ?_);clear H;intro a H;refine aj ⟨O,?_⟩;exact ay HT Hb hG hv (fun _ _ _ _ _ h=>h) H O
     ·intro au a w G1 _ ah hc hG HT hv;have H:=HT;clear ah;have H:=H.ak (hv 17 49 (hc 17 Y) O) O;have H:=H.ak (hv 8 40 (hc 8 Y) O) O;have Hb:=H.full;have H:=Hb;clear hc;refine nK _ H (wg H O O (dz hge)) O O O V V O ?_;clear H;intro a H;refine aj ⟨O,?_⟩;exact ay HT Hb hG hv (fun _ _ _ _ _ h=>h) H O
     ·intro au a w G1 _ ah hc hG HT hv;have H:=HT;clear ah;have H:=H.ak (hv 16 48 (hc 16 Y) O) O;have H:=H.ak (hv 18 50 (hc 18 Y) O) O;have H:=H.ak (hv 8 40 (hc 8 Y) O) O;have Hb:=H.full;have H:=Hb;clear hc;refine aT fI aW (i+1) H (wg H O O (dz hge)) O O O V O ?_;clear H;intro a H;refine aj ⟨O,?_⟩;exact ay HT Hb hG hv (fun _ _ _ _ _ h=>h) H O
     ·intro au a w G1 _ ah hc hG HT hv;have H:=HT;clear ah;have H:=H.ak (hv 19 51 (hc 19 Y) O) O;have H:=H.ak (hv 8 40 (hc 8 Y) O) O;have Hb:=H.full;have H:=Hb;clear hc;refine kH H (YR aW (dz hge) O (aK hG EL) ?_);clear H;intro a H;refine aj ⟨O,?_⟩;exact ay HT Hb hG hv (fun _ _ _ _ _ h=>h) H O
     ·intro au a w G1 _ ah hc hG HT hv;have H:=HT;clear ah;have H:=H.ak (hv 8 40 (hc 8 Y) O) O;have Hb:=H.full;have H:=Hb;clear hc;refine kH H (YM (dz hge) O ?_);clear H;intro a H;refine aj ⟨O,?_⟩;exact ay HT Hb hG hv (fun _ _ _ _ _ h=>h) H O
     ·intro au a w G1 _ ah hc hG HT hv;have H:=HT;clear ah;have H:=H.ak (hv 21 53 (hc 21 Y) O) O;have H:=H.ak (hv 8 40 (hc 8 Y) O) O;have Hb:=H.full;have H:=Hb;clear hc;refine nK _ H (wg H O O (dz hge)) O O O V V O ?_;clear H;intro a H;refine aj ⟨O,?_⟩;exact ay HT Hb hG hv (fun _ _ _ _ _ h=>h) H O
     ·intro au a w G1 _ ah hc hG HT hv;have H:=HT;clear ah;have H:=H.ak (hv 20 52 (hc 20 Y) O) O;have H:=H.ak (hv 22 54 (hc 22 Y) O) O;have H:=H.ak (hv 8 40 (hc 8 Y) O) O;have Hb:=H.full;have H:=Hb;clear hc;refine aT bE aF (k+1) H (wg H O O (dz hge)) O O O V O ?_;clear H;intro a H;refine aj ⟨O,?_⟩;exact ay HT Hb hG hv (fun _ _ _ _ _ h=>h) H O
     ·intro au a w G1 _ ah hc hG HT hv;have H:=HT;clear ah;have H:=H.ak (hv 23 55 (hc 23 Y) O) O;have H:=H.ak (hv 8 40 (hc 8 Y) O) O;have Hb:=H.full;have H:=Hb;clear hc;refine kH H (YR aF (dz hge) O (aK hG WY) ?_);clear H;intro a H;refine aj ⟨O,?_⟩;exact ay HT Hb hG hv (fun _ _ _ _ _ h=>h) H O
     ·intro au a w G1 _ ah hc hG HT hv;have H:=HT;clear ah;have H:=H.ak (hv 15 47 (hc 15 Y) O) O;have H:=H.ak (hv 24 56 (hc 24 Y) O) O;have H:=H.ak (hv 8 40 (hc 8 Y) O) O;have Hb:=H.full;have H:=Hb;clear hc;refine nK _ H (wg H O O (dz hge)) O O O V V O ?_;clear H;intro a H;refine aj ⟨O,?_⟩;exact ay HT Hb hG hv (fun _ _ _ _ _ h=>h) H O
     ·intro au a w G1 _ ah hc hG HT hv;have H:=HT;clear ah;have H:=H.ak (hv 8 40 (hc 8 Y) O) O;have Hb:=H.full;have H:=Hb;clear hc;refine kH H (YM (dz hge) O ?_);clear H;intro a H;refine aj ⟨O,?_⟩;exact ay HT Hb hG hv (fun _ _ _ _ _ h=>h) H O
     ·intro au a w G1 _ ah hc hG HT hv;have H:=HT;clear ah;have H:=H.ak (hv 8 40 (hc 8 Y) O) O;have Hb:=H.full;have H:=Hb;clear hc;refine kH H (YM (dz hge) O ?_);clear H;intro a H;refine aj ⟨O,?_⟩;exact ay HT Hb hG hv (fun _ _ _ _ _ h=>h) H O
     ·intro au a w G1 _ ah hc hG HT hv;have H:=HT;clear ah;have H:=H.ak (hv 26 58 (hc 26 Y) O) O;have H:=H.ak (hv 27 59 (hc 27 Y) O) O;have H:=H.ak (hv 8 40 (hc 8 Y) O) O;have Hb:=H.full;have H:=Hb;clear hc;refine aT fI aW i H (wg H O O (dz hge)) O O O V O ?_;clear H;intro a H;refine aj ⟨O,?_⟩;exact ay HT Hb hG hv (fun _ _ _ _ _ h=>h) H O
     ·intro au a w G1 _ ah hc hG HT hv;have H:=HT;clear ah;have H:=H.ak (hv 28 60 (hc 28 Y) O) O;have H:=H.ak (hv 8 40 (hc 8 Y) O) O;have Hb:=H.full;have H:=Hb;clear hc;refine kH H (YR aW (dz hge) O (aK hG gt0) ?_);clear H;intro a H;refine aj ⟨O,?_⟩;exact ay HT Hb hG hv (fun _ _ _ _ _ h=>h) H O
     ·intro au a w G1 _ ah hc hG HT hv;have H:=HT;clear ah;have H:=H.ak (hv 8 40 (hc 8 Y) O) O;have Hb:=H.full;have H:=Hb;clear hc;refine kH H (YM (dz hge) O ?_);clear H;intro a H;refine aj ⟨O,?_⟩;exact ay HT Hb hG hv (fun _ _ _ _ _ h=>h) H O
     ·intro au a w G1 _ ah hc hG HT hv;have H:=HT;clear ah;have H:=H.ak (hv 29 61 (hc 29 Y) O) O;have H:=H.ak (hv 30 62 (hc 30 Y) O) O;have H:=H.ak (hv 8 40 (hc 8 Y) O) O;have Hb:=H.full;have H:=Hb;clear hc;refine aT bE aF k H (wg H O O (dz hge)) O O O V O ?_;clear H;intro a H;refine aj ⟨O,?_⟩;exact ay HT Hb hG hv (fun _ _ _ _ _ h=>h) H O
     ·intro au a w G1 _ ah hc hG HT hv;have H:=HT;clear ah;have H:=H.ak (hv 31 63 (hc 31 Y) O) O;have H:=H.ak (hv 8 40 (hc 8 Y) O) O;have Hb:=H.full;have H:=Hb;clear hc;refine kH H (YR aF (dz hge) O (aK hG Ii) ?_);clear H;intro a H;refine aj ⟨O,?_⟩;exact ay HT Hb hG hv (fun _ _ _ _ _ h=>h) H O
     ·intro au a w G1 _ ah hc hG HT hv;have H:=HT;clear ah;have H:=H.ak (hv 25 57 (hc 25 Y) O) O;have H:=H.ak (hv 32 64 (hc 32 Y) O) O;have H:=H.ak (hv 8 40 (hc 8 Y) O) O;have Hb:=H.full;have H:=Hb;clear hc;refine kH H (YC (dz hge) O ?_);clear H;intro a H;refine aj ⟨O,?_⟩;exact ay HT Hb hG hv (fun _ _ _ _ _ h=>h) H O
     ·intro au a w G1 _ ah hc hG HT hv;have H:=HT;clear ah;have H:=H.ak (hv 8 40 (hc 8 Y) O) O;have H:=H.ak (hv 33 65 (hc 33 Y) O) O;have Hb:=H.full;have H:=Hb;clear hc;refine kH H (Pt (dz hge) O ?_);clear H;intro a H;refine aj ⟨O,?_⟩;exact ay HT Hb hG hv (fun _ _ _ _ _ h=>h) H O
     clear H;intro a w G jE H hv;have H:=H.ak (hv 34 66 O O) O;clear hv;refine kH H (Ra O ?_);clear H;intro a H;refine aj ⟨O,?_⟩;refine bH _ _ ?_;clear bH;refine vk H O ?_ ?_
     ·intro h31
      try have p31:=dT h31
      refine kP H (SR fun _ bL=>Rm O (Rm O (Rm O (Rm O (Rm O ?_)))));clear H;intro a H;have g1:=aK jE g1;have gn:=aK jE gn;refine aT fI aW i H wn O O O hi1 O ?_;clear H;intro a H;refine kH H (Rg aW O g1 (Rm O ?_));clear H;intro a H;refine aT bE aF k H wn O O O hk1 O ?_;clear H;intro a H;refine kH H (Rg aF O gn ?_);clear H;intro a H;refine kF Kk [_,_,_] H wn O O O O ?_;clear H;intro a H;refine eU tq vP [_,_,_] [_,_,_] H wn O O O O O (by intro i q h;match i,h with|0,h=>exact h|n+1,h=>simp at h) O O ?_;clear H;intro b78 a w ael H;refine eD (Li:=[_]) (Lo:=Lo) (news:=[vi i,vi k,vi (aU S i k)]) tq vP O O H wn O O hrw O (H.hp.dG 0 O O) O V V O ?_;clear H;intro v79 Tq a w YU H
      have heq2:(B++[⟨(i:Int),(k:Int),aU S i k⟩])++jV (aU S) S.length m (i+1) (k+1)=jV (aU S) S.length m 0 0:=by
       rw [aM (by rw [uN,aX];have:=tY h31;omega)] at heq
       simpa using heq
      refine kH H (aB bL O (SC (Rm O (Rd O (Rm O (Rd O (Ra O (Ra O ?_))))))));clear H bL;intro a H;refine aj ?_;refine bg ((i+1,k+1,B++[⟨(i:Int),(k:Int),aU S i k⟩],v79,Tq,G)) (by exact (H.dR (Pl:=[_]) (dx:=[]) [] Y O).sub ⟨O,O,O,O,O,O,O,aL⟩) ?_
      (try dsimp only);exact ⟨V,V,by rw [iK,ZG];exact YU,heq2,fun b o h=>jE b o (hgm b o h)⟩
     intro h31
     try have p31:=dF h31
     have hnw:¬ tot (aU S) S.length m i k=uN (aU S) S.length m i k:=by
      rw [uN]
      split
      ·omega
      first|(have:=of_decide_eq_false h31;omega)|omega
     rw [aJ hnw] at heq;refine iF (fun _ bI=>?_);refine dI gG [[],[],[1],[0,1,2],ra 0 4,[],ra 0 6,ra 0 7,[],[],[8,9],[8,9,10],[],ra 8 5,ra 8 6,ra 0 15,ra 0 16] [] Z [.slice (some ⟨tb,tO,none⟩) (S.length+1) tc,vi i,vi ((i:Int)+1),(aH tb (tO+(i+1)*1)),.slice (some ⟨zQ,zS,none⟩) (m+1) FY,vi k,(aH zQ (zS+k*1)),vi (tot (aU S) S.length m (i+1) k),.slice (some ⟨tb,tO,none⟩) (S.length+1) tc,vi i,(aH tb (tO+i*1)),.slice (some ⟨Bt,Bu,none⟩) (m+1) Kw,vi k,(aH Bt (Bu+k*1)),vi (tot (aU S) S.length m i k),.bool (decide (tot (aU S) S.length m (i+1) k=tot (aU S) S.length m i k)),.bool (decide (tot (aU S) S.length m (i+1) k=tot (aU S) S.length m i k))] H (aI ?_ ?_ ?_ ?_ (aI ?_ ?_ ?_ ?_ (aI ?_ ?_ ?_ ?_ (aI ?_ ?_ ?_ ?_ (iO ?_ fQ))))) ?_
     ·intro au a w G1 _ ah hc hG HT hv;have H:=HT;clear ah;have Hb:=H.full;have H:=Hb;clear hc;refine kH H (Rm O ?_);clear H;intro a H;refine aj ⟨O,?_⟩;exact ay HT Hb hG hv (fun _ _ _ _ _ h=>h) H O
     ·intro au a w G1 _ ah hc hG HT hv;have H:=HT;clear ah;have Hb:=H.full;have H:=Hb;clear hc;refine kH H (Rm O ?_);clear H;intro a H;refine aj ⟨O,?_⟩;exact ay HT Hb hG hv (fun _ _ _ _ _ h=>h) H O
     ·intro au a w G1 _ ah hc hG HT hv;have H:=HT;clear ah;have H:=H.ak (hv 1 86 (hc 1 Y) O) O;have Hb:=H.full;have H:=Hb;clear hc;refine kH H (Rd O ?_);clear H;intro a H;refine aj ⟨O,?_⟩;exact ay HT Hb hG hv (fun _ _ _ _ _ h=>h) H O
     ·intro au a w G1 _ ah hc hG HT hv;have H:=HT;clear ah;have H:=H.ak (hv 0 85 (hc 0 Y) O) O;have H:=H.ak (hv 2 87 (hc 2 Y) O) O;have Hb:=H.full;have H:=Hb;clear hc;refine aT fI aW (i+1) H wn O O O V O ?_;clear H;intro a H;refine aj ⟨O,?_⟩;exact ay HT Hb hG hv (fun _ _ _ _ _ h=>h) H O
     ·intro au a w G1 _ ah hc hG HT hv;have H:=HT;clear ah;have H:=H.ak (hv 3 88 (hc 3 Y) O) O;have Hb:=H.full;have H:=Hb;clear hc;refine kH H (Rg aW O (aK hG (aK jE EL)) ?_);clear H;intro a H;refine aj ⟨O,?_⟩;exact ay HT Hb hG hv (fun _ _ _ _ _ h=>h) H O
     ·intro au a w G1 _ ah hc hG HT hv;have H:=HT;clear ah;have Hb:=H.full;have H:=Hb;clear hc;refine kH H (Rm O ?_);clear H;intro a H;refine aj ⟨O,?_⟩;exact ay HT Hb hG hv (fun _ _ _ _ _ h=>h) H O
     ·intro au a w G1 _ ah hc hG HT hv;have H:=HT;clear ah;have H:=H.ak (hv 4 89 (hc 4 Y) O) O;have H:=H.ak (hv 5 90 (hc 5 Y) O) O;have Hb:=H.full;have H:=Hb;clear hc;refine aT bE aF k H wn O O O V O ?_;clear H;intro a H;refine aj ⟨O,?_⟩;exact ay HT Hb hG hv (fun _ _ _ _ _ h=>h) H O
     ·intro au a w G1 _ ah hc hG HT hv;have H:=HT;clear ah;have H:=H.ak (hv 6 91 (hc 6 Y) O) O;have Hb:=H.full;have H:=Hb;clear hc;refine kH H (Rg aF O (aK hG (aK jE Oo)) ?_);clear H;intro a H;refine aj ⟨O,?_⟩;exact ay HT Hb hG hv (fun _ _ _ _ _ h=>h) H O
     ·intro au a w G1 _ ah hc hG HT hv;have H:=HT;clear ah;have Hb:=H.full;have H:=Hb;clear hc;refine kH H (Rm O ?_);clear H;intro a H;refine aj ⟨O,?_⟩;exact ay HT Hb hG hv (fun _ _ _ _ _ h=>h) H O
     ·intro au a w G1 _ ah hc hG HT hv;have H:=HT;clear ah;have Hb:=H.full;have H:=Hb;clear hc;refine kH H (Rm O ?_);clear H;intro a H;refine aj ⟨O,?_⟩;exact ay HT Hb hG hv (fun _ _ _ _ _ h=>h) H O
     ·intro au a w G1 _ ah hc hG HT hv;have H:=HT;clear ah;have H:=H.ak (hv 8 93 (hc 8 Y) O) O;have H:=H.ak (hv 9 94 (hc 9 Y) O) O;have Hb:=H.full;have H:=Hb;clear hc;refine aT fI aW i H wn O O O V O ?_;clear H;intro a H;refine aj ⟨O,?_⟩;exact ay HT Hb hG hv (fun _ _ _ _ _ h=>h) H O
     ·intro au a w G1 _ ah hc hG HT hv;have H:=HT;clear ah;have H:=H.ak (hv 10 95 (hc 10 Y) O) O;have Hb:=H.full;have H:=Hb;clear hc;refine kH H (Rg aW O (aK hG (aK jE gt0)) ?_);clear H;intro a H;refine aj ⟨O,?_⟩;exact ay HT Hb hG hv (fun _ _ _ _ _ h=>h) H O
     ·intro au a w G1 _ ah hc hG HT hv;have H:=HT;clear ah;have Hb:=H.full;have H:=Hb;clear hc;refine kH H (Rm O ?_);clear H;intro a H;refine aj ⟨O,?_⟩;exact ay HT Hb hG hv (fun _ _ _ _ _ h=>h) H O
     ·intro au a w G1 _ ah hc hG HT hv;have H:=HT;clear ah;have H:=H.ak (hv 11 96 (hc 11 Y) O) O;have H:=H.ak (hv 12 97 (hc 12 Y) O) O;have Hb:=H.full;have H:=Hb;clear hc;refine aT bE aF k H wn O O O V O ?_;clear H;intro a H;refine aj ⟨O,?_⟩;exact ay HT Hb hG hv (fun _ _ _ _ _ h=>h) H O
     ·intro au a w G1 _ ah hc hG HT hv;have H:=HT;clear ah;have H:=H.ak (hv 13 98 (hc 13 Y) O) O;have Hb:=H.full;have H:=Hb;clear hc;refine kH H (Rg aF O (aK hG (aK jE Ii)) ?_);clear H;intro a H;refine aj ⟨O,?_⟩;exact ay HT Hb hG hv (fun _ _ _ _ _ h=>h) H O
     ·intro au a w G1 _ ah hc hG HT hv;have H:=HT;clear ah;have H:=H.ak (hv 7 92 (hc 7 Y) O) O;have H:=H.ak (hv 14 99 (hc 14 Y) O) O;have Hb:=H.full;have H:=Hb;clear hc;refine kH H (Rc O ?_);clear H;intro a H;refine aj ⟨O,?_⟩;exact ay HT Hb hG hv (fun _ _ _ _ _ h=>h) H O
     ·intro au a w G1 _ ah hc hG HT hv;have H:=HT;clear ah;have H:=H.ak (hv 15 100 (hc 15 Y) O) O;have Hb:=H.full;have H:=Hb;clear hc;refine kH H (Ra O ?_);clear H;intro a H;refine aj ⟨O,?_⟩;exact ay HT Hb hG hv (fun _ _ _ _ _ h=>h) H O
     clear H;intro a w G vE H hv;have H:=H.ak (hv 16 84 O O) O;clear hv;refine aj ⟨O,?_⟩;refine bI _ _ ?_;clear bI;refine vk H O ?_ ?_
     ·intro h84
      try have JO:=dT h84
      refine kP H (SC (Rm O (Rd O (Ra O ?_))));clear H;intro a H;refine aj ?_;refine bg ((i+1,k,B,.slice vA B.length vc,Lo,G)) (by exact H.sub ⟨O,O,O,O,O,O,O,aL⟩) ?_
      (try dsimp only);exact ⟨V,hk,hrw,by rw [aM (by have:=tY h84;omega)] at heq;exact heq,fun b o h=>vE b o (jE b o (hgm b o h))⟩
     intro h84
     try have JO:=dF h84
     refine kP H (SC (Rm O (Rd O (Ra O ?_))));clear H;intro a H;refine aj ?_;refine bg ((i,k+1,B,.slice vA B.length vc,Lo,G)) (by exact H.sub ⟨O,O,O,O,O,O,O,aL⟩) ?_
     (try dsimp only);exact ⟨hi,V,hrw,by rw [aJ (by have:=of_decide_eq_false h84;omega)] at heq;exact heq,fun b o h=>vE b o (jE b o (hgm b o h))⟩
    skip;refine dI gG [[],[],[0,1],[0,1,2],[],ra 0 5,ra 0 6,ra 0 7,ra 0 8,ra 0 9,ra 0 9,ra 0 11,ra 0 12,ra 0 9,ra 0 14,ra 0 15,ra 0 9,ra 0 9,(ra 0 9++[17]),(ra 0 9++[16,17,18]),(ra 0 9++ra 16 4),ra 0 9,(ra 0 9++[21]),(ra 0 9++ra 16 7),(ra 0 9++ra 16 8),ra 0 25,ra 0 9,ra 0 9,(ra 0 9++[26,27]),(ra 0 9++[26,27,28]),ra 0 9,(ra 0 9++ra 26 5),(ra 0 9++ra 26 6),ra 0 33,ra 0 34,ra 0 35] [35] Z [.slice (some ⟨b0,o0,none⟩) S.length c,vi i,(aH b0 (o0+i*1)),.slice (some ⟨nb,no,none⟩) m bc,vi k,(aH nb (no+k*1)),vi (aU S i k),.bool (decide (400<=aU S i k)),.bool (decide (400<=aU S i k)),undef,undef,undef,undef,undef,undef,undef,undef,undef,undef,undef,undef,undef,undef,undef,undef,undef,undef,undef,undef,undef,undef,undef,undef,undef,.bool false] H (aI ?_ ?_ ?_ ?_ (aI ?_ ?_ ?_ ?_ (aI ?_ (gP 8 (fu hge) O O) (gP 8 (fu hge) O O) (gP 8 (fu hge) O O) (aI (gP 8 (fu hge) O O) (gP 8 (fu hge) O O) (gP 8 (fu hge) O O) (gP 8 (fu hge) O O) (aI (gP 8 (fu hge) O O) (gP 8 (fu hge) O O) (gP 8 (fu hge) O O) (gP 8 (fu hge) O O) (aI (gP 8 (fu hge) O O) (gP 8 (fu hge) O O) (gP 8 (fu hge) O O) (gP 8 (fu hge) O O) (aI (gP 8 (fu hge) O O) (gP 8 (fu hge) O O) (gP 8 (fu hge) O O) (gP 8 (fu hge) O O) (aI (gP 8 (fu hge) O O) (gP 8 (fu hge) O O) (gP 8 (fu hge) O O) (gP 8 (fu hge) O O) (aI (gP 8 (fu hge) O O) (gP 8 (fu hge) O O) ?_ (gB O) fQ))))))))) ?_
    ·intro au a w G1 _ ah hc hG HT hv;have H:=HT;clear ah;have Hb:=H.full;have H:=Hb;clear hc;refine kH H (Rm O ?_);clear H;intro a H;refine aj ⟨O,?_⟩;exact ay HT Hb hG hv (fun _ _ _ _ _ h=>h) H O
    ·intro au a w G1 _ ah hc hG HT hv;have H:=HT;clear ah;have Hb:=H.full;have H:=Hb;clear hc;refine kH H (Rm O ?_);clear H;intro a H;refine aj ⟨O,?_⟩;exact ay HT Hb hG hv (fun _ _ _ _ _ h=>h) H O
    ·intro au a w G1 _ ah hc hG HT hv;have H:=HT;clear ah;have H:=H.ak (hv 0 32 (hc 0 Y) O) O;have H:=H.ak (hv 1 33 (hc 1 Y) O) O;have Hb:=H.full;have H:=Hb;clear hc;refine aT fI aW i H wn O O O hi1 O ?_;clear H;intro a H;refine aj ⟨O,?_⟩;exact ay HT Hb hG hv (fun _ _ _ _ _ h=>h) H O
    ·intro au a w G1 _ ah hc hG HT hv;have H:=HT;clear ah;have H:=H.ak (hv 2 34 (hc 2 Y) O) O;have Hb:=H.full;have H:=Hb;clear hc;refine kH H (Rg aW O (aK hG g1) ?_);clear H;intro a H;refine aj ⟨O,?_⟩;exact ay HT Hb hG hv (fun _ _ _ _ _ h=>h) H O
    ·intro au a w G1 _ ah hc hG HT hv;have H:=HT;clear ah;have Hb:=H.full;have H:=Hb;clear hc;refine kH H (Rm O ?_);clear H;intro a H;refine aj ⟨O,?_⟩;exact ay HT Hb hG hv (fun _ _ _ _ _ h=>h) H O
    ·intro au a w G1 _ ah hc hG HT hv;have H:=HT;clear ah;have H:=H.ak (hv 3 35 (hc 3 Y) O) O;have H:=H.ak (hv 4 36 (hc 4 Y) O) O;have Hb:=H.full;have H:=Hb;clear hc;refine aT bE aF k H wn O O O hk1 O ?_;clear H;intro a H;refine aj ⟨O,?_⟩;exact ay HT Hb hG hv (fun _ _ _ _ _ h=>h) H O
    ·intro au a w G1 _ ah hc hG HT hv;have H:=HT;clear ah;have H:=H.ak (hv 5 37 (hc 5 Y) O) O;have Hb:=H.full;have H:=Hb;clear hc;refine kH H (Rg aF O (aK hG gn) ?_);clear H;intro a H;refine aj ⟨O,?_⟩;exact ay HT Hb hG hv (fun _ _ _ _ _ h=>h) H O
    ·intro au a w G1 _ ah hc hG HT hv;have H:=HT;clear ah;have H:=H.ak (hv 6 38 (hc 6 Y) O) O;have Hb:=H.full;have H:=Hb;clear hc;refine kH H (Rc O ?_);clear H;intro a H;refine aj ⟨O,?_⟩;exact ay HT Hb hG hv (fun _ _ _ _ _ h=>h) H O
    ·intro au a w G1 _ ah hc hG HT hv;have H:=HT;clear ah;have H:=H.ak (hv 7 39 (hc 7 Y) O) O;have Hb:=H.full;have H:=Hb;clear hc;refine kH H (Rm O ?_);clear H;intro a H;refine aj ⟨O,?_⟩;exact ay HT Hb hG hv (fun _ _ _ _ _ h=>h) H O
    ·intro au a w G1 _ ah hc hG HT hv;have H:=HT;clear ah;have H:=H.ak (hv 8 40 (hc 8 Y) O) O;have H:=H.ak (hv 33 65 (hc 33 Y) O) O;have Hb:=H.full;have H:=Hb;clear hc;refine kH H (Pf (fu hge) O ?_);clear H;intro a H;refine aj ⟨O,?_⟩;exact ay HT Hb hG hv (fun _ _ _ _ _ h=>h) H O
    clear H;intro a w G jE H hv;have H:=H.ak (hv 34 66 O O) O;clear hv;refine kH H (Ra O ?_);clear H;intro a H;refine aj ⟨O,?_⟩;refine bH _ _ ?_;clear bH;refine sH H O O ?_;refine iF (fun _ cB=>?_);refine dI gG [[],[],[1],[0,1,2],ra 0 4,[],ra 0 6,ra 0 7,[],[],[8,9],[8,9,10],[],ra 8 5,ra 8 6,ra 0 15,ra 0 16] [] Z [.slice (some ⟨tb,tO,none⟩) (S.length+1) tc,vi i,vi ((i:Int)+1),(aH tb (tO+(i+1)*1)),.slice (some ⟨zQ,zS,none⟩) (m+1) FY,vi k,(aH zQ (zS+k*1)),vi (tot (aU S) S.length m (i+1) k),.slice (some ⟨tb,tO,none⟩) (S.length+1) tc,vi i,(aH tb (tO+i*1)),.slice (some ⟨Bt,Bu,none⟩) (m+1) Kw,vi k,(aH Bt (Bu+k*1)),vi (tot (aU S) S.length m i k),.bool (decide (tot (aU S) S.length m (i+1) k=tot (aU S) S.length m i k)),.bool (decide (tot (aU S) S.length m (i+1) k=tot (aU S) S.length m i k))] H (aI ?_ ?_ ?_ ?_ (aI ?_ ?_ ?_ ?_ (aI ?_ ?_ ?_ ?_ (aI ?_ ?_ ?_ ?_ (iO ?_ fQ))))) ?_
    ·intro au a w G1 _ ah hc hG HT hv;have H:=HT;clear ah;have Hb:=H.full;have H:=Hb;clear hc;refine kH H (Rm O ?_);clear H;intro a H;refine aj ⟨O,?_⟩;exact ay HT Hb hG hv (fun _ _ _ _ _ h=>h) H O
    ·intro au a w G1 _ ah hc hG HT hv;have H:=HT;clear ah;have Hb:=H.full;have H:=Hb;clear hc;refine kH H (Rm O ?_);clear H;intro a H;refine aj ⟨O,?_⟩;exact ay HT Hb hG hv (fun _ _ _ _ _ h=>h) H O
    ·intro au a w G1 _ ah hc hG HT hv;have H:=HT;clear ah;have H:=H.ak (hv 1 86 (hc 1 Y) O) O;have Hb:=H.full;have H:=Hb;clear hc;refine kH H (Rd O ?_);clear H;intro a H;refine aj ⟨O,?_⟩;exact ay HT Hb hG hv (fun _ _ _ _ _ h=>h) H O
    ·intro au a w G1 _ ah hc hG HT hv;have H:=HT;clear ah;have H:=H.ak (hv 0 85 (hc 0 Y) O) O;have H:=H.ak (hv 2 87 (hc 2 Y) O) O;have Hb:=H.full;have H:=Hb;clear hc;refine aT fI aW (i+1) H wn O O O V O ?_;clear H;intro a H;refine aj ⟨O,?_⟩;exact ay HT Hb hG hv (fun _ _ _ _ _ h=>h) H O
    ·intro au a w G1 _ ah hc hG HT hv;have H:=HT;clear ah;have H:=H.ak (hv 3 88 (hc 3 Y) O) O;have Hb:=H.full;have H:=Hb;clear hc;refine kH H (Rg aW O (aK hG (aK jE EL)) ?_);clear H;intro a H;refine aj ⟨O,?_⟩;exact ay HT Hb hG hv (fun _ _ _ _ _ h=>h) H O
    ·intro au a w G1 _ ah hc hG HT hv;have H:=HT;clear ah;have Hb:=H.full;have H:=Hb;clear hc;refine kH H (Rm O ?_);clear H;intro a H;refine aj ⟨O,?_⟩;exact ay HT Hb hG hv (fun _ _ _ _ _ h=>h) H O
    ·intro au a w G1 _ ah hc hG HT hv;have H:=HT;clear ah;have H:=H.ak (hv 4 89 (hc 4 Y) O) O;have H:=H.ak (hv 5 90 (hc 5 Y) O) O;have Hb:=H.full;have H:=Hb;clear hc;refine aT bE aF k H wn O O O V O ?_;clear H;intro a H;refine aj ⟨O,?_⟩;exact ay HT Hb hG hv (fun _ _ _ _ _ h=>h) H O
    ·intro au a w G1 _ ah hc hG HT hv;have H:=HT;clear ah;have H:=H.ak (hv 6 91 (hc 6 Y) O) O;have Hb:=H.full;have H:=Hb;clear hc;refine kH H (Rg aF O (aK hG (aK jE Oo)) ?_);clear H;intro a H;refine aj ⟨O,?_⟩;exact ay HT Hb hG hv (fun _ _ _ _ _ h=>h) H O
    ·intro au a w G1 _ ah hc hG HT hv;have H:=HT;clear ah;have Hb:=H.full;have H:=Hb;clear hc;refine kH H (Rm O ?_);clear H;intro a H;refine aj ⟨O,?_⟩;exact ay HT Hb hG hv (fun _ _ _ _ _ h=>h) H O
    ·intro au a w G1 _ ah hc hG HT hv;have H:=HT;clear ah;have Hb:=H.full;have H:=Hb;clear hc;refine kH H (Rm O ?_);clear H;intro a H;refine aj ⟨O,?_⟩;exact ay HT Hb hG hv (fun _ _ _ _ _ h=>h) H O
    ·intro au a w G1 _ ah hc hG HT hv;have H:=HT;clear ah;have H:=H.ak (hv 8 93 (hc 8 Y) O) O;have H:=H.ak (hv 9 94 (hc 9 Y) O) O;have Hb:=H.full;have H:=Hb;clear hc;refine aT fI aW i H wn O O O V O ?_;clear H;intro a H;refine aj ⟨O,?_⟩;exact ay HT Hb hG hv (fun _ _ _ _ _ h=>h) H O
    ·intro au a w G1 _ ah hc hG HT hv;have H:=HT;clear ah;have H:=H.ak (hv 10 95 (hc 10 Y) O) O;have Hb:=H.full;have H:=Hb;clear hc;refine kH H (Rg aW O (aK hG (aK jE gt0)) ?_);clear H;intro a H;refine aj ⟨O,?_⟩;exact ay HT Hb hG hv (fun _ _ _ _ _ h=>h) H O
    ·intro au a w G1 _ ah hc hG HT hv;have H:=HT;clear ah;have Hb:=H.full;have H:=Hb;clear hc;refine kH H (Rm O ?_);clear H;intro a H;refine aj ⟨O,?_⟩;exact ay HT Hb hG hv (fun _ _ _ _ _ h=>h) H O
    ·intro au a w G1 _ ah hc hG HT hv;have H:=HT;clear ah;have H:=H.ak (hv 11 96 (hc 11 Y) O) O;have H:=H.ak (hv 12 97 (hc 12 Y) O) O;have Hb:=H.full;have H:=Hb;clear hc;refine aT bE aF k H wn O O O V O ?_;clear H;intro a H;refine aj ⟨O,?_⟩;exact ay HT Hb hG hv (fun _ _ _ _ _ h=>h) H O
    ·intro au a w G1 _ ah hc hG HT hv;have H:=HT;clear ah;have H:=H.ak (hv 13 98 (hc 13 Y) O) O;have Hb:=H.full;have H:=Hb;clear hc;refine kH H (Rg aF O (aK hG (aK jE Ii)) ?_);clear H;intro a H;refine aj ⟨O,?_⟩;exact ay HT Hb hG hv (fun _ _ _ _ _ h=>h) H O
    ·intro au a w G1 _ ah hc hG HT hv;have H:=HT;clear ah;have H:=H.ak (hv 7 92 (hc 7 Y) O) O;have H:=H.ak (hv 14 99 (hc 14 Y) O) O;have Hb:=H.full;have H:=Hb;clear hc;refine kH H (Rc O ?_);clear H;intro a H;refine aj ⟨O,?_⟩;exact ay HT Hb hG hv (fun _ _ _ _ _ h=>h) H O
    ·intro au a w G1 _ ah hc hG HT hv;have H:=HT;clear ah;have H:=H.ak (hv 15 100 (hc 15 Y) O) O;have Hb:=H.full;have H:=Hb;clear hc;refine kH H (Ra O ?_);clear H;intro a H;refine aj ⟨O,?_⟩;exact ay HT Hb hG hv (fun _ _ _ _ _ h=>h) H O
    clear H;intro a w G vE H hv;have H:=H.ak (hv 16 84 O O) O;clear hv;refine aj ⟨O,?_⟩;refine cB _ _ ?_;clear cB;refine vk H O ?_ ?_
    ·intro h84
     try have JO:=dT h84
     refine kP H (SC (Rm O (Rd O (Ra O ?_))));clear H;intro a H;refine aj ?_;refine bg ((i+1,k,B,.slice vA B.length vc,Lo,G)) (by exact H.sub ⟨O,O,O,O,O,O,O,aL⟩) ?_
     (try dsimp only);exact ⟨V,hk,hrw,by rw [aJ (show ¬ tot (aU S) S.length m i k=uN (aU S) S.length m i k by rw [uN,dJ];omega)] at heq;rw [aM (by have:=tY h84;omega)] at heq;exact heq,fun b o h=>vE b o (jE b o (hgm b o h))⟩
    intro h84
    try have JO:=dF h84
    refine kP H (SC (Rm O (Rd O (Ra O ?_))));clear H;intro a H;refine aj ?_;refine bg ((i,k+1,B,.slice vA B.length vc,Lo,G)) (by exact H.sub ⟨O,O,O,O,O,O,O,aL⟩) ?_
    (try dsimp only);exact ⟨hi,V,hrw,by rw [aJ (show ¬ tot (aU S) S.length m i k=uN (aU S) S.length m i k by rw [uN,dJ];omega)] at heq;rw [aJ (by have:=of_decide_eq_false h84;omega)] at heq;exact heq,fun b o h=>vE b o (jE b o (hgm b o h))⟩
   intro fU a H
   try have p28:=dF fU
   refine dD ?_;refine K8 _ _ ?_;clear K8;refine kP H (SR fun _ dw=>Rm O (aB dw O ?_));clear H dw;intro a H;refine aV ?_
   have hend:jV (aU S) S.length m i k=[]:=by rw [jV,dif_neg V]
   rw [hend,mg] at heq;obtain ⟨Gr,hmr,hrep,H⟩:=St.ni (Li:=[]) (Lo:=Lo) H hrw (rows:=B.map gV.dat) (by simp) (PV _ _);rw [heq] at hrep;refine lv H results10 O ?_;exact H.rt hrep
  intro aN a H
  try have fK:=dF aN
  refine kH H (aQ aN O (Pf aN O (Kz aP (Cf O O ?_))));clear H aP;intro a H;refine dD ?_;refine K8 _ _ ?_;clear K8;refine kP H (SR fun _ dN=>Rm O (aB dN O ?_));clear H dN;intro a H;refine aV ?_
  have hend:jV (aU S) S.length m i k=[]:=by rw [jV,dif_neg V]
  rw [hend,mg] at heq;obtain ⟨Gr,hmr,hrep,H⟩:=St.ni (Li:=[]) (Lo:=Lo) H hrw (rows:=B.map gV.dat) (by simp) (PV _ _);rw [heq] at hrep;refine lv H results10 O ?_;exact H.rt hrep
 intro h12 a H
 try have vJ:=dF h12
 exact absurd vJ V
theorem ZA (G:GH) (w0:World) (hG:Hold G w0) (v:av) (hv:aC G (.sl 1 (([]:List (List Int)).map kS)) v) :
  Calls prog 10 #[v] w0 (cO w0 G fun r G'=>aC G' (.sl 3 ((jV (aU []) 0 0 0 0).map gV.dat)) r):=by
 obtain ⟨A,c,rfl,hc1,hc2,-⟩:=hv.slice;refine eN [(0,_)] func10 O ntmps10 O O hG ?_;intro a H;refine kP H (SR fun _ K1=>aB K1 O (SR fun _ K2=>Rm O (Rl fI O (Ra O (aB K2 O (SQ fun _ K3=>SR fun _ K4=>Rm O (Rc O (Kz K4 (Cd O ?_ ?_))))))))) <;> clear H K1 K2 K4
 ·intro h12 a H
  try have vJ:=dT h12
  exact absurd vJ Y
 intro h12 a H
 try have vJ:=dF h12
 refine kP H (Kc K3 (SR fun _ K5=>Rm O (Rm O (Rm O ?_))));clear H K3;intro a H;refine s_call ND H wn O (RJ _ _ H.ro (S:=[]) (m:=0) ⟨(fun _ h=>by cases h),Y,(fun i k hi=>absurd hi (Nat.not_lt_zero _))⟩ _ hv) O ?_;clear H;rintro v20 xq a w Ba CP H;refine kH H (aB K5 O (SR fun _ K6=>aB K6 O (SR fun _ K7=>Ra O (aB K7 O (SQ fun _ K8=>SB ?_)))));clear H K5 K6 K7;intro a H;skip;refine eG (ι:=GH) (Tc:=[(0,_),(3,_),(4,_),(5,_)]) (Lc:=[]) (fun gh=>[(6,.slice none 0 0),(7,vi 0),(8,vi 0)]) (fun gh=>[]) (fun gh=>xq) (fun gh=>True) (fun gh=>0) (xq) (by exact H.sub ⟨O,O,O,O,O,O,O,aL⟩) ?_ ?_
 ·trivial
 clear H;intro g a w hI H;skip;dsimp only [lca,dB] at H;refine kP H (SQ fun _ K9=>SR fun _ aP=>Rm O (Rm O (Rc O (Rm O (Sp 24 O ?_ ?_))))) <;> clear H
 ·intro aN a H
  try have fK:=dT aN
  exact absurd fK Y
 intro aN a H
 try have fK:=dF aN
 refine kH H (aQ aN O (Pf aN O (Kz aP (Cf O O ?_))));clear H aP;intro a H;refine dD ?_;refine K8 _ _ ?_;clear K8;exact kP H (SR fun _ bH=>Rm O (aB bH O (LR results10 O fun H=>H.rt (by rw [jV,dif_neg V];exact aC.kR O Y))))
theorem PK (G:GH) (w0:World) (hG:Hold G w0) {S:List (List Int)} {m:Nat} (hS:Aa S m) (hm:(S.headD []).length=m) (v:av) (hv:aC G (.sl 1 (S.map kS)) v) :
  Calls prog 10 #[v] w0 (cO w0 G fun r G'=>aC G' (.sl 3 ((jV (aU S) S.length m 0 0).map gV.dat)) r):=by
 cases S with
 | nil=>subst hm;exact ZA G w0 hG v hv
 | cons r S=>exact ZB G w0 hG (by simp) hS hm v hv

theorem KY:prog.underlying 63=some (.slice 32):=by kernel_rfl
theorem Vi:bX 19:=cu func19 O
theorem Vn:bX 28:=cu func28 O
def AB (l:List aS):List Dat:=[.sl 11 (l.map aS.dat)]
theorem WQ {G:GH} {l:List aS} {cs:List av} (h:aZ G (AB l) cs):∃ v,cs=[v]∧aC G (.sl 11 (l.map aS.dat)) v:=by
 simp only [AB,aZ] at h
 obtain ⟨v1,_,rfl,h1,rfl⟩:=h;exact ⟨v1,O,h1⟩
theorem N9 {G:GH} {l:List aS} {v:av} (h:aC G (.sl 11 (l.map aS.dat)) v):aZ G (AB l) [v]:=by
 simp only [AB,aZ];exact ⟨_,_,O,h,O⟩
set_option maxHeartbeats 1000000 in
theorem abz (G:GH) (w0:World) (hG:Hold G w0) (fs:List (List aS)) (v:av) (hv:aC G (.sl 1 (fs.map AB)) v) (hz:∀ l∈fs,gZ l<=1073741823) (hl:fs.length<=1000) :
  Calls prog 5 #[v] w0 (cO w0 G fun u G'=>∃ b,u=.bool b):=by
 obtain ⟨A,c,rfl,hc1,hc2,hg⟩:=hv.slice;rw [bN] at *;refine eN [(0,_)] func5 O ntmps5 O O hG ?_;intro a H;refine kP H (SR fun _ K1=>aB K1 O (SQ fun _ K2=>SR fun _ K3=>aB K3 O (SB ?_)));clear H K1 K3;intro a H;skip;refine eG (ι:=Nat × GH) (Tc:=[(0,_)]) (Lc:=[]) (fun gh=>[(3,vi gh.1)]) (fun gh=>[]) (fun gh=>gh.2) (fun gh=>gh.1<=fs.length∧(∀ b o,G b=some o->gh.2 b=some o)) (fun gh=>fs.length - gh.1) ((0,G)) (by exact H.sub ⟨O,O,aL⟩) ?_ ?_
 ·exact ⟨dU _,fun _ _ h=>h⟩
 clear H;rintro ⟨k,g⟩ a w hI H;dsimp only at hI H;obtain ⟨hk,hgm⟩:=hI;dsimp only [lca,dB] at H;refine kP H (SQ fun _ K4=>SR fun _ K5=>Rm O (Rm O (Rl KY O (Rc O (Kz K5 (Cd O ?_ ?_)))))) <;> clear H K5
 ·intro h9 a H
  try have p9:=dT h9
  have hk2:k < fs.length:=by omega
  obtain ⟨b,o,cs,rfl,-,hrow,hrep⟩:=hg k (AB fs[k]) (by simp [hk2]);obtain ⟨v,rfl,YE⟩:=WQ hrep;replace hrow:=fun j u hj=>aK hgm (hrow j u hj);refine kP H (Kc K4 (SQ fun _ K6=>SB (SR fun _ K7=>Rm O (Rm O (Ri KY rT O O (Rg rT O (by have h:=hrow 0 _ O;exact h) ?_))))));clear H K4;intro a H;refine s_call Hu H wn O (Sk 1073741824 (bD _) _ _ H.ro fs[k] _ (YE.mono hgm) (by have:=hz _ (dV hk2);omega)) rfl ?_;clear H;rintro v17 SG a w ⟨w17,d17,rfl,k1,k2,k3,k4⟩ AX H;refine kH H (Rm O ?_);clear H;intro a H;(iterate 2 refine fZ H wn O O O ?_;clear H;intro a H);refine kH H (Ra O (aB K7 O (SR fun _ K8=>Rm O (Rc O (Rm O (Sp 22 O ?_ ?_)))))) <;> clear H K7
  ·intro h22 a H
   exact kH H (aO h22 O (Pt h22 O (Kz K8 (Ct O O (SR fun _ K9=>aB K9 O (LR results5 O fun H=>H.rt ⟨_,O⟩))))))
  intro h22 a H
  try have mR:=dF h22
  refine kH H (YM h22 O (YC h22 O (Pf h22 O (Kz K8 (Cd O ?_ ?_))))) <;> clear H K8
  ·intro iY a H
   exact kP H (SR fun _ aP=>aB aP O (LR results5 O fun H=>H.rt ⟨_,O⟩))
  intro iY a H
  try have p25:=dF iY
  refine kP H (Kc K6 (SC (Rm O (Rd O (Ra O ?_)))));clear H K6;intro a H;refine aj ?_;refine bg ((k+1,_)) (by exact H.sub ⟨O,O,aL⟩) ?_
  (try dsimp only);exact ⟨V,fun b o h=>AX b o (hgm b o h)⟩
 intro h9 a H
 refine dD ?_;refine K2 _ _ ?_;clear K2;exact kP H (SR fun _ bH=>aB bH O (LR results5 O fun H=>H.rt ⟨_,O⟩))
theorem TQ {Gt:GH} (G:GH) (w0:World) (hG:Hold G w0) (h0:∀ b o,Gt b=some o->G b=some o) (la lb:List bV) (va vb:av) (hva:aC G (.sl 6 (la.map bV.dat)) va) (hvb:aC G (.sl 6 (lb.map bV.dat)) vb) (hza:kg la<=1073741824) (hzb:kg lb<=1073741824)
  (hoa:kL la=true->kL lb=true->(∀ x∈la,jr Gt (fT (iH x.cells)))∧∀ x∈lb,jr Gt (fT (iH x.cells))) (hla:la.length<=1024) (hlb:lb.length<=1024) :
  Calls prog 6 #[va,vb] w0 (cO w0 G fun u G'=>∃ x,u=.tuple #[x,vi (if kL la=true∧kL lb=true then 0 else 12)]∧aC G' (.sl 3 ((if kL la=true∧kL lb=true then jU (iQ (fun _=>0) (fun x=>fT (iH x.cells)) la lb) else []).map gV.dat)) x):=by
 obtain ⟨A,n,c,rfl⟩:=hva.form;obtain ⟨B,m,d,rfl⟩:=hvb.form;refine eN [(0,_),(1,_)] func6 O ntmps6 O O hG ?_;intro a H;refine kP H (SR fun _ K1=>Ra O (aB K1 O (SQ fun _ K2=>SR fun _ K3=>Rm O ?_)));clear H K1;intro a H;refine s_call Hw H wn O (Ho (Cu 4294967297 (bD _)) _ _ H.ro la _ hva V) O ?_;clear H;rintro v7 G7 a w rfl vG H;refine kH H (Rn O (Rm O (Sp 9 O ?_ ?_))) <;> clear H
 ·intro h9 a H
  try have p9:=dT h9
  refine kH H (aQ h9 O (Pt h9 O (Kz K3 (Ct O O (SR fun _ K4=>Ra O (aB K4 O ?_))))));clear H K3 K4;intro a H;refine aV ?_;refine (aY H results6 (.cons (aD H O) (.cons (aD H O) .nil)) ?_).1
  first
  | exact H.rt ⟨_,by rw [aM ⟨hda,hdb⟩],by rw [aM ⟨hda,hdb⟩];exact hx16⟩
  | exact H.rt ⟨_,by rw [aJ (by simp_all)],by rw [aJ (by simp_all)];exact aC.kR O Y⟩
 intro h9 a H
 try have p9:=dF h9
 refine kH H (YM h9 O ?_);clear H;intro a H;refine s_call Hw H (wg H O O h9) O (Ho (Cu 4294967297 (bD _)) _ _ H.ro lb _ (hvb.mono vG) V) O ?_;clear H;rintro v11 BL a w rfl rH H;refine kH H (YN h9 O (Pf h9 O (Kz K3 (Cd O ?_ ?_)))) <;> clear H K3
 ·intro jM a H
  try have sP:=dT jM
  refine kP H (SR fun _ K5=>Ra O (aB K5 O ?_));clear H K5;intro a H;refine aV ?_;refine (aY H results6 (.cons (aD H O) (.cons (aD H O) .nil)) ?_).1
  first
  | exact H.rt ⟨_,by rw [aM ⟨hda,hdb⟩],by rw [aM ⟨hda,hdb⟩];exact hx16⟩
  | exact H.rt ⟨_,by rw [aJ (by simp_all)],by rw [aJ (by simp_all)];exact aC.kR O Y⟩
 intro jM a H
 try have sP:=dF jM
 refine kP H (Kc K2 (SR fun _ K6=>Rm O (Rm O ?_)));clear H K2;intro a H
 have hda:kL la=true:=by simpa using h9
 have hdb:kL lb=true:=by simpa using jM
 obtain ⟨Jl,Jm⟩:=hoa hda hdb;refine s_call Vi H wn O (Zy _ _ H.ro (fun b o h=>rH _ _ (vG _ _ (h0 b o h))) (fun _=>0) (fun x=>fT (iH x.cells)) la lb _ _ _ ((hva.mono vG).mono rH) ((hvb.mono vG).mono rH) (fun x hx=>Qp x (by have:=vS hx;omega)) (fun x hx=>Qp x (by have:=vS hx;omega)) Jl Jm hla hlb) rfl ?_;clear H;rintro v16 Gs a w ⟨x16,rfl,hx16⟩ E8 H;obtain ⟨xA,xn,xc,rfl⟩:=hx16.form;(iterate 2 refine fZ H wn O O O ?_;clear H;intro a H);refine kH H (Ra O (aB K6 O ?_));clear H K6;intro a H;refine aV ?_;refine (aY H results6 (.cons (aD H O) (.cons (aD H O) .nil)) ?_).1
 first
 | exact H.rt ⟨_,by rw [aM ⟨hda,hdb⟩],by rw [aM ⟨hda,hdb⟩];exact hx16⟩
 | exact H.rt ⟨_,by rw [aJ (by simp_all)],by rw [aJ (by simp_all)];exact aC.kR O Y⟩
theorem TP {Gt:GH} (G:GH) (w0:World) (hG:Hold G w0) (h0:∀ b o,Gt b=some o->G b=some o) (la lb:List dh) (va vb:av) (hva:aC G (.sl 7 (la.map dh.dat)) va) (hvb:aC G (.sl 7 (lb.map dh.dat)) vb) (hza:jJ la<=1073741824) (hzb:jJ lb<=1073741824)
  (hoa:mK la=true->mK lb=true->(∀ x∈la,jr Gt (fT (gY x.flow)))∧∀ x∈lb,jr Gt (fT (gY x.flow))) (hla:la.length<=1024) (hlb:lb.length<=1024) :
  Calls prog 12 #[va,vb] w0 (cO w0 G fun u G'=>∃ x,u=.tuple #[x,vi (if mK la=true∧mK lb=true then 0 else 12)]∧aC G' (.sl 3 ((if mK la=true∧mK lb=true then jU (iQ (fun _=>0) (fun x=>fT (gY x.flow)) la lb) else []).map gV.dat)) x):=by
 obtain ⟨A,n,c,rfl⟩:=hva.form;obtain ⟨B,m,d,rfl⟩:=hvb.form;refine eN [(0,_),(1,_)] func12 O ntmps12 O O hG ?_;intro a H;refine kP H (SR fun _ K1=>Ra O (aB K1 O (SQ fun _ K2=>SR fun _ K3=>Rm O ?_)));clear H K1;intro a H;refine s_call Hy H wn O (Hl (Cu 4294967297 (bD _)) _ _ H.ro la _ hva V) O ?_;clear H;rintro v7 G7 a w rfl vG H;refine kH H (Rn O (Rm O (Sp 9 O ?_ ?_))) <;> clear H
 ·intro h9 a H
  try have p9:=dT h9
  refine kH H (aQ h9 O (Pt h9 O (Kz K3 (Ct O O (SR fun _ K4=>Ra O (aB K4 O ?_))))));clear H K3 K4;intro a H;refine aV ?_;refine (aY H results12 (.cons (aD H O) (.cons (aD H O) .nil)) ?_).1
  first
  | exact H.rt ⟨_,by rw [aM ⟨hda,hdb⟩],by rw [aM ⟨hda,hdb⟩];exact hx16⟩
  | exact H.rt ⟨_,by rw [aJ (by simp_all)],by rw [aJ (by simp_all)];exact aC.kR O Y⟩
 intro h9 a H
 try have p9:=dF h9
 refine kH H (YM h9 O ?_);clear H;intro a H;refine s_call Hy H (wg H O O h9) O (Hl (Cu 4294967297 (bD _)) _ _ H.ro lb _ (hvb.mono vG) V) O ?_;clear H;rintro v11 BL a w rfl rH H;refine kH H (YN h9 O (Pf h9 O (Kz K3 (Cd O ?_ ?_)))) <;> clear H K3
 ·intro jM a H
  try have sP:=dT jM
  refine kP H (SR fun _ K5=>Ra O (aB K5 O ?_));clear H K5;intro a H;refine aV ?_;refine (aY H results12 (.cons (aD H O) (.cons (aD H O) .nil)) ?_).1
  first
  | exact H.rt ⟨_,by rw [aM ⟨hda,hdb⟩],by rw [aM ⟨hda,hdb⟩];exact hx16⟩
  | exact H.rt ⟨_,by rw [aJ (by simp_all)],by rw [aJ (by simp_all)];exact aC.kR O Y⟩
 intro jM a H
 try have sP:=dF jM
 refine kP H (Kc K2 (SR fun _ K6=>Rm O (Rm O ?_)));clear H K2;intro a H
 have hda:mK la=true:=by simpa using h9
 have hdb:mK lb=true:=by simpa using jM
 obtain ⟨Jl,Jm⟩:=hoa hda hdb;refine s_call Vn H wn O (Zx _ _ H.ro (fun b o h=>rH _ _ (vG _ _ (h0 b o h))) (fun _=>0) (fun x=>fT (gY x.flow)) la lb _ _ _ ((hva.mono vG).mono rH) ((hvb.mono vG).mono rH) (fun x hx=>MN x (by have:=xg hx;omega)) (fun x hx=>MN x (by have:=xg hx;omega)) Jl Jm hla hlb) rfl ?_;clear H;rintro v16 Gs a w ⟨x16,rfl,hx16⟩ E8 H;obtain ⟨xA,xn,xc,rfl⟩:=hx16.form;(iterate 2 refine fZ H wn O O O ?_;clear H;intro a H);refine kH H (Ra O (aB K6 O ?_));clear H K6;intro a H;refine aV ?_;refine (aY H results12 (.cons (aD H O) (.cons (aD H O) .nil)) ?_).1
 first
 | exact H.rt ⟨_,by rw [aM ⟨hda,hdb⟩],by rw [aM ⟨hda,hdb⟩];exact hx16⟩
 | exact H.rt ⟨_,by rw [aJ (by simp_all)],by rw [aJ (by simp_all)];exact aC.kR O Y⟩
theorem VI:bX 5:=cu func5 O
theorem VU:bX 6:=cu func6 O
theorem Nw:bX 11:=cu func11 O
theorem Nv:bX 10:=cu func10 O
theorem NW:bX 9:=cu func9 O
theorem Vh:bX 12:=cu func12 O
theorem Ny:bX 13:=cu func13 O
theorem Et:bX 4:=cu func4 O
theorem FP:qX prog 34 [(0,1),(1,1),(2,1),(3,1),(4,5),(9,1),(10,1)] [.int .i64 0,.int .i64 0,.int .i64 0,.string ⟨#[]⟩,.slice none 0 0,.int .i64 0,.int .i64 0,.slice none 0 0,.slice none 0 0,.slice none 0 0,.slice none 0 0]:=⟨Z,Z⟩
theorem NU:bX 8:=cu func8 O
def nu (l:List bV):aS:=.mk 0 0 0 ⟨#[]⟩ ⟨[],⟨0,0,[],[]⟩⟩ [] l
def uF (v:av):List av:=[vi 0,vi 0,vi 0,.string ⟨#[]⟩,.slice none 0 0,vi 0,vi 0,.slice none 0 0,.slice none 0 0,.slice none 0 0,v]
theorem JD {G:GH} {l:List bV} {v:av} (h:aC G (.sl 6 (l.map bV.dat)) v):aZ G (nu l).dat (uF v) :=
 aZ.mkItem (x:=nu l) ⟨aC.kR O Y,aC.kR O Y,aC.kR O Y⟩ (aC.kR O Y) h
theorem O9 {G:GH} {l:List bV} {v:av} {b:Nat} {t:TypeId} (hb:G b=some (.cells ([uF v].flatten.toArray) t (0,0))) (h:aC G (.sl 6 (l.map bV.dat)) v):aC G (.sl 11 ([nu l].map aS.dat)) (.slice (some ⟨b,0,none⟩) 1 1) :=
 aC.mQ (xs:=[uF v].flatten) hb O (bD _) Y O (by simpa using (dK.nil (sz:=11)).snoc (JD h) O)
theorem Zl {G:GH} {la lb:List bV} {v u:av} {b:Nat} {t:TypeId} (hb:G b=some (.cells ([uF v,uF u].flatten.toArray) t (0,0))) (h:aC G (.sl 6 (la.map bV.dat)) v) (h2:aC G (.sl 6 (lb.map bV.dat)) u):aC G (.sl 11 ([nu la,nu lb].map aS.dat)) (.slice (some ⟨b,0,none⟩) 2 2) :=
 aC.mQ (xs:=[uF v,uF u].flatten) hb O (bD _) Y O (by simpa using ((dK.nil (sz:=11)).snoc (JD h) O).snoc (JD h2) O)
theorem Fh (l:List bV):gZ [nu l]=kg l+12:=by
 have:=zW (nu l);have h2:=Lh (nu l).head
 simp only [nu,aS.head,aS.text,aS.flow,aS.rows,ru,jl] at this h2
 simp only [gZ,iT,ru,jl] at *
 have h3:(⟨#[]⟩:ByteArray).size=0:=rfl
 simp only [nu]
 omega
theorem Zk (la lb:List bV):lN [nu la,nu lb]=(kL la && kL lb):=by
 simp [lN,yT,nu]
theorem QV {α:Type} (κ:α->Int) (φ:α->ByteArray) (la lb:List α):iQ Prod.fst Prod.snd (la.map fun x=>(κ x,φ x)) (lb.map fun x=>(κ x,φ x))=iQ κ φ la lb:=by
 simp [iQ,jo,qJ,Function.comp_def]
theorem Mt {S:List (List Int)} (h:mZ S=0):jV (aU S) S.length (S.headD []).length 0 0=jU S:=by rw [jU,aM h]
theorem Gj {G:GH} {b n:Nat} {t:TypeId} (hb:G b=some (.cells (List.replicate n (Value.int .i64 0)).toArray t (0,0))) (hn:n<=1073741824):aC G (.sl 1 ((List.replicate n (0:Int)).map eZ)) (.slice (some ⟨b,0,none⟩) n n):=by
 have hml:maxLen=9223372036854775807:=rfl;rw [show List.replicate n (Value.int .i64 0)=(List.replicate n (0:Int)).map vi from List.map_replicate.symm] at hb;exact aC.mQ (xs:=(List.replicate n (0:Int)).map vi) hb (by simp) (bD _) V (iU (by simp)) (uH _ _)
theorem FD {Gt:GH} (hT:vW Gt) {l:List bV} (hz:kg l<=67108864) (h:kL l=true):∀ x∈l,jr Gt (fT (iH x.cells)):=fun x hx=>by
 rw [wz,gq] at h;have h1:=h x hx;rw [xQ] at h1;have h2:=vS hx;have h3:=uQ x;have h4:=Fz x.cells;exact QY hT (by rw [tZ];omega) (Qn h1)
theorem MR {Gt:GH} (hT:vW Gt) {l:List dh} (hz:jJ l<=67108864) (h:mK l=true):∀ x∈l,jr Gt (fT (gY x.flow)):=fun x hx=>by
 rw [Ar,gq] at h;have h1:=h x hx;rw [Aq] at h1;have h2:=xg hx;have h3:=uP x;have h4:=DR x.flow;exact QY hT (by rw [tZ];omega) (KJ (Hq h1)).1
theorem MQ {l:List bV} (h:kL l=true) {x:bV} (hx:x∈l):mK x.cells=true:=by
 rw [wz,gq] at h;have h1:=h x hx
 rwa [xQ] at h1
theorem Gh {α β:Type} (f:α->β) (l:List α):(l.map fun x=>((0:Int),f x)).map Prod.fst=List.replicate l.length 0:=by
 induction l with
 | nil=>rfl
 | cons x l ih=>simp only [iT,kI,List.replicate_succ,ih]
theorem FR {α:Type} (f:α->ByteArray) (l:List α):(l.map fun x=>((0:Int),f x)).map Prod.snd=l.map f:=by simp [Function.comp_def]
theorem Fx {α:Type} {Gt:GH} {f:α->ByteArray} {l:List α} (h:∀ x∈l,jr Gt (f x)):∀ x∈l.map (fun x=>((0:Int),f x)),jr Gt x.2:=fun x hx=>by
 obtain ⟨y,hy,rfl⟩:=List.mem_map.1 hx;exact h y hy
set_option maxHeartbeats 4000000 in
theorem Ua (G:GH) (w0:World) (hG:Hold G w0) (hT:vW G) (la lb:List bV) (va vb:av) (hva:aC G (.sl 6 (la.map bV.dat)) va) (hvb:aC G (.sl 6 (lb.map bV.dat)) vb) (hza:kg la<=67108864) (hzb:kg lb<=67108864) :
  Calls prog 3 #[va,vb] w0 (cO w0 G fun u G'=>u=.bool true):=by
 obtain ⟨A,c,rfl,hc1,hc2,hga⟩:=hva.slice;obtain ⟨B,d,rfl,hd1,hd2,hgb⟩:=hvb.slice;have hml:maxLen=9223372036854775807:=rfl;(iterate 2 rw [bN] at *);refine eN [(0,_),(1,_)] func3 O ntmps3 O O hG ?_;intro a H;refine kP H (SR fun _ K1=>aB K1 O (SQ fun _ K2=>SR fun _ K3=>?_));clear H K1;intro a H;refine s_call Et H wn O (Fj _ _ H.ro) O ?_;clear H;rintro v13 Gp a w rfl yh H;refine kH H (Rn O (Rm O (Sp 15 O ?_ ?_))) <;> clear H
 ·intro jX a H
  exact absurd jX Y
 intro jX a H
 try have qo:=dF jX
 refine kH H (YM jX O (YL jR jX O (YC jX O (Pf jX O (Rm O (Sp 20 O ?_ ?_)))))) <;> clear H
 ·intro h20 a H
  refine kH H (aQ h20 O (Pt h20 O (Rm O (aQ O O (aQ O O (aQ O O (Pt O O (Kz K3 (Ct O O (SR fun _ K4=>?_))))))))));clear H K3;intro a H;refine s_call Et H wn O (Fj _ _ H.ro) O ?_;clear H;rintro v36 D7 a w rfl E9 H;exact kH H (aB K4 O (LR results3 O fun H=>H.rt O))
 intro h20 a H
 try have pq:=dF h20
 refine kH H (YM h20 O (YL jR h20 O (YC h20 O (Pf h20 O (Rm O (Sp 25 O ?_ ?_)))))) <;> clear H
 ·intro iY a H
  refine kH H (aQ iY O (aQ iY O (aQ iY O (Pt iY O (Kz K3 (Ct O O (SR fun _ K5=>?_)))))));clear H K3;intro a H;refine s_call Et H wn O (Fj _ _ H.ro) O ?_;clear H;rintro v36 D7 a w rfl E9 H;exact kH H (aB K5 O (LR results3 O fun H=>H.rt O))
 intro iY a H
 try have p25:=dF iY
 refine kH H (YM iY O ?_);clear H;intro a H;refine kF FP [_,_,_,_,_,_,_,_,_,_,_] H (wg H O O iY) O O O O ?_;clear H;intro a H;refine zK jZ jq [uF (.slice A la.length c)] H (wg H O O iY) O O O O O O O ?_;clear H;intro TK a w adX H;refine kH H (YM iY O ?_);clear H;intro a H;refine kF FP [_,_,_,_,_,_,_,_,_,_,_] H (wg H O O iY) O O O O ?_;clear H;intro a H;refine zK jZ jq [uF (.slice B lb.length d)] H (wg H O O iY) O O O O O O O ?_;clear H;intro TL a w adZ H;refine zK KY rT [[.slice (some ⟨TK,0,none⟩) 1 1],[.slice (some ⟨TL,0,none⟩) 1 1]] H (wg H O O iY) O O O O O O O ?_;clear H;intro b32 a w aea H;obtain ⟨Ga,hma,Yb,H⟩:=H.jd;obtain ⟨Gb,hmb,Yc,H⟩:=H.jd;obtain ⟨Gc,hmc,Yd,H⟩:=H.jd;have Yy:=O9 Yd (((hva.mono yh).mono hma).mono fun b o h=>hmc _ _ (hmb b o h));have Yz:=O9 (hmc _ _ Yc) (((hvb.mono yh).mono hma).mono fun b o h=>hmc _ _ (hmb b o h))
 refine s_call VI H (wg H O O iY) O (abz _ _ H.ro [[nu la],[nu lb]] _ (aC.mQ (xs:=[_,_]) (hmc _ _ (hmb _ _ Yb)) O (bD _) Y O (by simpa using ((dK.nil (sz:=1)).snoc (N9 Yy) O).snoc (N9 Yz) O)) (fun l hl=>by
  rcases oL.1 hl with rfl|hl
  ·rw [Fh];omega
  rw [vY.1 hl,Fh];omega) (by simp)) O ?_;clear H
 rintro v33 SK a w ⟨b33,rfl⟩ Yi H;refine kH H (YN iY O (Pf iY O (Kz K3 (Cd O ?_ ?_)))) <;> clear H K3
 ·intro nW a H
  refine jL (fun _ K6=>?_);refine s_call Et H wn O (Fj _ _ H.ro) O ?_;clear H;rintro v36 D7 a w rfl E9 H;exact kH H (aB K6 O (LR results3 O fun H=>H.rt O))
 intro nW a H
 try have p35:=dF nW
 refine kP H (Kc K2 (SR fun _ K7=>Rm O (Rm O ?_)));clear H K2;intro a H
 have hl1:la.length<=12:=by omega
 have hl2:lb.length<=12:=by omega
 have AU:∀ b o,G b=some o->SK b=some o:=fun b o h=>Yi _ _ (hmc _ _ (hmb _ _ (hma _ _ (yh _ _ h))));refine s_call VU H wn O (TQ _ _ H.ro AU la lb _ _ (hva.mono AU) (hvb.mono AU) V V (fun h1 h2=>⟨FD hT hza h1,FD hT hzb h2⟩) V V) O ?_;clear H;rintro v40 G40 a w ⟨x40,rfl,Bd⟩ Jd H;obtain ⟨xA,xn,xc,rfl⟩:=Bd.form;refine kH H (Rm O ?_);clear H;intro a H;(iterate 2 refine fZ H wn O O O ?_;clear H;intro a H);refine kH H (Ra O (aB K7 O (SQ fun _ K8=>SR fun _ K9=>Rm O ?_)));clear H K7;intro a H;refine kF FP [_,_,_,_,_,_,_,_,_,_,_] H wn O O O O ?_;clear H;intro a H;refine kH H (Rm O ?_);clear H;intro a H;refine kF FP [_,_,_,_,_,_,_,_,_,_,_] H wn O O O O ?_;clear H;intro a H;refine zK jZ jq [uF (.slice A la.length c),uF (.slice B lb.length d)] H wn O O O O O O O ?_;clear H;intro b47 a w aee H;obtain ⟨SN,Fa,X8,H⟩:=H.jd;refine s_call Eu H wn O (ZC _ _ H.ro [nu la,nu lb] _ (Zl X8 (((hva.mono AU).mono Jd).mono Fa) (((hvb.mono AU).mono Jd).mono Fa)) (by have h1:=Fh la;have h2:=Fh lb;have h3:=La [nu la] [nu lb];simp only [nQ,xJ] at h3;omega)) rfl ?_;clear H;rintro v48 SS a w rfl OI H;rw [Zk] at H;refine kH H (Rn O (Kz K9 (Cd O ?_ ?_))) <;> clear H K9
 ·intro iy a H
  have hnd:¬ (kL la=true∧kL lb=true):=fun hh=>by rw [hh.1,hh.2] at iy;exact absurd iy Y
  rw [aJ hnd] at H Bd
  have hxn:xn=0:=by
   obtain ⟨_,_,e,-⟩:=Bd.slice;obtain ⟨-,e2,-⟩:=Value.slice.inj e
   simpa using e2
  subst hxn;refine kP H (SR fun _ aP=>Rm O (Rc O (Rm O (Sp 52 O ?_ ?_)))) <;> clear H
  ·intro bW a H
   exact kH H (YM bW O (YL tq bW O (YC bW O (Pt bW O (aB aP O (LR results3 O fun H=>H.rt O))))))
  intro bW a H
  exact absurd bW Y
 intro iy a H
 try have p49:=dF iy
 have Dq:kL la=true∧kL lb=true:=by simpa using iy
 rw [aM Dq] at H Bd;have ZT:=FD hT hza Dq.1;have okB:=FD hT hzb Dq.2;obtain ⟨M,hM⟩:∃ M,M=iQ (fun _=>0) (fun x:bV=>fT (iH x.cells)) la lb:=⟨_,O⟩
 have OE:mZ M=0:=by rw [hM];exact FL _ _ V V
 rw [<- hM] at Bd;have I5:∀ b o,G b=some o->SS b=some o:=fun b o h=>OI _ _ (Fa _ _ (Jd _ _ (AU b o h)));refine kP H (Kc K8 (SR fun _ bH=>Rm O ?_));clear H K8;intro a H;refine s_call NU H wn O (Qm _ _ H.ro la _ (hva.mono I5) V) O ?_;clear H;rintro v58 G58 a w Di Jf H;obtain ⟨pA,pc,rfl,-,-,-⟩:=Di.slice
 simp only [bN] at H Di
 refine kH H (Rm O ?_);clear H;intro a H;refine s_call NU H wn O (Qm _ _ H.ro lb _ ((hvb.mono I5).mono Jf) V) O ?_;clear H;rintro v60 S9 a w Jv Jg H;obtain ⟨qA,qc,rfl,-,-,-⟩:=Jv.slice
 simp only [bN] at H Jv
 replace Di:=Di.mono Jg;have OA:∀ b o,G b=some o->S9 b=some o:=fun b o h=>Jg _ _ (Jf _ _ (I5 b o h));have Ze:=(((Bd.mono Fa).mono OI).mono Jf).mono Jg;refine kH H (Ra O (aB bH O (SQ fun _ bL=>SQ fun _ bI=>?_)));clear H bH;intro a H
 have nH:Ea (fun (jg:Nat) (v:av) (G:GH)=>match jg with|0=>v=vi 0|1=>v=.bool false|2=>v=.bool false|3=>v=.slice xA xn xc|4=>v=.slice pA la.length pc|5=>v=.slice qA lb.length qc|6=>v=.slice pA la.length pc|7=>v=vi la.length|8=>aC G (.sl 1 ((List.replicate la.length (0:Int)).map eZ)) v|9=>v=.slice qA lb.length qc|10=>v=vi lb.length|11=>aC G (.sl 1 ((List.replicate lb.length (0:Int)).map eZ)) v|12=>aC G (.sl 1 (M.map kS)) v|13=>aC G (.sl 3 ((jU M).map gV.dat)) v|14=>v=.bool true|15=>v=.bool false|16=>v=.bool false|_=>True):=by intro jg v G G' hm h;(iterate 17 (rcases jg with _|jg;(first|exact h|exact aC.mono hm h)));exact trivial
 refine Ck (gG) [[],[0],[0,1],[0,1,2],[0,1,2],[0,1,2],[0,1,2],[0,1,2,6],[0,1,2,6,7],[0,1,2],[0,1,2,9],[0,1,2,9,10],([0,1,2]++ra 4 8),([0,1,2]++ra 4 9),ra 0 14,ra 0 15,ra 0 16] [] Z Z _ nH H ?_ ?_
 ·clear H;refine aI ?_ ?_ ?_ ?_ (aI ?_ ?_ ?_ ?_ (aI ?_ ?_ ?_ ?_ (aI ?_ ?_ ?_ ?_ (iO ?_ fQ))))
  ·intro au a w G1 _ ah hc hG HT hv;have H:=HT;clear ah;have Hb:=H.full;have H:=Hb;clear hc;refine kH H (Rm O ?_);clear H;intro a H;refine aj ⟨O,?_⟩;exact ay HT Hb hG hv nH H O
  ·intro au a w G1 _ ah hc hG HT hv;have H:=HT;clear ah;have H:=H.ak (hv 0 61 (hc 0 Y) O) O;have Hb:=H.full;have H:=Hb;clear hc;refine kH H (Rc O ?_);clear H;intro a H;refine aj ⟨O,?_⟩;exact ay HT Hb hG hv nH H O
  ·intro au a w G1 _ ah hc hG HT hv;have H:=HT;clear ah;have H:=H.ak (hv 1 62 (hc 1 Y) O) O;have Hb:=H.full;have H:=Hb;clear hc;refine kH H (Rm O ?_);clear H;intro a H;refine aj ⟨O,?_⟩;exact ay HT Hb hG hv nH H O
  ·intro au a w G1 _ ah hc hG HT hv;have H:=HT;clear ah;have H:=H.ak (hv 2 63 (hc 2 Y) O) O;have Hb:=H.full;have H:=Hb;clear hc;refine lH H (wg H O O O) O O ?_;clear H;intro a H;refine aj ⟨O,?_⟩;exact ay HT Hb hG hv nH H O
  ·intro au a w G1 _ ah hc hG HT hv;have H:=HT;clear ah;have H:=H.ak (hv 2 63 (hc 2 Y) O) O;have Hb:=H.full;have H:=Hb;clear hc;refine lH H (wg H O O O) O O ?_;clear H;intro a H;refine aj ⟨O,?_⟩;exact ay HT Hb hG hv nH H O
  ·intro au a w G1 _ ah hc hG HT hv;have H:=HT;clear ah;have H:=H.ak (hv 2 63 (hc 2 Y) O) O;have Hb:=H.full;have H:=Hb;clear hc;refine lH H (wg H O O O) O O ?_;clear H;intro a H;refine aj ⟨O,?_⟩;exact ay HT Hb hG hv nH H O
  ·intro au a w G1 _ ah hc hG HT hv;have H:=HT;clear ah;have H:=H.ak (hv 2 63 (hc 2 Y) O) O;have Hb:=H.full;have H:=Hb;clear hc;refine lH H (wg H O O O) O O ?_;clear H;intro a H;refine aj ⟨O,?_⟩;exact ay HT Hb hG hv nH H O
  ·intro au a w G1 _ ah hc hG HT hv;have H:=HT;clear ah;have H:=H.ak (hv 6 67 (hc 6 Y) O) O;have H:=H.ak (hv 2 63 (hc 2 Y) O) O;have Hb:=H.full;have H:=Hb;clear hc;refine wT kW H (wg H O O O) O O ?_;clear H;intro a H;refine aj ⟨O,?_⟩;exact ay HT Hb hG hv nH H O
  ·intro au a w G1 _ ah hc hG HT hv;have H:=HT;clear ah;have H:=H.ak (hv 7 68 (hc 7 Y) O) O;have H:=H.ak (hv 2 63 (hc 2 Y) O) O;have Hb:=H.full;have H:=Hb;clear hc;refine oq la.length bE aF H (wg H O O O) O O O V V O ?_;clear H;intro b69 a w aeh H;obtain ⟨G69,Xp,X9,H⟩:=H.jd;have C8:=Gj X9 V;refine aj ⟨O,?_⟩;exact jw Z nH O O HT Hb hG hv Xp (C8) H
  ·intro au a w G1 _ ah hc hG HT hv;have H:=HT;clear ah;have H:=H.ak (hv 2 63 (hc 2 Y) O) O;have Hb:=H.full;have H:=Hb;clear hc;refine lH H (wg H O O O) O O ?_;clear H;intro a H;refine aj ⟨O,?_⟩;exact ay HT Hb hG hv nH H O
  ·intro au a w G1 _ ah hc hG HT hv;have H:=HT;clear ah;have H:=H.ak (hv 9 70 (hc 9 Y) O) O;have H:=H.ak (hv 2 63 (hc 2 Y) O) O;have Hb:=H.full;have H:=Hb;clear hc;refine wT kW H (wg H O O O) O O ?_;clear H;intro a H;refine aj ⟨O,?_⟩;exact ay HT Hb hG hv nH H O
  ·intro au a w G1 _ ah hc hG HT hv;have H:=HT;clear ah;have H:=H.ak (hv 10 71 (hc 10 Y) O) O;have H:=H.ak (hv 2 63 (hc 2 Y) O) O;have Hb:=H.full;have H:=Hb;clear hc;refine oq lb.length bE aF H (wg H O O O) O O O V V O ?_;clear H;intro b72 a w aej H;obtain ⟨G72,Xr,Ya,H⟩:=H.jd;have C9:=Gj Ya V;refine aj ⟨O,?_⟩;exact jw Z nH O O HT Hb hG hv Xr (C9) H
  ·intro au a w G1 _ ah hc hG HT hv;have H:=HT;clear ah;have H:=H.ak (hv 4 65 (hc 4 Y) O) O;have H:=H.ak (hv 5 66 (hc 5 Y) O) O;obtain ⟨u69,Y4,C8⟩:=hv 8 69 (hc 8 Y) O;(try dsimp only at C8);obtain ⟨A69,n69,c69,rfl⟩:=C8.form;have H:=H.eT Y4;obtain ⟨u72,Y5,C9⟩:=hv 11 72 (hc 11 Y) O;(try dsimp only at C9);obtain ⟨A72,n72,c72,rfl⟩:=C9.form;have H:=H.eT Y5;have H:=H.ak (hv 2 63 (hc 2 Y) O) O;have Hb:=H.full;have H:=Hb;clear hc;refine s_call Nw H (wg H O O O) O (PI _ _ H.ro (fun b o h=>hG _ _ (OA b o h)) (la.map fun x=>((0:Int),(fun x:bV=>fT (iH x.cells)) x)) (lb.map fun x=>((0:Int),(fun x:bV=>fT (iH x.cells)) x)) _ _ _ _ (by rw [FR];exact Di.mono hG) (by rw [FR];exact Jv.mono hG) (by rw [Gh];exact C8) (by rw [Gh];exact C9) (Fx ZT) (Fx okB) (by rw [bN];omega) (by rw [bN];omega)) rfl ?_;clear H;rintro v73 G73 a w A8 Xt H;rw [QV (fun _=>0),<- hM] at A8;refine aj ⟨O,?_⟩;exact jw Z nH O O HT Hb hG hv Xt (A8) H
  ·intro au a w G1 _ ah hc hG HT hv;have H:=HT;clear ah;obtain ⟨u73,Y6,A8⟩:=hv 12 73 (hc 12 Y) O;(try dsimp only at A8);obtain ⟨A73,n73,c73,rfl⟩:=A8.form;have H:=H.eT Y6;have H:=H.ak (hv 2 63 (hc 2 Y) O) O;have Hb:=H.full;have H:=Hb;clear hc;refine s_call Nv H (wg H O O O) O (PK _ _ H.ro (MX OE) O _ A8) O ?_;clear H;rintro v74 G74 a w A9 Xu H;rw [Mt OE] at A9;refine aj ⟨O,?_⟩;exact jw Z nH O O HT Hb hG hv Xu (A9) H
  ·intro au a w G1 _ ah hc hG HT hv;have H:=HT;clear ah;have H:=H.ak (hv 3 64 (hc 3 Y) O) O;obtain ⟨u74,Y7,A9⟩:=hv 13 74 (hc 13 Y) O;(try dsimp only at A9);obtain ⟨A74,n74,c74,rfl⟩:=A9.form;have H:=H.eT Y7;have H:=H.ak (hv 2 63 (hc 2 Y) O) O;have Hb:=H.full;have H:=Hb;clear hc;refine s_call NW H (wg H O O O) O (QM _ _ H.ro (jU M) _ _ (Ze.mono hG) A9) O ?_;clear H;rintro v75 G75 a w rfl Xv H;refine aj ⟨O,?_⟩;exact jw Z nH O O HT Hb hG hv Xv (rfl) H
  ·intro au a w G1 _ ah hc hG HT hv;have H:=HT;clear ah;have H:=H.ak (hv 14 75 (hc 14 Y) O) O;have H:=H.ak (hv 2 63 (hc 2 Y) O) O;have Hb:=H.full;have H:=Hb;clear hc;refine FK H (wg H O O O) O O ?_;clear H;intro a H;refine aj ⟨O,?_⟩;exact ay HT Hb hG hv nH H O
  intro au a w G1 _ ah hc hG HT hv;have H:=HT;clear ah;have H:=H.ak (hv 2 63 (hc 2 Y) O) O;have H:=H.ak (hv 15 76 (hc 15 Y) O) O;have Hb:=H.full;have H:=Hb;clear hc;refine kH H (Pf O O ?_);clear H;intro a H;refine aj ⟨O,?_⟩;exact ay HT Hb hG hv nH H O
 clear H;intro a w G Xq H hv;have H:=H.ak (hv 16 77 O O) O;clear hv;refine aj ⟨O,?_⟩;refine bI _ _ ?_;clear bI;refine sH H O O ?_;refine kP H (Kc bL (SQ fun _ cB=>SQ fun _ dw=>?_));clear H bL;intro a H;have xY:=fun b o h=>Xq b o (OA b o h);refine kP H (SC (Rm O (Rl jR O (Rc O (Rm O (Sp 81 O ?_ ?_)))))) <;> clear H
 ·intro xV a H
  exact kH H (aQ xV O (Pt xV O (Rm O (aQ O O (aQ O O (Pt O O (Rm O (aQ O O (aQ O O (Pt O O (Kn dw (Ct O O (SR fun _ dN=>aB dN O (LR results3 O fun H=>H.rt O))))))))))))))
 intro xV a H
 try have p81:=dF xV
 have I9:0 < la.length:=by omega
 obtain ⟨b1,o1,cs1,rfl,-,Dg,Df⟩:=hga 0 la[0].dat (by simp [I9]);obtain ⟨eA,en,ec,uA,un,uc,zA,zn,zc,cA,cn,cc,rfl,-,hfa⟩:=Df.row;have k1:aR _ b1 (o1+0*6+5)=some (.slice cA cn cc):=aK xY (Dg 5 _ O)
 obtain rfl:cn=la[0].cells.length:=by
  obtain ⟨_,_,e,-⟩:=hfa.slice;obtain ⟨-,e2,-⟩:=Value.slice.inj e;rw [e2,bN]
 have aev:=vS (dV I9);have XU:=uQ la[0];have IY:=MQ Dq.1 (dV I9);refine kH H (YM xV O (YL jR xV O (YC xV O (Pf xV O (Rm O (Sp 86 O ?_ ?_)))))) <;> clear H
 ·intro oU a H
  exact kH H (aQ oU O (aQ oU O (Pt oU O (Rm O (aQ O O (aQ O O (Pt O O (Kn dw (Ct O O (SR fun _ eP=>aB eP O (LR results3 O fun H=>H.rt O)))))))))))
 intro oU a H
 try have Qa:=dF oU
 have Ja:0 < lb.length:=by omega
 obtain ⟨b2,o2,cs2,rfl,-,hrow2,qj⟩:=hgb 0 lb[0].dat (by simp [Ja]);obtain ⟨eB,fn,fc,uB,vn,vc,zB,yn,yc,dA,dn,dc,rfl,-,lS⟩:=qj.row;have k2:aR _ b2 (o2+0*6+5)=some (.slice dA dn dc):=aK xY (hrow2 5 _ O)
 obtain rfl:dn=lb[0].cells.length:=by
  obtain ⟨_,_,e,-⟩:=lS.slice;obtain ⟨-,e2,-⟩:=Value.slice.inj e;rw [e2,bN]
 have aew:=vS (dV Ja);have XW:=uQ lb[0];have IZ:=MQ Dq.2 (dV Ja);refine kH H (YM oU O (YI jR jI oU O O (YF nV oU O (YR oF oU O k1 (YL kX oU O (YC oU O (Pf oU O (Rm O (Sp 94 O ?_ ?_))))))))) <;> clear H
 ·intro sJ a H
  exact kH H (aQ sJ O (aQ sJ O (Pt sJ O (Kn dw (Ct O O (SR fun _ fM=>aB fM O (LR results3 O fun H=>H.rt O)))))))
 intro sJ a H
 try have p94:=dF sJ
 refine kH H (YM sJ O (YI jR jI sJ O O (YF nV sJ O (YR oF sJ O k2 (YL kX sJ O (YC sJ O (Pf sJ O (Kn dw (Cd O ?_ ?_))))))))) <;> clear H dw
 ·intro AJ a H
  exact kP H (SR fun _ fO=>aB fO O (LR results3 O fun H=>H.rt O))
 intro AJ a H
 try have P9:=dF AJ
 refine mh ?_;refine cB _ _ ?_;clear cB;refine iF (fun _ ig=>?_);obtain ⟨ca,hca⟩:∃ x,x=la[0].cells:=⟨_,O⟩;obtain ⟨cb,hcb⟩:∃ x,x=lb[0].cells:=⟨_,O⟩
 have aen:ca.length<=24:=by rw [hca];omega
 have vF:cb.length<=24:=by rw [hcb];omega
 simp only [<- hca] at H hfa IY XU k1
 simp only [<- hcb] at H lS IZ XW k2
 have P7:=MR hT V IY;have okD:=MR hT V IZ;obtain ⟨K,hK⟩:∃ K,K=iQ (fun _=>0) (fun x:dh=>fT (gY x.flow)) ca cb:=⟨_,O⟩
 have OD:mZ K=0:=by rw [hK];exact FL _ _ V V
 have qO:Ea (fun (jg:Nat) (v:av) (G:GH)=>match jg with|0=>v=.slice (some ⟨b1,o1,none⟩) la.length c|1=>v=(aH b1 (o1+0*6))|2=>v=(aH b1 (o1+0*6+5))|3=>v=.slice cA ca.length cc|4=>v=.slice (some ⟨b2,o2,none⟩) lb.length d|5=>v=(aH b2 (o2+0*6))|6=>v=(aH b2 (o2+0*6+5))|7=>v=.slice dA cb.length dc|8=>∃ x,v=.tuple #[x,vi 0]∧aC G (.sl 3 ((jU K).map gV.dat)) x|9=>∃ x,v=.tuple #[x,vi 0]∧aC G (.sl 3 ((jU K).map gV.dat)) x|10=>aC G (.sl 3 ((jU K).map gV.dat)) v|11=>v=vi 0|12=>aC G (.sl 3 ((jU K).map gV.dat)) v|_=>True):=by intro jg v G G' hm h;(iterate 14 (rcases jg with _|jg;(first|exact h|exact let ⟨x,h1,h2⟩:=h;⟨x,h1,h2.mono hm⟩|exact aC.mono hm h)));exact trivial
 refine Ck (gG) [[],[0],[0,1],[0,1,2],[],[4],[4,5],[4,5,6],ra 0 8,ra 0 9,ra 0 10,ra 0 10,ra 0 11,ra 0 13] [13] Z Z _ qO H ?_ ?_
 ·clear H;refine aI ?_ ?_ ?_ ?_ (aI ?_ ?_ ?_ ?_ (aI ?_ ?_ ?_ ?_ (iO ?_ (iO (gB O) fQ))))
  ·intro au a w G1 _ ah hc hG HT hv;have H:=HT;clear ah;have Hb:=H.full;have H:=Hb;clear hc;refine kH H (Rm O ?_);clear H;intro a H;refine aj ⟨O,?_⟩;exact ay HT Hb hG hv qO H O
  ·intro au a w G1 _ ah hc hG HT hv;have H:=HT;clear ah;have H:=H.ak (hv 0 103 (hc 0 Y) O) O;have Hb:=H.full;have H:=Hb;clear hc;refine kH H (Ri jR jI O O ?_);clear H;intro a H;refine aj ⟨O,?_⟩;exact ay HT Hb hG hv qO H O
  ·intro au a w G1 _ ah hc hG HT hv;have H:=HT;clear ah;have H:=H.ak (hv 1 104 (hc 1 Y) O) O;have Hb:=H.full;have H:=Hb;clear hc;refine kH H (Rf nV O ?_);clear H;intro a H;refine aj ⟨O,?_⟩;exact ay HT Hb hG hv qO H O
  ·intro au a w G1 _ ah hc hG HT hv;have H:=HT;clear ah;have H:=H.ak (hv 2 105 (hc 2 Y) O) O;have Hb:=H.full;have H:=Hb;clear hc;refine kH H (Rg oF O (aK hG k1) ?_);clear H;intro a H;refine aj ⟨O,?_⟩;exact ay HT Hb hG hv qO H O
  ·intro au a w G1 _ ah hc hG HT hv;have H:=HT;clear ah;have Hb:=H.full;have H:=Hb;clear hc;refine kH H (Rm O ?_);clear H;intro a H;refine aj ⟨O,?_⟩;exact ay HT Hb hG hv qO H O
  ·intro au a w G1 _ ah hc hG HT hv;have H:=HT;clear ah;have H:=H.ak (hv 4 107 (hc 4 Y) O) O;have Hb:=H.full;have H:=Hb;clear hc;refine kH H (Ri jR jI O O ?_);clear H;intro a H;refine aj ⟨O,?_⟩;exact ay HT Hb hG hv qO H O
  ·intro au a w G1 _ ah hc hG HT hv;have H:=HT;clear ah;have H:=H.ak (hv 5 108 (hc 5 Y) O) O;have Hb:=H.full;have H:=Hb;clear hc;refine kH H (Rf nV O ?_);clear H;intro a H;refine aj ⟨O,?_⟩;exact ay HT Hb hG hv qO H O
  ·intro au a w G1 _ ah hc hG HT hv;have H:=HT;clear ah;have H:=H.ak (hv 6 109 (hc 6 Y) O) O;have Hb:=H.full;have H:=Hb;clear hc;refine kH H (Rg oF O (aK hG k2) ?_);clear H;intro a H;refine aj ⟨O,?_⟩;exact ay HT Hb hG hv qO H O
  ·intro au a w G1 _ ah hc hG HT hv;have H:=HT;clear ah;have H:=H.ak (hv 3 106 (hc 3 Y) O) O;have H:=H.ak (hv 7 110 (hc 7 Y) O) O;have Hb:=H.full;have H:=Hb;clear hc;refine s_call Vh H wn O (TP _ _ H.ro (fun b o h=>hG _ _ (xY b o h)) ca cb _ _ (hfa.mono fun b o h=>hG _ _ (xY b o h)) (lS.mono fun b o h=>hG _ _ (xY b o h)) V V (fun _ _=>⟨P7,okD⟩) V V) O ?_;clear H;rintro tu adi a w ⟨Lg,rfl,Dp⟩ W9 H;rw [aM ⟨IY,IZ⟩] at H Dp;rw [<- hK] at Dp;refine aj ⟨O,?_⟩;exact jw Z qO O O HT Hb hG hv W9 (⟨Lg,O,Dp⟩) H
  ·intro au a w G1 _ ah hc hG HT hv;have H:=HT;clear ah;obtain ⟨aeI,YV,OJ⟩:=hv 8 111 (hc 8 Y) O;(try dsimp only at OJ);obtain ⟨Lg,rfl,Dp⟩:=OJ;have H:=H.eT YV;have Hb:=H.full;have H:=Hb;clear hc;refine kH H (Rm O ?_);clear H;intro a H;refine aj ⟨O,?_⟩;exact jw Z qO O O HT Hb hG hv (fun _ _ h=>h) (⟨Lg,O,Dp⟩) H
  ·intro au a w G1 _ ah hc hG HT hv;have H:=HT;clear ah;obtain ⟨acC,Jy,CX⟩:=hv 9 102 (hc 9 Y) O;(try dsimp only at CX);obtain ⟨x102,rfl,hx102⟩:=CX;have H:=H.eT Jy;have Hb:=H.full;have H:=Hb;clear hc;refine fZ H wn O O O ?_;clear H;intro a H;refine aj ⟨O,?_⟩;exact jw Z qO O O HT Hb hG hv (fun _ _ h=>h) (hx102) H
  ·intro au a w G1 _ ah hc hG HT hv;have H:=HT;clear ah;obtain ⟨acC,Jy,CX⟩:=hv 9 102 (hc 9 Y) O;(try dsimp only at CX);obtain ⟨x102,rfl,hx102⟩:=CX;have H:=H.eT Jy;have Hb:=H.full;have H:=Hb;clear hc;refine fZ H wn O O O ?_;clear H;intro a H;refine aj ⟨O,?_⟩;exact ay HT Hb hG hv qO H O
  intro au a w G1 _ ah hc hG HT hv;have H:=HT;clear ah;obtain ⟨aeJ,YW,Jo⟩:=hv 10 112 (hc 10 Y) O;(try dsimp only at Jo);obtain ⟨adb,n112,adz,rfl⟩:=Jo.form;have H:=H.eT YW;have Hb:=H.full;have H:=Hb;clear hc;refine kH H (Ra O ?_);clear H;intro a H;refine aj ⟨O,?_⟩;exact jw Z qO O O HT Hb hG hv (fun _ _ h=>h) (Jo) H
 clear H;intro a w G zf H hv;obtain ⟨u9,Y8,Jp⟩:=hv 12 9 Y O;(try dsimp only at Jp);obtain ⟨mA,mn,mc,rfl⟩:=Jp.form;have H:=H.eT Y8;have H:=H.ak (hv 11 113 O O) O;clear hv;refine kH H (Ra O ?_);clear H;intro a H;refine aj ⟨O,?_⟩;refine ig _ _ ?_;clear ig;refine iF (fun _ iq=>?_)
 have jk:Ea (fun (jg:Nat) (v:av) (G:GH)=>match jg with|0=>v=.slice (some ⟨b1,o1,none⟩) la.length c|1=>v=(aH b1 (o1+0*6))|2=>v=(aH b1 (o1+0*6+5))|3=>v=.slice cA ca.length cc|4=>aC G (.sl 1 ((ca.map fun x=>fT (gY x.flow)).map mV)) v|5=>v=.slice (some ⟨b2,o2,none⟩) lb.length d|6=>v=(aH b2 (o2+0*6))|7=>v=(aH b2 (o2+0*6+5))|8=>v=.slice dA cb.length dc|9=>aC G (.sl 1 ((cb.map fun x=>fT (gY x.flow)).map mV)) v|_=>True):=by intro jg v G G' hm h;(iterate 12 (rcases jg with _|jg;(first|exact h|exact aC.mono hm h)));exact trivial
 refine Ck (gG) [[],[0],[0,1],[0,1,2],ra 0 4,[],[5],[5,6],[5,6,7],ra 0 9,ra 0 10,ra 0 11] [10,11] Z Z _ jk H ?_ ?_
 ·clear H;refine aI ?_ ?_ ?_ ?_ (aI ?_ ?_ ?_ ?_ (aI ?_ ?_ (gB O) (gB O) fQ))
  ·intro au a w G1 _ ah hc hG HT hv;have H:=HT;clear ah;have Hb:=H.full;have H:=Hb;clear hc;refine kH H (Rm O ?_);clear H;intro a H;refine aj ⟨O,?_⟩;exact ay HT Hb hG hv jk H O
  ·intro au a w G1 _ ah hc hG HT hv;have H:=HT;clear ah;have H:=H.ak (hv 0 114 (hc 0 Y) O) O;have Hb:=H.full;have H:=Hb;clear hc;refine kH H (Ri jR jI O O ?_);clear H;intro a H;refine aj ⟨O,?_⟩;exact ay HT Hb hG hv jk H O
  ·intro au a w G1 _ ah hc hG HT hv;have H:=HT;clear ah;have H:=H.ak (hv 1 115 (hc 1 Y) O) O;have Hb:=H.full;have H:=Hb;clear hc;refine kH H (Rf nV O ?_);clear H;intro a H;refine aj ⟨O,?_⟩;exact ay HT Hb hG hv jk H O
  ·intro au a w G1 _ ah hc hG HT hv;have H:=HT;clear ah;have H:=H.ak (hv 2 116 (hc 2 Y) O) O;have Hb:=H.full;have H:=Hb;clear hc;refine kH H (Rg oF O (aK hG (aK zf k1)) ?_);clear H;intro a H;refine aj ⟨O,?_⟩;exact ay HT Hb hG hv jk H O
  ·intro au a w G1 _ ah hc hG HT hv;have H:=HT;clear ah;have H:=H.ak (hv 3 117 (hc 3 Y) O) O;have Hb:=H.full;have H:=Hb;clear hc;refine s_call Ny H wn O (ML _ _ H.ro ca _ (hfa.mono fun b o h=>hG _ _ (zf _ _ (xY b o h))) V) O ?_;clear H;rintro aeQ adj a w zq Xa H;refine aj ⟨O,?_⟩;exact jw Z jk O O HT Hb hG hv Xa (zq) H
  ·intro au a w G1 _ ah hc hG HT hv;have H:=HT;clear ah;have Hb:=H.full;have H:=Hb;clear hc;refine kH H (Rm O ?_);clear H;intro a H;refine aj ⟨O,?_⟩;exact ay HT Hb hG hv jk H O
  ·intro au a w G1 _ ah hc hG HT hv;have H:=HT;clear ah;have H:=H.ak (hv 5 119 (hc 5 Y) O) O;have Hb:=H.full;have H:=Hb;clear hc;refine kH H (Ri jR jI O O ?_);clear H;intro a H;refine aj ⟨O,?_⟩;exact ay HT Hb hG hv jk H O
  ·intro au a w G1 _ ah hc hG HT hv;have H:=HT;clear ah;have H:=H.ak (hv 6 120 (hc 6 Y) O) O;have Hb:=H.full;have H:=Hb;clear hc;refine kH H (Rf nV O ?_);clear H;intro a H;refine aj ⟨O,?_⟩;exact ay HT Hb hG hv jk H O
  ·intro au a w G1 _ ah hc hG HT hv;have H:=HT;clear ah;have H:=H.ak (hv 7 121 (hc 7 Y) O) O;have Hb:=H.full;have H:=Hb;clear hc;refine kH H (Rg oF O (aK hG (aK zf k2)) ?_);clear H;intro a H;refine aj ⟨O,?_⟩;exact ay HT Hb hG hv jk H O
  intro au a w G1 _ ah hc hG HT hv;have H:=HT;clear ah;have H:=H.ak (hv 8 122 (hc 8 Y) O) O;have Hb:=H.full;have H:=Hb;clear hc;refine s_call Ny H wn O (ML _ _ H.ro cb _ (lS.mono fun b o h=>hG _ _ (zf _ _ (xY b o h))) V) O ?_;clear H;rintro aeR adk a w zu Xb H;refine aj ⟨O,?_⟩;exact jw Z jk O O HT Hb hG hv Xb (zu) H
 clear H;intro a w G vE H hv;obtain ⟨aeK,YX,zq⟩:=hv 4 118 Y O;(try dsimp only at zq);obtain ⟨Lm,n118,MF,rfl⟩:=zq.form;have H:=H.eT YX;obtain ⟨aeL,YZ,zu⟩:=hv 9 123 Y O;(try dsimp only at zu);obtain ⟨Lp,n123,MG,rfl⟩:=zu.form;have H:=H.eT YZ;clear hv;refine kH H (Ra O (Ra O ?_));clear H;intro a H;refine aj ⟨O,?_⟩;refine iq _ _ ?_;clear iq;refine iF (fun _ gM=>?_);obtain ⟨pA2,pc2,e118,-,-,-⟩:=zq.slice;obtain ⟨rfl,rfl,rfl⟩:=Value.slice.inj e118;obtain ⟨qA2,qc2,Ve,-,-,-⟩:=zu.slice;obtain ⟨rfl,rfl,rfl⟩:=Value.slice.inj Ve
 simp only [bN] at H zq zu
 have Bc:=Jp.mono vE;have XZ:=fun b o h=>vE b o (zf b o (xY b o h))
 have oh:Ea (fun (jg:Nat) (v:av) (G:GH)=>match jg with|0=>v=vi 0|1=>v=.bool true|2=>v=.bool true|3=>v=.slice mA mn mc|4=>v=.slice Lm ca.length MF|5=>v=.slice Lp cb.length MG|6=>v=.slice Lm ca.length MF|7=>v=vi ca.length|8=>aC G (.sl 1 ((List.replicate ca.length (0:Int)).map eZ)) v|9=>v=.slice Lp cb.length MG|10=>v=vi cb.length|11=>aC G (.sl 1 ((List.replicate cb.length (0:Int)).map eZ)) v|12=>aC G (.sl 1 (K.map kS)) v|13=>aC G (.sl 3 ((jU K).map gV.dat)) v|14=>v=.bool true|15=>v=.bool true|_=>True):=by intro jg v G G' hm h;(iterate 17 (rcases jg with _|jg;(first|exact h|exact aC.mono hm h)));exact trivial
 refine Ck (gG) [[],[0],[0,1],[0,1,2],[0,1,2],[0,1,2],[0,1,2],[0,1,2,6],[0,1,2,6,7],[0,1,2],[0,1,2,9],[0,1,2,9,10],([0,1,2]++ra 4 8),([0,1,2]++ra 4 9),ra 0 14,ra 0 15,ra 0 16] [16] Z Z _ oh H ?_ ?_
 ·clear H;refine aI ?_ ?_ ?_ ?_ (aI ?_ ?_ ?_ ?_ (aI ?_ ?_ ?_ ?_ (aI ?_ ?_ ?_ ?_ (iO (gB O) fQ))))
  ·intro au a w G1 _ ah hc hG HT hv;have H:=HT;clear ah;have Hb:=H.full;have H:=Hb;clear hc;refine kH H (Rm O ?_);clear H;intro a H;refine aj ⟨O,?_⟩;exact ay HT Hb hG hv oh H O
  ·intro au a w G1 _ ah hc hG HT hv;have H:=HT;clear ah;have H:=H.ak (hv 0 124 (hc 0 Y) O) O;have Hb:=H.full;have H:=Hb;clear hc;refine kH H (Rc O ?_);clear H;intro a H;refine aj ⟨O,?_⟩;exact ay HT Hb hG hv oh H O
  ·intro au a w G1 _ ah hc hG HT hv;have H:=HT;clear ah;have H:=H.ak (hv 1 125 (hc 1 Y) O) O;have Hb:=H.full;have H:=Hb;clear hc;refine kH H (Rm O ?_);clear H;intro a H;refine aj ⟨O,?_⟩;exact ay HT Hb hG hv oh H O
  ·intro au a w G1 _ ah hc hG HT hv;have H:=HT;clear ah;have H:=H.ak (hv 2 126 (hc 2 Y) O) O;have Hb:=H.full;have H:=Hb;clear hc;refine lH H (wg H O O O) O O ?_;clear H;intro a H;refine aj ⟨O,?_⟩;exact ay HT Hb hG hv oh H O
  ·intro au a w G1 _ ah hc hG HT hv;have H:=HT;clear ah;have H:=H.ak (hv 2 126 (hc 2 Y) O) O;have Hb:=H.full;have H:=Hb;clear hc;refine lH H (wg H O O O) O O ?_;clear H;intro a H;refine aj ⟨O,?_⟩;exact ay HT Hb hG hv oh H O
  ·intro au a w G1 _ ah hc hG HT hv;have H:=HT;clear ah;have H:=H.ak (hv 2 126 (hc 2 Y) O) O;have Hb:=H.full;have H:=Hb;clear hc;refine lH H (wg H O O O) O O ?_;clear H;intro a H;refine aj ⟨O,?_⟩;exact ay HT Hb hG hv oh H O
  ·intro au a w G1 _ ah hc hG HT hv;have H:=HT;clear ah;have H:=H.ak (hv 2 126 (hc 2 Y) O) O;have Hb:=H.full;have H:=Hb;clear hc;refine lH H (wg H O O O) O O ?_;clear H;intro a H;refine aj ⟨O,?_⟩;exact ay HT Hb hG hv oh H O
  ·intro au a w G1 _ ah hc hG HT hv;have H:=HT;clear ah;have H:=H.ak (hv 6 130 (hc 6 Y) O) O;have H:=H.ak (hv 2 126 (hc 2 Y) O) O;have Hb:=H.full;have H:=Hb;clear hc;refine wT kW H (wg H O O O) O O ?_;clear H;intro a H;refine aj ⟨O,?_⟩;exact ay HT Hb hG hv oh H O
  ·intro au a w G1 _ ah hc hG HT hv;have H:=HT;clear ah;have H:=H.ak (hv 7 131 (hc 7 Y) O) O;have H:=H.ak (hv 2 126 (hc 2 Y) O) O;have Hb:=H.full;have H:=Hb;clear hc;refine oq ca.length bE aF H (wg H O O O) O O O V V O ?_;clear H;intro adw a w adP H;obtain ⟨adn,Xd,X5,H⟩:=H.jd;have CY:=Gj X5 V;refine aj ⟨O,?_⟩;exact jw Z oh O O HT Hb hG hv Xd (CY) H
  ·intro au a w G1 _ ah hc hG HT hv;have H:=HT;clear ah;have H:=H.ak (hv 2 126 (hc 2 Y) O) O;have Hb:=H.full;have H:=Hb;clear hc;refine lH H (wg H O O O) O O ?_;clear H;intro a H;refine aj ⟨O,?_⟩;exact ay HT Hb hG hv oh H O
  ·intro au a w G1 _ ah hc hG HT hv;have H:=HT;clear ah;have H:=H.ak (hv 9 133 (hc 9 Y) O) O;have H:=H.ak (hv 2 126 (hc 2 Y) O) O;have Hb:=H.full;have H:=Hb;clear hc;refine wT kW H (wg H O O O) O O ?_;clear H;intro a H;refine aj ⟨O,?_⟩;exact ay HT Hb hG hv oh H O
  ·intro au a w G1 _ ah hc hG HT hv;have H:=HT;clear ah;have H:=H.ak (hv 10 134 (hc 10 Y) O) O;have H:=H.ak (hv 2 126 (hc 2 Y) O) O;have Hb:=H.full;have H:=Hb;clear hc;refine oq cb.length bE aF H (wg H O O O) O O O V V O ?_;clear H;intro adx a w adQ H;obtain ⟨adp,Xe,X6,H⟩:=H.jd;have CZ:=Gj X6 V;refine aj ⟨O,?_⟩;exact jw Z oh O O HT Hb hG hv Xe (CZ) H
  ·intro au a w G1 _ ah hc hG HT hv;have H:=HT;clear ah;have H:=H.ak (hv 4 128 (hc 4 Y) O) O;have H:=H.ak (hv 5 129 (hc 5 Y) O) O;obtain ⟨aeM,Y0,CY⟩:=hv 8 132 (hc 8 Y) O;(try dsimp only at CY);obtain ⟨ade,n132,adA,rfl⟩:=CY.form;have H:=H.eT Y0;obtain ⟨aeN,Y1,CZ⟩:=hv 11 135 (hc 11 Y) O;(try dsimp only at CZ);obtain ⟨adf,n135,adB,rfl⟩:=CZ.form;have H:=H.eT Y1;have H:=H.ak (hv 2 126 (hc 2 Y) O) O;have Hb:=H.full;have H:=Hb;clear hc;refine s_call Nw H (wg H O O O) O (PI _ _ H.ro (fun b o h=>hG _ _ (XZ b o h)) (ca.map fun x=>((0:Int),(fun x:dh=>fT (gY x.flow)) x)) (cb.map fun x=>((0:Int),(fun x:dh=>fT (gY x.flow)) x)) _ _ _ _ (by rw [FR];exact zq.mono hG) (by rw [FR];exact zu.mono hG) (by rw [Gh];exact CY) (by rw [Gh];exact CZ) (Fx P7) (Fx okD) (by rw [bN];omega) (by rw [bN];omega)) rfl ?_;clear H;rintro aeU adq a w AY Xf H;rw [QV (fun _=>0),<- hK] at AY;refine aj ⟨O,?_⟩;exact jw Z oh O O HT Hb hG hv Xf (AY) H
  ·intro au a w G1 _ ah hc hG HT hv;have H:=HT;clear ah;obtain ⟨aeO,Y2,AY⟩:=hv 12 136 (hc 12 Y) O;(try dsimp only at AY);obtain ⟨adg,n136,adC,rfl⟩:=AY.form;have H:=H.eT Y2;have H:=H.ak (hv 2 126 (hc 2 Y) O) O;have Hb:=H.full;have H:=Hb;clear hc;refine s_call Nv H (wg H O O O) O (PK _ _ H.ro (MX OD) O _ AY) O ?_;clear H;rintro aeV adr a w AZ Xg H;rw [Mt OD] at AZ;refine aj ⟨O,?_⟩;exact jw Z oh O O HT Hb hG hv Xg (AZ) H
  ·intro au a w G1 _ ah hc hG HT hv;have H:=HT;clear ah;have H:=H.ak (hv 3 127 (hc 3 Y) O) O;obtain ⟨aeP,Y3,AZ⟩:=hv 13 137 (hc 13 Y) O;(try dsimp only at AZ);obtain ⟨adh,n137,adD,rfl⟩:=AZ.form;have H:=H.eT Y3;have H:=H.ak (hv 2 126 (hc 2 Y) O) O;have Hb:=H.full;have H:=Hb;clear hc;refine s_call NW H (wg H O O O) O (QM _ _ H.ro (jU K) _ _ (Bc.mono hG) AZ) O ?_;clear H;rintro v138 ads a w rfl Xh H;refine aj ⟨O,?_⟩;exact jw Z oh O O HT Hb hG hv Xh (rfl) H
  intro au a w G1 _ ah hc hG HT hv;have H:=HT;clear ah;have H:=H.ak (hv 2 126 (hc 2 Y) O) O;have H:=H.ak (hv 14 138 (hc 14 Y) O) O;have Hb:=H.full;have H:=Hb;clear hc;refine kH H (Pt O O ?_);clear H;intro a H;refine aj ⟨O,?_⟩;exact ay HT Hb hG hv oh H O
 clear H;intro a w G adK H hv;have H:=H.ak (hv 15 139 O O) O;clear hv;refine kH H (Ra O ?_);clear H;intro a H;refine aj ⟨O,?_⟩;refine gM _ _ ?_;clear gM;refine lr H results3 O ?_;exact H.rt O
section
open Go.ChangeShapes Go.RowKit Go.Deep
abbrev oV (W:World):GH:=fun k=>W.heap[k]?
theorem EH {W:World} {b o:Nat} {v:av} (h:W.cell? ⟨b,o,none⟩=some v):aR (oV W) b o=some v:=by
 unfold World.cell? at h
 unfold aR oV
 split at h
 ·rename_i c e f hh
  simp only at hh
  rw [hh];simpa using h
 cases h
theorem Px {α:Type} {p:Nat->α->Prop}:∀ n:Nat,(∀ i,i < n->∃ x,p i x)->∃ l:List α,l.length=n∧∀ i x,l[i]?=some x->p i x
 | 0,_=>⟨[],O,fun i x h=>by simp at h⟩
 | n+1,h=>by
  obtain ⟨l,hl,hp⟩:=Px n (fun i hi=>h i V);obtain ⟨x,hx⟩:=h n V;refine ⟨l++[x],by simp [hl],fun i y hy=>?_⟩
  by_cases hi:i < l.length
  ·exact hp i y (by rwa [vZ hi] at hy)
  rw [xK V] at hy
  have hin:i - l.length=0:=by
   have:=(iI.1 hy).1
   simp at this;omega
  rw [hin] at hy
  simp only [xI,ku] at hy
  subst hy;rw [show i=n by omega];exact hx
theorem Uc {H:Type} (d:DataW H):1<=Rows.uptoBulk d:=by
 cases d <;> (try simp only [Rows.uptoBulk]) <;> (try omega)
 rename_i x;cases x <;> simp only [Rows.uptoBulk] <;> omega
theorem ME {H ρ:Type} {dat:ρ->List Dat}:∀ (rs:List ρ) (D:Nat->DataW H),(∀ i r,rs[i]?=some r->iC (dat r)+1<=8*Rows.uptoBulk (D i))->jl (rs.map dat)<=8*Rows.uptoBulkAll ((List.range rs.length).map D)
 | [],D,_=>dU _
 | r :: rs,D,h=>by
  have h0:=h 0 r O;have hp:=Uc (D 0);have ih:=ME rs (fun i=>D (i+1)) (fun i r hr=>h (i+1) r (by simpa using hr));rw [kI,List.range_succ_eq_map]
  simp only [iT,List.map_map,jl,Rows.uptoBulkAll]
  have e:(List.map (D ∘ Nat.succ) (List.range rs.length))=(List.map (fun i=>D (i+1)) (List.range rs.length)):=rfl;rw [e];omega
theorem MC {H:Type} {D:Nat->DataW H}:∀ {n i:Nat},i < n->Rows.uptoBulk (D i)<=Rows.uptoBulkAll ((List.range n).map D)
 | 0,i,h=>absurd h V
 | n+1,i,h=>by
  have key:∀ (l m:List (DataW H)),Rows.uptoBulkAll (l++m)=Rows.uptoBulkAll l+Rows.uptoBulkAll m:=by
   intro l m
   induction l with
   | nil=>simp [Rows.uptoBulkAll]
   | cons x l ih=>simp only [nQ,Rows.uptoBulkAll,ih];omega
  rw [List.range_succ,kC,key]
  by_cases hi:i < n
  ·have:=MC (D:=D) hi;omega
  have:i=n:=by omega
  subst this
  simp only [iT,ru,Rows.uptoBulkAll];omega
section
variable {H:Type} {enc:TypeId × av->H} {P:Program} {W:World} {base:Nat} {spare:Nat->Bool} {held:Bool}
theorem vK {ρ:Type} {dat:ρ->List Dat} {t e:TypeId} {sz:Nat} (hsz:0 < sz) {fuel:Nat} {cs:List av} {x:DataW H × List MemPlace} (ht:P.underlying t=some (.slice e)) (hc:P.cellsOf e=sz) (h:DataW.trod enc P W base spare held fuel t cs=some x)
  (row:∀ n cs' D Pl,DataW.trod enc P W base spare held n e cs'=some (D,Pl)->Rows.uptoBulk D < Rows.uptoBulk x.1->∃ r:ρ,aZ (oV W) (dat r) cs'∧iC (dat r)+1<=8*Rows.uptoBulk D) :
  ∃ (rs:List ρ) (v:av),cs=[v]∧aC (oV W) (.sl sz (rs.map dat)) v∧jl (rs.map dat)+8<=8*Rows.uptoBulk x.1:=by
 rcases open_slice ht h with ⟨rfl,rfl⟩|⟨a,len,cap,m,n,D,Pl,rfl,hb,hl,hm,hmm,rfl,hx⟩
 ·exact ⟨[],_,O,aC.kR O Y,by simp [jl,Rows.uptoBulk]⟩
 obtain ⟨rs,hrl,hrs⟩:=Px (p:=fun i (r:ρ)=>∃ cs',W.cells? base (a.add (i*sz)) sz=some cs'∧aZ (oV W) (dat r) cs'∧iC (dat r)+1<=8*Rows.uptoBulk (D i)) len (fun i hi=>by
  have him:i < m:=by rw [hmm];split <;> omega
  obtain ⟨cs',h1,h2⟩:=hx i him;rw [hc] at h1;have hb1:=MC (D:=D) hi;obtain ⟨r,hr1,hr2⟩:=row n cs' (D i) (Pl i) h2 (by simp only [Rows.uptoBulk];omega)
  exact ⟨r,cs',h1,hr1,hr2⟩)
 refine ⟨rs,_,O,?_,?_⟩
 ·simp only [aC,bN]
  refine ⟨some a,cap,by rw [hrl],V,hm,fun hne=>?_⟩;obtain ⟨b,off,spot⟩:=a
  have hlen:0 < rs.length:=by cases rs with|nil=>simp at hne|cons _ _=>simp
  obtain ⟨cs0,h1,-,-⟩:=hrs 0 rs[0] (iR hlen);obtain ⟨-,hl0,hg0⟩:=World.cells?_some h1
  have hspot:spot=none:=by
   have h3:=hg0 0 hsz;rw [iR V] at h3
   simpa [Addr.add] using World.cell?_spot h3
  subst hspot;refine ⟨b,off,O,kr.mk fun k r hk=>?_⟩;rw [qG] at hk;obtain ⟨y,hy,rfl⟩:=mG.1 hk;obtain ⟨cs',h2,h3,-⟩:=hrs k y hy;obtain ⟨-,hl1,hg1⟩:=World.cells?_some h2;refine ⟨cs',hl1,fun j u hj=>EH ?_,h3⟩
  have hj2:j < sz:=by rw [<- hl1];exact (iI.1 hj).1
  have:=hg1 j hj2;rw [add_add,Go.WideShapes.add_plain] at this;rw [show off+k*sz+j=off+(k*sz+j) by omega,this];exact hj
 have:=ME rs D (fun i r hr=>(hrs i r hr).choose_spec.2.2);rw [hrl] at this
 simp only [Rows.uptoBulk];omega
end
structure vV (P:Program) (t:TypeId) (sz:Nat) (fs:List (TypeId × Nat × Nat)):Prop where
 und:P.underlying t=some (.struct (P.fieldsOf t))
 cells:P.cellsOf t=sz
 xR:(P.fieldsOf t).toList.map (fun f=>(f.type,f.offset,P.cellsOf f.type))=fs
theorem vL {P:Program} {H:Type} {enc:TypeId × av->H} {W:World} {base:Nat} {spare:Nat->Bool} {held:Bool} {t:TypeId} {sz fuel:Nat} {fs:List (TypeId × Nat × Nat)} {cs:List av} {x:DataW H × List MemPlace} (hs:vV P t sz fs) (h:DataW.trod enc P W base spare held fuel t cs=some x) :
  ∃ (xs:List (DataW H × List MemPlace)) (n:Nat),x.1=.agg (xs.map (·.1))∧cs.length=sz∧xs.length=fs.length∧∀ (i:Nat) (ti:TypeId) (off k:Nat),fs[i]?=some (ti,off,k)->DataW.trod enc P W base spare held n ti ((cs.drop off).take k)=xs[i]?:=by
 obtain ⟨xs,n,-,rfl,hl,hxl,hf⟩:=DataW.trod_struct hs.und h;refine ⟨xs,n,O,by rw [hl,hs.cells],by rw [hxl,<- hs.xR];simp,fun i ti off k hi=>?_⟩;rw [<- hs.xR,qG] at hi;obtain ⟨f,hf1,hf2⟩:=mG.1 hi
 simp only [fP] at hf2
 obtain ⟨rfl,rfl,rfl⟩:=hf2;exact hf i f (by simpa using hf1)
section
variable {H:Type} {enc:TypeId × av->H} {W:World} {base:Nat} {spare:Nat->Bool} {held:Bool}
theorem abo:vV prog 197 2 [(3,0,1),(3,1,1)]:=⟨Z,Z,Z⟩
theorem aag {n:Nat} {cs:List av} {D:DataW H} {Pl:List MemPlace} (h:DataW.trod enc prog W base spare held n 197 cs=some (D,Pl)):∃ r:tV,aZ (oV W) r.dat cs∧iC r.dat+1<=8*Rows.uptoBulk D:=by
 obtain ⟨xs,m,hx,hl,hxl,hf⟩:=vL abo h
 match cs,hl,xs,hxl with
 | [c0,c1],_,[y0,y1],_ =>
  have h0:=hf 0 _ _ _ O;have h1:=hf 1 _ _ _ O;obtain ⟨k0,e0,d0,-⟩:=DataW.trod_int underlying3 h0;obtain ⟨k1,e1,d1,-⟩:=DataW.trod_int underlying3 h1
  simp at e0 e1
  subst e0 e1
  simp only at hx
  refine ⟨⟨k0,k1⟩,?_,?_⟩
  ·simp [aZ,tV.dat,aC,Value.oneCell']
  rw [hx];simp [d0,d1,tV.dat,iC,yE,Rows.uptoBulk,Rows.uptoBulkAll]
theorem abj:vV prog 199 2 [(3,0,1),(3,1,1)]:=⟨Z,Z,Z⟩
theorem aad {n:Nat} {cs:List av} {D:DataW H} {Pl:List MemPlace} (h:DataW.trod enc prog W base spare held n 199 cs=some (D,Pl)):∃ r:tF,aZ (oV W) r.dat cs∧iC r.dat+1<=8*Rows.uptoBulk D:=by
 obtain ⟨xs,m,hx,hl,hxl,hf⟩:=vL abj h
 match cs,hl,xs,hxl with
 | [c0,c1],_,[y0,y1],_ =>
  have h0:=hf 0 _ _ _ O;have h1:=hf 1 _ _ _ O;obtain ⟨k0,e0,d0,-⟩:=DataW.trod_int underlying3 h0;obtain ⟨k1,e1,d1,-⟩:=DataW.trod_int underlying3 h1
  simp at e0 e1
  subst e0 e1
  simp only at hx
  refine ⟨⟨k0,k1⟩,?_,?_⟩
  ·simp [aZ,tF.dat,aC,Value.oneCell']
  rw [hx];simp [d0,d1,tF.dat,iC,yE,Rows.uptoBulk,Rows.uptoBulkAll]
theorem abm:vV prog 201 4 [(3,0,1),(3,1,1),(3,2,1),(4,3,1)]:=⟨Z,Z,Z⟩
theorem aaf {n:Nat} {cs:List av} {D:DataW H} {Pl:List MemPlace} (h:DataW.trod enc prog W base spare held n 201 cs=some (D,Pl)):∃ r:tN,aZ (oV W) r.dat cs∧iC r.dat+1<=8*Rows.uptoBulk D:=by
 obtain ⟨xs,m,hx,hl,hxl,hf⟩:=vL abm h
 match cs,hl,xs,hxl with
 | [c0,c1,c2,c3],_,[y0,y1,y2,y3],_ =>
  have h0:=hf 0 _ _ _ O;have h1:=hf 1 _ _ _ O;have h2:=hf 2 _ _ _ O;have h3:=hf 3 _ _ _ O;obtain ⟨k0,e0,d0,-⟩:=DataW.trod_int underlying3 h0;obtain ⟨k1,e1,d1,-⟩:=DataW.trod_int underlying3 h1;obtain ⟨k2,e2,d2,-⟩:=DataW.trod_int underlying3 h2;obtain ⟨k3,e3,d3⟩:=DataW.trod_bool underlying4 h3
  simp at e0 e1 e2 e3
  subst e0 e1 e2 e3
  simp only at hx
  refine ⟨⟨k0,k1,k2,k3⟩,?_,?_⟩
  ·simp [aZ,tN.dat,aC,Value.oneCell']
  rw [hx];simp [d0,d1,d2,d3,tN.dat,iC,yE,Rows.uptoBulk,Rows.uptoBulkAll]
theorem abn:vV prog 29 4 [(3,0,1),(3,1,1),(26,2,1),(27,3,1)]:=⟨Z,Z,Z⟩
theorem abk:vV prog 31 5 [(25,0,1),(29,1,4)]:=⟨Z,Z,Z⟩
theorem Uu:prog.cellsOf 197=2:=by kernel_rfl
theorem Us:prog.cellsOf 199=2:=by kernel_rfl
theorem Ut:prog.cellsOf 201=4:=by kernel_rfl
theorem Dx {n:Nat} {cs:List av} {x:DataW H × List MemPlace} (h:DataW.trod enc prog W base spare held n 31 cs=some x):∃ (r:lW) (p d l:av),cs=[p,vi r.marks.ins,vi r.marks.move,d,l]∧rW (oV W) r p d l∧vR r+15<=8*Rows.uptoBulk x.1:=by
 obtain ⟨xs,m,hx,hl,hxl,hf⟩:=vL abk h
 match cs,hl,xs,hxl with
 | [c0,c1,c2,c3,c4],_,[y0,y1],_ =>
  have h0:=hf 0 _ _ _ O;have h1:=hf 1 _ _ _ O;obtain ⟨ps,pv,e0,rp,sp⟩:=vK (dat:=tV.dat) (sz:=2) V underlying25 Uu h0 (fun n cs' D Pl hh _=>aag hh);obtain ⟨zs,m2,hz,hzl,hzx,Fg⟩:=vL abn h1
  match zs,hzx with
  | [z0,z1,z2,z3],_ =>
   have g0:=Fg 0 _ _ _ O;have g1:=Fg 1 _ _ _ O;have g2:=Fg 2 _ _ _ O;have g3:=Fg 3 _ _ _ O;obtain ⟨k0,e1,d0,-⟩:=DataW.trod_int underlying3 g0;obtain ⟨k1,e2,d1,-⟩:=DataW.trod_int underlying3 g1;obtain ⟨ds,dv,e3,rd,sd⟩:=vK (dat:=tF.dat) (sz:=2) V underlying26 Us g2 (fun n cs' D Pl hh _=>aad hh);obtain ⟨ls,lv,e4,rl,sl⟩:=vK (dat:=tN.dat) (sz:=4) V underlying27 Ut g3 (fun n cs' D Pl hh _=>aaf hh)
   simp at e0 e1 e2 e3 e4
   subst e0 e1 e2 e3 e4;refine ⟨⟨ps,⟨k0,k1,ds,ls⟩⟩,_,_,_,O,⟨rp,rd,rl⟩,?_⟩;have O7:=Lh ⟨ps,⟨k0,k1,ds,ls⟩⟩
   simp only at O7
   rw [hx]
   simp only [iT,ru,Rows.uptoBulk,Rows.uptoBulkAll,hz,d0,d1]
   omega
theorem abl:vV prog 34 11 [(3,0,1),(3,1,1),(3,2,1),(9,3,1),(31,4,5),(32,9,1),(22,10,1)]:=⟨Z,Z,Z⟩
theorem QT:vV prog 49 6 [(31,0,5),(47,5,1)]:=⟨Z,Z,Z⟩
theorem QS:vV prog 76 7 [(3,0,1),(31,1,5),(32,6,1)]:=⟨Z,Z,Z⟩
theorem He:prog.cellsOf 34=11:=by kernel_rfl
theorem MP:prog.cellsOf 49=6:=by kernel_rfl
theorem MO:prog.cellsOf 76=7:=by kernel_rfl
theorem Qi:∀ (N:Nat) (n:Nat) (cs:List av) (D:DataW H) (Pl:List MemPlace),DataW.trod enc prog W base spare held n 34 cs=some (D,Pl)->Rows.uptoBulk D < N->∃ r:aS,aZ (oV W) r.dat cs∧iC r.dat+1<=8*Rows.uptoBulk D
 | 0,_,_,_,_,_,hN=>absurd hN V
 | N+1,n,cs,D,Pl,h,hN=>by
  have ih:=Qi N;obtain ⟨xs,m,hx,hl,hxl,hf⟩:=vL abl h
  match cs,hl,xs,hxl with
  | [c0,c1,c2,c3,c4,c5,c6,c7,c8,c9,c10],_,[y0,y1,y2,y3,y4,y5,y6],_ =>
   have h0:=hf 0 _ _ _ O;have h1:=hf 1 _ _ _ O;have h2:=hf 2 _ _ _ O;have h3:=hf 3 _ _ _ O;have h4:=hf 4 _ _ _ O;have h5:=hf 5 _ _ _ O;have h6:=hf 6 _ _ _ O
   simp only at hx
   have hD:Rows.uptoBulk D=Rows.uptoBulk y0.1+(Rows.uptoBulk y1.1+(Rows.uptoBulk y2.1+(Rows.uptoBulk y3.1+(Rows.uptoBulk y4.1+(Rows.uptoBulk y5.1+(Rows.uptoBulk y6.1+0))))))+1:=by
    rw [hx];simp only [iT,ru,Rows.uptoBulk,Rows.uptoBulkAll]
   obtain ⟨k0,e0,d0,-⟩:=DataW.trod_int underlying3 h0;obtain ⟨k1,e1,d1,-⟩:=DataW.trod_int underlying3 h1;obtain ⟨k2,e2,d2,-⟩:=DataW.trod_int underlying3 h2;obtain ⟨s,e3,d3,-⟩:=DataW.trod_string underlying9 h3;obtain ⟨hd,p,d,l,e4,rh,sh⟩:=Dx h4;obtain ⟨fl,fv,e5,rf,sf⟩:=vK (dat:=aS.dat) (sz:=11) V underlying32 He h5 (fun n cs' D' dx hh hlt=>ih n cs' D' dx hh V)
   obtain ⟨rs,rv,e6,rr,sr⟩:=vK (dat:=bV.dat) (sz:=6) V underlying22 MP h6 (fun n cs' D' dx hh hlt=>by
    obtain ⟨xs,m,hx,hl,hxl,hf⟩:=vL QT hh
    match cs',hl,xs,hxl with
    | [a0,a1,a2,a3,a4,a5],_,[w0,w1],_ =>
     have g0:=hf 0 _ _ _ O;have g1:=hf 1 _ _ _ O
     simp only at hx
     have hD':Rows.uptoBulk D'=Rows.uptoBulk w0.1+(Rows.uptoBulk w1.1+0)+1:=by
      rw [hx];simp only [iT,ru,Rows.uptoBulk,Rows.uptoBulkAll]
     obtain ⟨hd2,p2,U0,l2,q0,JX,sh2⟩:=Dx g0
     obtain ⟨cl,cv,q1,rc,sc⟩:=vK (dat:=dh.dat) (sz:=7) V underlying47 MO g1 (fun n cs'' Ls Tx sO hlt2=>by
      obtain ⟨xs,m,hx2,hl2,JA,hf2⟩:=vL QS sO
      match cs'',hl2,xs,JA with
      | [b0,b1,b2,b3,b4,b5,b6],_,[v0,v1,v2],_ =>
       have u0:=hf2 0 _ _ _ O;have u1:=hf2 1 _ _ _ O;have u2:=hf2 2 _ _ _ O
       simp only at hx2
       have WZ:Rows.uptoBulk Ls=Rows.uptoBulk v0.1+(Rows.uptoBulk v1.1+(Rows.uptoBulk v2.1+0))+1:=by
        rw [hx2];simp only [iT,ru,Rows.uptoBulk,Rows.uptoBulkAll]
       obtain ⟨j0,t0,z0,-⟩:=DataW.trod_int underlying3 u0;obtain ⟨hd3,p3,U1,l3,t1,JY,sh3⟩:=Dx u1;obtain ⟨yX,WT,t2,JW,sf3⟩:=vK (dat:=aS.dat) (sz:=11) V underlying32 He u2 (fun n UW D3 Tz hh3 hlt3=>ih n UW D3 Tz hh3 V)
       simp at t0 t1 t2
       obtain ⟨rfl,rfl,rfl,rfl,rfl⟩:=t1;subst t0 t2;have hz:=uP (dh.mk j0 hd3 yX)
       simp only [dh.head,dh.flow] at hz
       have bz:Rows.uptoBulk v0.1=1:=by rw [z0];rfl
       exact ⟨dh.mk j0 hd3 yX,aZ.PO (x:=dh.mk j0 hd3 yX) JY JW,by simp only [gZ] at hz;omega⟩)
     simp at q0 q1
     obtain ⟨rfl,rfl,rfl,rfl,rfl⟩:=q0;subst q1;have hz:=uQ (bV.mk hd2 cl)
     simp only [bV.head,bV.cells] at hz
     exact ⟨bV.mk hd2 cl,aZ.PS (x:=bV.mk hd2 cl) JX rc,by simp only [jJ] at hz;omega⟩)
   simp at e0 e1 e2 e3 e4 e5 e6
   obtain ⟨rfl,rfl,rfl,rfl,rfl⟩:=e4;subst e0 e1 e2 e3 e5 e6;have hz:=zW (aS.mk k0 k1 k2 s hd fl rs)
   simp only [aS.text,aS.head,aS.flow,aS.rows] at hz
   have b0:Rows.uptoBulk y0.1=1:=by rw [d0];rfl
   have b1:Rows.uptoBulk y1.1=1:=by rw [d1];rfl
   have b2:Rows.uptoBulk y2.1=1:=by rw [d2];rfl
   have b3:Rows.uptoBulk y3.1=s.size+1:=by rw [d3];show s.data.toList.length+1=s.data.size+1;rw [Array.length_toList]
   exact ⟨aS.mk k0 k1 k2 s hd fl rs,aZ.mkItem (x:=aS.mk k0 k1 k2 s hd fl rs) rh rf rr,by simp only [gZ,kg] at hz;omega⟩
theorem aae {n:Nat} {cs:List av} {x:DataW H × List MemPlace} (h:DataW.trod enc prog W base spare held n 32 cs=some x):∃ (l:List aS) (v:av),cs=[v]∧aC (oV W) (.sl 11 (l.map aS.dat)) v∧gZ l+8<=8*Rows.uptoBulk x.1 :=
 vK (dat:=aS.dat) (sz:=11) V underlying32 He h (fun n cs' D' dx hh _=>Qi _ n cs' D' dx hh (Nat.lt_succ_self _))
end
end
section
open Go.ChangeShapes Go.RowKit Go.Deep
section
variable {H:Type} {enc:TypeId × av->H} {W:World} {base:Nat} {spare:Nat->Bool} {held:Bool}
theorem aac {n:Nat} {cs:List av} {D:DataW H} {Pl:List MemPlace} (h:DataW.trod enc prog W base spare held n 76 cs=some (D,Pl)):∃ r:dh,aZ (oV W) r.dat cs∧iC r.dat+1<=8*Rows.uptoBulk D:=by
 obtain ⟨xs,m,hx2,hl2,JA,hf2⟩:=vL QS h
 match cs,hl2,xs,JA with
 | [b0,b1,b2,b3,b4,b5,b6],_,[v0,v1,v2],_ =>
  have u0:=hf2 0 _ _ _ O;have u1:=hf2 1 _ _ _ O;have u2:=hf2 2 _ _ _ O
  simp only at hx2
  have WZ:Rows.uptoBulk D=Rows.uptoBulk v0.1+(Rows.uptoBulk v1.1+(Rows.uptoBulk v2.1+0))+1:=by
   rw [hx2];simp only [iT,ru,Rows.uptoBulk,Rows.uptoBulkAll]
  obtain ⟨j0,t0,z0,-⟩:=DataW.trod_int underlying3 u0;obtain ⟨hd3,p3,U1,l3,t1,JY,sh3⟩:=Dx u1;obtain ⟨yX,WT,t2,JW,sf3⟩:=aae u2
  simp at t0 t1 t2
  obtain ⟨rfl,rfl,rfl,rfl,rfl⟩:=t1;subst t0 t2;have hz:=uP (dh.mk j0 hd3 yX)
  simp only [dh.head,dh.flow] at hz
  have bz:Rows.uptoBulk v0.1=1:=by rw [z0];rfl
  exact ⟨dh.mk j0 hd3 yX,aZ.PO (x:=dh.mk j0 hd3 yX) JY JW,V⟩
theorem aah {n:Nat} {cs:List av} {D:DataW H} {Pl:List MemPlace} (h:DataW.trod enc prog W base spare held n 49 cs=some (D,Pl)):∃ r:bV,aZ (oV W) r.dat cs∧iC r.dat+1<=8*Rows.uptoBulk D:=by
 obtain ⟨xs,m,hx,hl,hxl,hf⟩:=vL QT h
 match cs,hl,xs,hxl with
 | [a0,a1,a2,a3,a4,a5],_,[w0,w1],_ =>
  have g0:=hf 0 _ _ _ O;have g1:=hf 1 _ _ _ O
  simp only at hx
  have hD':Rows.uptoBulk D=Rows.uptoBulk w0.1+(Rows.uptoBulk w1.1+0)+1:=by
   rw [hx];simp only [iT,ru,Rows.uptoBulk,Rows.uptoBulkAll]
  obtain ⟨hd2,p2,U0,l2,q0,JX,sh2⟩:=Dx g0;obtain ⟨cl,cv,q1,rc,sc⟩:=vK (dat:=dh.dat) (sz:=7) V underlying47 MO g1 (fun n cs'' Ls Tx sO _=>aac sO)
  simp at q0 q1
  obtain ⟨rfl,rfl,rfl,rfl,rfl⟩:=q0;subst q1;have hz:=uQ (bV.mk hd2 cl)
  simp only [bV.head,bV.cells] at hz
  exact ⟨bV.mk hd2 cl,aZ.PS (x:=bV.mk hd2 cl) JX rc,by simp only [jJ] at hz;omega⟩
theorem Qj {n:Nat} {cs:List av} {x:DataW H × List MemPlace} (h:DataW.trod enc prog W base spare held n 22 cs=some x):∃ (l:List bV) (v:av),cs=[v]∧aC (oV W) (.sl 6 (l.map bV.dat)) v∧kg l+8<=8*Rows.uptoBulk x.1 :=
 vK (dat:=bV.dat) (sz:=6) V underlying22 MP h (fun n cs' D' dx hh _=>aah hh)
end
end
end Go.Proofs.YtomebajfpcjoeaaDoor
